/- SimplexDecides: any constraints get a point at which all of them hold, or numbers that refute them. Conditions: the arguments hold together at most 1048576 values (the second form, Upto). -/
import Derived.Test.YthpaifdfafjlcaaGreatSq
import Derived.Test.YthpaifdfafjlcaaGreatSolAll
import Derived.Test.YthpaifdfafjlcaaGreatFrameAll
import Derived.Test.YthpaifdfafjlcaaGreatPAwake21
namespace Go.Proofs.YthpaifdfafjlcaaGreat.simplexDecides
open Go.ChangeShapes Go.WideShapes Go.ChangeAt Go.RowKit Go.Att

set_option maxHeartbeats 8000000 in
set_option maxRecDepth 100000 in
set_option linter.unusedSimpArgs false in
theorem walk {w:World} {n:Int} (_hn : -9223372036854775808≤n∧n≤9223372036854775807) {v1:Value} {l1:List NAT} (hv1:RdRow 5 RdNA w v1 l1) (_hb1:∀ p∈l1,bA p≤1048576) (_hn1:l1.length≤1048576):
  Calls Tryz.prog 4 #[.int .i64 n,v1] w (Gives w fun v' _=>v'=.bool true):=by
 refine via fun R hR=>?_
 have HCU:Hid (Calls Tryz.prog 13 #[v1] w (Gives w fun v' w'=>OwnRow 5 OwnCa 77 w.heap.size w' v' (cutL l1))):=cut21_any hv1
 have HAT:Hid (∀ w' v,RdRow 5 RdNA w' v (cutL l1)→Calls Tryz.prog 10 #[v] w' (Gives w' fun v' w'=>RdRow 5 OwnA w' v' (LC l1))):=fun w' v h=>(atoms_cut h).mono fun _ _ ⟨v,e,b,o⟩=>⟨v,e,b,o.rd⟩
 have HSO:Hid (∀ w' v,RdRow 5 OwnA w' v (LC l1)→Calls Tryz.prog 14 #[.int .i64 n,v] w' (Gives w' fun v' w''=>∃ f P T,SolW n (LC l1) w'.heap.size w'' v' f P T∧SolF n (LC l1) f P T)):=fun w' v h=>solve_cut h
 have HLI:Hid (∀ w' v,RdRow 5 OwnA w' v (LC l1)→Calls Tryz.prog 12 #[v] w' (Gives w' fun v' w'=>RdRow 5 OwnB9 w' v' (LC l1))):=fun w' v h=>list9_in h LC_smx (by have:=LC_len l1;omega)
 have HRC:Hid (∀ w' v,RdRow 5 OwnB9 w' v (LC l1)→Calls Tryz.prog 11 #[.int .i64 n,v] w' (Gives w' fun v' _=>v'=.int .i64 (chkS n (LC l1)))):=fun w' v h=>rcheck21_any h fun a ha=>by have:=(LC_smx a ha).1;omega
 have HRI:Hid (∀ w' v vp vt f P T,chkS n (LC l1)=0→SolF n (LC l1) f P T→RdRow 5 OwnA w' v (LC l1)→RdRow 3 (OwnQp 115) w' vp P→RdRow 3 (OwnQp 115) w' vt T→Calls Tryz.prog 17 #[.int .i64 n,v,.agg #[.bool f,vp,vt]] w' (Gives w' fun v' _=>v'=.bool true)):=fun w' v vp vt f P T hc h h1 h2 h3=>by
  rcases h with ⟨h0,-⟩ | ⟨-,n0,rfl,h⟩
  ·exact absurd hc h0
  ·exact right_sol h hc LC_tame (LC_len l1) LC_smx h1 h2 h3
 have HTO:Hid (∀ w' vp vt,RdRow 3 (OwnQp 115) w' vp []→RdRow 3 (OwnQp 115) w' vt []→Calls Tryz.prog 16 #[.agg #[.bool false,vp,vt]] w' (Gives w' fun v' w'=>∃ x y,v'=.agg #[.bool false,x,y]∧RdRow 3 (OwnPp 4) w' x []∧RdRow 3 (OwnPp 4) w' y [])):=fun w' vp vt h1 h2=>
  told21_any (RdRow.mono h1 fun _ _ h=>OwnQ.rd h) (RdRow.mono h2 fun _ _ h=>OwnQ.rd h) (fun p hp=>by cases hp) (fun p hp=>by cases hp) (by decide) (by decide)
 have HSA:Hid (∀ w' x y,RdRow 3 (OwnPp 4) w' x []→RdRow 3 (OwnPp 4) w' y []→Calls Tryz.prog 15 #[.agg #[.bool false,x,y],.agg #[.bool false,.slice none 0 0,.slice none 0 0]] w' (Gives w' fun v' _=>v'=.bool true)):=fun w' x y h1 h2=>
  same21_yes h1 h2 (OwnRow.nil 81 0 _).rd (OwnRow.nil 81 0 _).rd (fun p hp=>by cases hp) (fun p hp=>by cases hp) (by decide) (by decide)
 obtain ⟨a1,k1,rfl,-,-⟩:=hv1.shape
 clear hv1 _hb1
 generalize l1.length=m1 at*
 go_enter Tryz.func4,Tryz.ntmps4
 go_wp2_with fail
 refine HCU.out.mono ?_
 rintro e w1 ⟨v2,rfl,b1,o1⟩
 have O1:=Lib.hid (RdRow.mono o1.rd fun _ _ h=>OwnNA.rd h)
 clear o1 HCU
 go_wp2_with fail
 refine (HAT.out _ _ O1.out).mono ?_
 rintro e w2 ⟨v3,rfl,b2,o2⟩
 have O2:=Lib.hid o2
 clear o2
 go_wp2_with fail
 refine (HSO.out _ _ O2.out).mono ?_
 rintro e w3 ⟨_,rfl,b3,f,P,T,⟨vp,vt,rfl,op,ot⟩,hsf⟩
 have HSF:=Lib.hid hsf
 have OP:=Lib.hid op.rd
 have OT:=Lib.hid ot.rd
 obtain ⟨ap,kp,rfl,-,-⟩:=op.rd.shape
 obtain ⟨at7,kt,rfl,-,-⟩:=ot.rd.shape
 obtain ⟨np,hnp⟩:∃ n,n=P.length:=⟨_,rfl⟩
 obtain ⟨nt,hnt⟩:∃ n,n=T.length:=⟨_,rfl⟩
 rw [← hnp] at OP ⊢
 rw [← hnt] at OT ⊢
 clear op ot hsf hnp hnt O2
 obtain ⟨w4,hw4,b4,c4,-,-⟩:=bx1 w3 [.bool f,.slice ap np kp,.slice at7 nt kt] 35
 have HW:=Lib.hid hw4
 have C4:=Lib.hid c4
 have OP4:=Lib.hid (OP.out.ext OwnQ.ext b4)
 have OT4:=Lib.hid (OT.out.ext OwnQ.ext b4)
 have x14:=Ext.trans b2 (Ext.trans b3 b4)
 have O4:=Lib.hid (O1.out.ext RdNA.ext x14)
 have x4:=Ext.trans b1 x14
 clear hw4 c4 OP OT
 have HCH:=Lib.hid (rfl:chkS n (LC l1)=chkS n (LC l1))
 obtain ⟨c,hc⟩:∃ c,chkS n (LC l1)=c:=⟨_,rfl⟩
 have HC:=Lib.hid hc
 rw [hc] at HRC ⊢
 clear hc HCH
 go_upto_region 3 with (fail)
 rw [← HW.out]
 clear HW
 obtain ⟨e5,he5⟩:∃ e,e=w3.heap.size:=⟨_,rfl⟩
 rw [← he5] at C4 ⊢
 clear he5
 go_wp2_with fail
 refine (HAT.out _ _ O4.out).mono ?_
 rintro e w5 ⟨v5,rfl,b5,o5⟩
 have O5:=Lib.hid o5
 clear o5
 go_wp2_with fail
 refine (HLI.out _ _ O5.out).mono ?_
 rintro e w6 ⟨v6,rfl,b6,o6⟩
 have O6:=Lib.hid o6
 clear o6
 by_cases h0:c=0
 ·subst h0
  go_wp2_with fail
  refine (HRC.out _ _ O6.out).mono ?_
  rintro e w7 ⟨_,rfl,b7,rfl⟩
  have x47:=Ext.trans b5 (Ext.trans b6 b7)
  have C7:=Lib.hid (C4.out.ext x47)
  have OP7:=Lib.hid (OP4.out.ext OwnQ.ext x47)
  have OT7:=Lib.hid (OT4.out.ext OwnQ.ext x47)
  have O7:=Lib.hid (O4.out.ext RdNA.ext x47)
  have x7:=Ext.trans x4 x47
  have HAW:Hid (∀ w',Calls Tryz.prog 8 #[] w' (Gives w' fun v' _=>v'=.bool true)):=fun w'=>awake21
  go_upto_region 6 with (fail)
  have b8:=drew_ext w7
  have XE:=b8
  refine wp_region_noPanic ?_
  refine wp_region_held_drew (S:=fun w'=>w'.cell? ⟨e5,0,none⟩=some (.bool f)∧w'.cell? ⟨e5,1,none⟩=some (.slice ap np kp)∧w'.cell? ⟨e5,2,none⟩=some (.slice at7 nt kt)) (by kernel_rfl) ((C7.out.ext XE).c3) (fun hHeld=>?_)
  refine rdH 0 (by kernel_rfl) rfl (fun K hK=>?_)
  go_simp
  go_at_call 8;refine (HAW.out _).mono ?_;rintro e w9 ⟨_,rfl,b9,rfl⟩;(first | have XE:=Ext.trans XE b9 | have XE:=Ext.trans (Ext.trans XE (Ext.alloc _ _)) b9)
  go_wp2_with fail
  refine hK.out _ _ ((C7.out.ext XE).c3) (fun hHeld=>?_)
  clear hK K
  try simp only [jP,jA,jB,jC,jD,jE,jF]
  refine tkH 1 hHeld ?_
  simp only [jP,jA,jB,jC,jD,jE,jF]
  refine tkH 2 hHeld ?_
  simp only [jP,jA,jB,jC,jD,jE,jF]
  refine tkH 3 hHeld ?_
  simp only [jP,jA,jB,jC,jD,jE,jF]
  refine tkH 4 hHeld ?_
  simp only [jP,jA,jB,jC,jD,jE,jF]
  refine tkH 5 hHeld ?_
  simp only [jP,jA,jB,jC,jD,jE,jF]
  refine tkH 6 hHeld ?_
  simp only [jP,jA,jB,jC,jD,jE,jF]
  refine tkH 7 hHeld ?_
  simp only [jP,jA,jB,jC,jD,jE,jF]
  refine tkH 9 hHeld ?_
  simp only [jP,jA,jB,jC,jD,jE,jF]
  refine rdH 8 (by kernel_rfl) rfl (fun K hK=>?_)
  go_simp
  go_at_call 10;refine (HAT.out _ _ (O7.out.ext RdNA.ext XE)).mono ?_;rintro e w10 ⟨v10,rfl,b10,o10⟩;have O10:=Lib.hid o10;clear o10;(first | have XE:=Ext.trans XE b10 | have XE:=Ext.trans (Ext.trans XE (Ext.alloc _ _)) b10)
  go_wp2_with fail
  refine hK.out _ _ ((C7.out.ext XE).c3) (fun hHeld=>?_)
  clear hK K
  try simp only [jP,jA,jB,jC,jD,jE,jF]
  refine rdH 10 (by kernel_rfl) rfl (fun K hK=>?_)
  go_simp
  go_at_call 17;refine (HRI.out _ _ _ _ _ _ _ HC.out HSF.out O10.out (OP7.out.ext OwnQ.ext XE) (OT7.out.ext OwnQ.ext XE)).mono ?_;rintro e w11 ⟨_,rfl,b11,rfl⟩;(first | have XE:=Ext.trans XE b11 | have XE:=Ext.trans (Ext.trans XE (Ext.alloc _ _)) b11)
  go_wp2_with fail
  refine hK.out _ _ ((C7.out.ext XE).c3) (fun hHeld=>?_)
  clear hK K
  try simp only [jP,jA,jB,jC,jD,jE,jF]
  refine tkH 11 hHeld ?_
  simp only [jP,jA,jB,jC,jD,jE,jF]
  refine tkH 12 hHeld ?_
  simp only [jP,jA,jB,jC,jD,jE,jF]
  refine wpAnyH_done (by kernel_rfl) ?_ _
  refine NoPanic.normal ?_
  go_wp2_with fail
  exact hR.out _ _ (Gives.mk (Ext.trans x7 XE) rfl)
 ·have hb:(c != 0)=true:=bneT h0
  have HF0:Hid (f=false∧P=[]∧T=[]):=by
   rcases HSF.out with ⟨-,h⟩ | ⟨h,-⟩
   ·exact h
   ·exact absurd (HC.out ▸ h) h0
  obtain ⟨rfl,rfl,rfl⟩:=HF0.out
  clear HF0 h0 HRI
  go_wp2_with fail
  refine (HRC.out _ _ O6.out).mono ?_
  rintro e w7 ⟨_,rfl,b7,rfl⟩
  have x47:=Ext.trans b5 (Ext.trans b6 b7)
  go_wp2_with fail
  refine awake21.mono ?_
  rintro e w8 ⟨_,rfl,b8,rfl⟩
  have x48:=Ext.trans x47 b8
  have hcc:(c == c)=true:=beqT rfl
  obtain ⟨k0,k1',k2⟩:=(C4.out.ext x48).c3
  go_wp2_with fail
  refine (HTO.out _ _ _ (OP4.out.ext OwnQ.ext x48) (OT4.out.ext OwnQ.ext x48)).mono ?_
  rintro e w9 ⟨_,rfl,b9,x,y,rfl,ox,oy⟩
  have OX:=Lib.hid ox
  have OY:=Lib.hid oy
  clear ox oy k0 k1' k2
  go_wp2_with fail
  refine (HSA.out _ _ _ OX.out OY.out).mono ?_
  rintro e w10 ⟨_,rfl,b10,rfl⟩
  go_wp2_with fail
  exact hR.out _ _ (Gives.mk (Ext.trans x4 (Ext.trans x48 (Ext.trans b9 b10))) rfl)
theorem own:ownKnob Tryz.prog.godebug=none:=by kernel_rfl
theorem laidOut:laidOutB Tryz.prog=true:=by kernel_rfl

set_option maxRecDepth 100000 in
theorem contract (H:Type) (enc:TypeId × Value→H) (W:World) (base:Nat) (args:Array Value) (ds gs:List (DataW H)) (before:List MemPlace)
  (hval:∀ (j:Nat) t v,Tryz.f4.params[j]?=some t→args[j]?=some v→Value.okWide Tryz.prog W .any base t v)
  (hW:DataW.Whole enc Tryz.prog Tryz.f4.params.toList Rows.simplexDecidesSpec.vars false W args.toList ds gs before) (hk:Rows.uptoSmall H (ds ++ gs)=true):
  Calls Tryz.prog 4 args W fun e W'=>∃ v,e=.returned v∧Rows.simplexDecidesSpec.post enc Tryz.prog Tryz.f4 false true false false W args v W':=by
 have hW':=hW
 obtain ⟨p,q,hA0,hV,rfl,hfz,hnd⟩:=hW
 have hA:DataW.TrodAll enc Tryz.prog W 0 (fun _=>true) true Tryz.f4.params.toList args.toList ds p:=hA0
 rw [Tryz.params4] at hA hval
 obtain ⟨v0,vs0,d0,ds0,p0,q0,hargs,rfl,rfl,h0,r0⟩:=trodAll_cons hA
 obtain ⟨v1,vs1,d1,ds1,p1,q1,rfl,rfl,rfl,h1,r1⟩:=trodAll_cons r0
 obtain ⟨rfl,rfl,rfl⟩:=trodAll_nil r1
 obtain rfl:args=#[v0,v1]:=by cases args;simp_all
 obtain ⟨rfl,rfl⟩:=trodVars_none hV
 have hb:=bulk_small hk
 simp only [List.append_nil,bulk_cons,bulk_nil] at hb
 obtain ⟨a0,rfl,rfl,rfl,wf0⟩:=open_int Tryz.underlying3 (hval 0 3 v0 rfl rfl) h0
 have k1:=h1
 have lt1:∀ x∈p1,x.block < W.heap.size:=by obtain ⟨m,hm⟩:=k1;exact DataW.trod_lt m _ _ _ hm
 obtain ⟨l1,rd1,bd1,len1⟩:=open_rowA Tryz.underlying22 (hval 1 22 v1 rfl rfl) h1
 clear hA0
 refine (walk (wf_int wf0) rd1 (fun p hp=>by have:=bd1 p hp;omega) (by omega)).mono fun e W' ⟨v,he,bel,hv⟩=>?_
 subst he hv
 exact ⟨_,rfl,_,_,_,[],_,[],hW',trodAll_mk1 (shut_bool Tryz.underlying4 _),(trodAll_cons_mk (shut_int Tryz.underlying3 wf0) (trodAll_cons_mk (Below.trod laidOut (by kernel_rfl) (of_decide_eq_true (by kernel_rfl)) k1 bel lt1) trodAll_mk0)),rfl,bel.frame _,fun h=>by cases h⟩

set_option maxRecDepth 100000 in
theorem lifted (os:Os) (started:os.Started) (H:Type) (enc:TypeId × Value→H) (F:Stop.Interp):
  ReturnsInHanded {} Tryz.checked os 4 .any ((Rows.OpenSpec.upto Rows.simplexDecidesSpec).pre6 enc Tryz.prog Tryz.f4 Rows.simplexDecidesUptoRow.domain false) (((Rows.OpenSpec.upto Rows.simplexDecidesSpec).at F).post enc Tryz.prog Tryz.f4 false true false false):=by
 refine returnsInHanded_of_cond (C:=Tryz.checked) (s:=Rows.OpenSpec.upto Rows.simplexDecidesSpec) (k:=Rows.uptoSmall) rfl own started (by kernel_rfl) Tryz.func4
  (OpenSpec.witness (enc:=enc) (C:=Tryz.checked) (s:=Rows.OpenSpec.upto Rows.simplexDecidesSpec) (k:=Rows.uptoSmall) rfl false ⟨#[],#[.int .i64 0,.slice none 0 0],[]⟩ 8 (by kernel_rfl) (by kernel_rfl) (by kernel_rfl)
   (x:=([.lit (.int .i64 0),.nil],[],[])) (by kernel_rfl) rfl (by kernel_rfl)) ?_
 intro W base args ds gs before hval hW _ hk _
 exact contract H enc W base args ds gs before hval hW hk

theorem proved:Rows.SimplexDecidesUptoSaid:=
 OpenClaim.holds_of_cond 4 Tryz.f4 rfl rfl rfl rfl rfl rfl rfl ⟨rfl,rfl,rfl,rfl,rfl⟩ rfl rfl rfl rfl rfl (by kernel_rfl) Tryz.func4 (by kernel_rfl)
  (of_decide_eq_true (by kernel_rfl)) (by unfold Func.isWrapper;first | (rw [if_pos (by decide +kernel)];kernel_rfl) | (rw [if_neg (by decide +kernel)];exact ⟨rfl,rfl⟩))
  (fun os started H enc _ F=>lifted os started H enc F)
#print axioms proved

end Go.Proofs.YthpaifdfafjlcaaGreat.simplexDecides
