/- SimplexChecks: constraints with wrong variables or comparisons, or too many, are refused. Conditions: the arguments hold together at most 1048576 values (the second form, Upto). -/
import Derived.Test.YthpaifdfafjlcaaGreatPFarkIn
import Derived.Test.YthpaifdfafjlcaaGreatFrameAll
import Derived.Test.YthpaifdfafjlcaaGreatPAwake21
import Derived.Test.YthpaifdfafjlcaaGreatR21All
namespace Go.Proofs.YthpaifdfafjlcaaGreat.simplexChecks
open Go.ChangeShapes Go.WideShapes Go.ChangeAt Go.RowKit Go.Att

set_option maxHeartbeats 4000000 in
set_option maxRecDepth 100000 in
set_option linter.unusedSimpArgs false in
theorem walk {w:World} {n:Int} (_hn : -9223372036854775808≤n∧n≤9223372036854775807) {v1:Value} {l1:List NAT} (hv1:RdRow 5 RdNA w v1 l1) (hb1:∀ p∈l1,bA p≤1048576) (_hn1:l1.length≤1048576):
  Calls Tryz.prog 3 #[.int .i64 n,v1] w (Gives w fun v' _=>v'=.bool true):=by
 refine via fun R hR=>?_
 have ZL:=smx_rowA hv1 10
 have NL:((l1.take 10).map atA).length≤10:=by rw [List.length_map,List.length_take];omega
 have TL1:∀ a∈(l1.take 10).map atA,a.1.1.length≤100000:=fun a ha=>by have:=(ZL a ha).1;omega
 have HAT:Hid (∀ w',Ext w w'→Calls Tryz.prog 10 #[v1] w' (Gives w' fun v' w'=>RdRow 5 OwnA w' v' ((l1.take 10).map atA))):=fun w' x=>atoms_in hb1 (hv1.ext RdNA.ext x)
 have HCK:Hid (∀ w' v,RdRow 5 OwnA w' v ((l1.take 10).map atA)→Calls Tryz.prog 9 #[.int .i64 n,v] w' (Gives w' fun v' _=>v'=.int .i64 (chkS n ((l1.take 10).map atA)))):=fun w' v h=>scheck21_any h TL1
 have HLI:Hid (∀ w' v,RdRow 5 OwnA w' v ((l1.take 10).map atA)→Calls Tryz.prog 12 #[v] w' (Gives w' fun v' w'=>RdRow 5 OwnB9 w' v' ((l1.take 10).map atA))):=fun w' v h=>list9_in h ZL (by omega)
 have HRC:Hid (∀ w' v,RdRow 5 OwnB9 w' v ((l1.take 10).map atA)→Calls Tryz.prog 11 #[.int .i64 n,v] w' (Gives w' fun v' _=>v'=.int .i64 (chkS n ((l1.take 10).map atA)))):=fun w' v h=>rcheck21_any h TL1
 obtain ⟨a1,k1,rfl,-,-⟩:=hv1.shape
 clear hv1 hb1 ZL NL TL1
 generalize (l1.take 10).map atA=L at*
 generalize chkS n L=c at*
 go_enter Tryz.func3,Tryz.ntmps3
 go_wp2_with fail
 refine awake21.mono ?_
 rintro e w1 ⟨_,rfl,b1,rfl⟩
 go_wp2_with fail
 refine (HAT.out _ b1).mono ?_
 rintro e w2 ⟨v2,rfl,b2,o2⟩
 have O2:=Lib.hid o2
 clear o2
 go_wp2_with fail
 refine (HCK.out _ _ O2.out).mono ?_
 rintro e w3 ⟨_,rfl,b3,rfl⟩
 have x3:=Ext.trans b1 (Ext.trans b2 b3)
 go_wp2_with fail
 refine (HAT.out _ x3).mono ?_
 rintro e w4 ⟨v4,rfl,b4,o4⟩
 have O4:=Lib.hid o4
 clear o4
 go_wp2_with fail
 refine (HLI.out _ _ O4.out).mono ?_
 rintro e w5 ⟨v5,rfl,b5,o5⟩
 have O5:=Lib.hid o5
 clear o5
 go_wp2_with fail
 refine (HRC.out _ _ O5.out).mono ?_
 rintro e w6 ⟨_,rfl,b6,rfl⟩
 have hb:(c == c)=true:=beqT rfl
 go_wp2_with fail
 exact hR.out _ _ (Gives.mk (Ext.trans x3 (Ext.trans b4 (Ext.trans b5 b6))) rfl)
theorem own:ownKnob Tryz.prog.godebug=none:=by kernel_rfl
theorem laidOut:laidOutB Tryz.prog=true:=by kernel_rfl

set_option maxRecDepth 100000 in
theorem contract (H:Type) (enc:TypeId × Value→H) (W:World) (base:Nat) (args:Array Value) (ds gs:List (DataW H)) (before:List MemPlace)
  (hval:∀ (j:Nat) t v,Tryz.f3.params[j]?=some t→args[j]?=some v→Value.okWide Tryz.prog W .any base t v)
  (hW:DataW.Whole enc Tryz.prog Tryz.f3.params.toList Rows.simplexChecksSpec.vars false W args.toList ds gs before) (hk:Rows.uptoSmall H (ds ++ gs)=true):
  Calls Tryz.prog 3 args W fun e W'=>∃ v,e=.returned v∧Rows.simplexChecksSpec.post enc Tryz.prog Tryz.f3 false true false false W args v W':=by
 have hW':=hW
 obtain ⟨p,q,hA0,hV,rfl,hfz,hnd⟩:=hW
 have hA:DataW.TrodAll enc Tryz.prog W 0 (fun _=>true) true Tryz.f3.params.toList args.toList ds p:=hA0
 rw [Tryz.params3] at hA hval
 obtain ⟨v0,vs0,d0,ds0,p0,q0,hargs,rfl,rfl,h0,r0⟩:=trodAll_cons hA
 obtain ⟨v1,vs1,d1,ds1,p1,q1,rfl,rfl,rfl,h1,r1⟩:=trodAll_cons r0
 obtain ⟨rfl,rfl,rfl⟩:=trodAll_nil r1
 obtain rfl:args=#[v0,v1]:=by cases args;simp_all
 obtain ⟨rfl,rfl⟩:=trodVars_none hV
 have hb:=bulk_small hk
 simp only [List.append_nil,bulk_cons,bulk_nil] at hb
 obtain ⟨a0,rfl,rfl,rfl,wf0⟩:=open_int Tryz.underlying3 (hval 0 3 v0 rfl rfl) h0
 have k1:=h1
 have lt1:∀ x∈p1,x.block < W.heap.size:=by obtain ⟨m,hm⟩:=k1;exact DataW.trod_lt m _ _ _ hm
 obtain ⟨l1,rd1,bd1,len1⟩:=open_rowA Tryz.underlying22 (hval 1 22 v1 rfl rfl) h1
 clear hA0
 refine (walk (wf_int wf0) rd1 (fun p hp=>by have:=bd1 p hp;omega) (by omega)).mono fun e W' ⟨v,he,bel,hv⟩=>?_
 subst he hv
 exact ⟨_,rfl,_,_,_,[],_,[],hW',trodAll_mk1 (shut_bool Tryz.underlying4 _),(trodAll_cons_mk (shut_int Tryz.underlying3 wf0) (trodAll_cons_mk (Below.trod laidOut (by kernel_rfl) (of_decide_eq_true (by kernel_rfl)) k1 bel lt1) trodAll_mk0)),rfl,bel.frame _,fun h=>by cases h⟩

set_option maxRecDepth 100000 in
theorem lifted (os:Os) (started:os.Started) (H:Type) (enc:TypeId × Value→H) (F:Stop.Interp):
  ReturnsInHanded {} Tryz.checked os 3 .any ((Rows.OpenSpec.upto Rows.simplexChecksSpec).pre6 enc Tryz.prog Tryz.f3 Rows.simplexChecksUptoRow.domain false) (((Rows.OpenSpec.upto Rows.simplexChecksSpec).at F).post enc Tryz.prog Tryz.f3 false true false false):=by
 refine returnsInHanded_of_cond (C:=Tryz.checked) (s:=Rows.OpenSpec.upto Rows.simplexChecksSpec) (k:=Rows.uptoSmall) rfl own started (by kernel_rfl) Tryz.func3
  (OpenSpec.witness (enc:=enc) (C:=Tryz.checked) (s:=Rows.OpenSpec.upto Rows.simplexChecksSpec) (k:=Rows.uptoSmall) rfl false ⟨#[],#[.int .i64 0,.slice none 0 0],[]⟩ 8 (by kernel_rfl) (by kernel_rfl) (by kernel_rfl)
   (x:=([.lit (.int .i64 0),.nil],[],[])) (by kernel_rfl) rfl (by kernel_rfl)) ?_
 intro W base args ds gs before hval hW _ hk _
 exact contract H enc W base args ds gs before hval hW hk

theorem proved:Rows.SimplexChecksUptoSaid:=
 OpenClaim.holds_of_cond 3 Tryz.f3 rfl rfl rfl rfl rfl rfl rfl ⟨rfl,rfl,rfl,rfl,rfl⟩ rfl rfl rfl rfl rfl (by kernel_rfl) Tryz.func3 (by kernel_rfl)
  (of_decide_eq_true (by kernel_rfl)) (by unfold Func.isWrapper;first | (rw [if_pos (by decide +kernel)];kernel_rfl) | (rw [if_neg (by decide +kernel)];exact ⟨rfl,rfl⟩))
  (fun os started H enc _ F=>lifted os started H enc F)
#print axioms proved

end Go.Proofs.YthpaifdfafjlcaaGreat.simplexChecks
