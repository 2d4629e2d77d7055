/- SimplexNarrows: more constraints never make what is infeasible feasible. Conditions: the arguments hold together at most 1048576 values (the second form, Upto). -/
import Derived.Test.YthpaifdfafjlcaaGreatSolAll
import Derived.Test.YthpaifdfafjlcaaGreatFrameAll
import Derived.Test.YthpaifdfafjlcaaGreatPAwake21
import Derived.Test.YthpaifdfafjlcaaGreatRowApp
namespace Go.Proofs.YthpaifdfafjlcaaGreat.simplexNarrows
open Go.ChangeShapes Go.WideShapes Go.ChangeAt Go.RowKit Go.Att

theorem chk_sub {n:Int} {A L:List AT} (h:chkS n L=0) (hs:∀ a∈A,a∈L) (hl:A.length≤L.length):chkS n A=0:=by
 unfold chkS at h ⊢
 split at h
 ·cases h
 ·rename_i h0
  split at h
  ·cases h
  ·rename_i h1
   split at h
   ·cases h
   ·rename_i h2
    rw [if_neg (by omega),if_neg h1,if_neg fun h3=>?_]
    obtain ⟨a,ha,hb⟩:=List.any_eq_true.1 h3
    exact h2 (List.any_eq_true.2 ⟨a,hs a ha,hb⟩)
theorem narrow {n:Int} {A B:List AT} {f f':Bool} {P T P' T':List Rat} (hc:chkS n (A ++ B)=0) (h:SolF n A f P T) (h':SolF n (A ++ B) f' P' T'):f=false→f'=false:=by
 intro hf
 subst hf
 have hcA:chkS n A=0:=chk_sub hc (fun a ha=>List.mem_append_left _ ha) (by rw [List.length_append];omega)
 rcases h with ⟨h0,-⟩ | ⟨-,n0,rfl,h⟩
 ·exact absurd hcA h0
 ·rcases h' with ⟨h0,-⟩ | ⟨-,n1,e,h'⟩
  ·exact absurd hc h0
  ·obtain rfl:n0=n1:=by omega
   cases f' with
   | false=>rfl
   | true=>
    obtain ⟨-,-,h1⟩:=sol_yes hc h'
    exact absurd (fun a ha=>h1 a (List.mem_append_left _ ha)) ((sol_no hcA h).2.2.2.2 P')
set_option maxHeartbeats 8000000 in
set_option maxRecDepth 100000 in
set_option linter.unusedSimpArgs false in
theorem walk {w:World} {n:Int} (_hn : -9223372036854775808≤n∧n≤9223372036854775807) {v1 v2:Value} {l1 l2:List NAT} (hv1:RdRow 5 RdNA w v1 l1) (_hb1:∀ p∈l1,bA p≤1048576) (_hn1:l1.length≤1048576) (hv2:RdRow 5 RdNA w v2 l2) (_hb2:∀ p∈l2,bA p≤1048576) (_hn2:l2.length≤1048576):
  Calls Tryz.prog 6 #[.int .i64 n,v1,v2] w (Gives w fun v' _=>v'=.bool true):=by
 refine via fun R hR=>?_
 have HCU:Hid (∀ w' v l,RdRow 5 RdNA w' v l→Calls Tryz.prog 13 #[v] w' (Gives w' fun v' w''=>OwnRow 5 OwnCa 77 w'.heap.size w'' v' (cutL l))):=fun w' v l h=>cut21_any h
 have HAT:Hid (∀ w' v l,RdRow 5 RdNA w' v (cutL l)→Calls Tryz.prog 10 #[v] w' (Gives w' fun v' w''=>OwnRow 5 OwnA 55 w'.heap.size w'' v' (LC l))):=fun w' v l h=>atoms_cut h
 have ZB:∀ a∈LC l1 ++ LC l2,Tame a∧Smx a.1.1 a.1.2:=fun a ha=>by
  rcases List.mem_append.1 ha with ha | ha
  ·exact ⟨LC_tame a ha,LC_smx a ha⟩
  ·exact ⟨LC_tame a ha,LC_smx a ha⟩
 have NB:(LC l1 ++ LC l2).length≤16:=by have h1:=LC_len l1;have h2:=LC_len l2;rw [List.length_append];omega
 have N1:=Lib.hid (LC_len l1)
 have N2:=Lib.hid (LC_len l2)
 have HLI:Hid (∀ w' v,RdRow 5 OwnA w' v (LC l1 ++ LC l2)→Calls Tryz.prog 12 #[v] w' (Gives w' fun v' w'=>RdRow 5 OwnB9 w' v' (LC l1 ++ LC l2))):=fun w' v h=>list9_in h (fun a ha=>(ZB a ha).2) (by omega)
 have HRC:Hid (∀ w' v,RdRow 5 OwnB9 w' v (LC l1 ++ LC l2)→Calls Tryz.prog 11 #[.int .i64 n,v] w' (Gives w' fun v' _=>v'=.int .i64 (chkS n (LC l1 ++ LC l2)))):=fun w' v h=>rcheck21_any h fun a ha=>by have:=(ZB a ha).2.1;omega
 have HS1:Hid (∀ w' v,RdRow 5 OwnA w' v (LC l1)→Calls Tryz.prog 14 #[.int .i64 n,v] w' (Gives w' fun v' w''=>∃ f P T,SolW n (LC l1) w'.heap.size w'' v' f P T∧SolF n (LC l1) f P T)):=fun w' v h=>solve_cut h
 have HS2:Hid (∀ w' v,n≤8→RdRow 5 OwnA w' v (LC l1 ++ LC l2)→Calls Tryz.prog 14 #[.int .i64 n,v] w' (Gives w' fun v' w''=>∃ f P T,SolW n (LC l1 ++ LC l2) w'.heap.size w'' v' f P T∧SolF n (LC l1 ++ LC l2) f P T)):=fun w' v hn h=>solve_w h (fun a ha=>⟨by have:=(ZB a ha).2.1;omega,fun t ht=>((ZB a ha).2.2.1 t ht).le (by decide)⟩) (fun a ha=>(ZB a ha).1) (.inr hn)
 have HNA:Hid (∀ f f' P T P' T',chkS n (LC l1 ++ LC l2)=0→SolF n (LC l1) f P T→SolF n (LC l1 ++ LC l2) f' P' T'→(f=false→f'=false)∧chkS n (LC l1)=0):=fun f f' P T P' T' hc h h'=>⟨narrow hc h h',chk_sub hc (fun a ha=>List.mem_append_left _ ha) (by rw [List.length_append];omega)⟩
 have HV2:=Lib.hid hv2
 obtain ⟨a1,k1,rfl,-,-⟩:=hv1.shape
 obtain ⟨a2,k2,rfl,-,-⟩:=hv2.shape
 have HV1:=Lib.hid hv1
 clear hv1 hv2 _hb1 _hb2 ZB NB
 obtain ⟨m1,hm1⟩:∃ m,m=l1.length:=⟨_,rfl⟩
 obtain ⟨m2,hm2⟩:∃ m,m=l2.length:=⟨_,rfl⟩
 rw [← hm1] at HV1 ⊢
 rw [← hm2] at HV2 ⊢
 clear hm1 hm2
 go_enter Tryz.func6,Tryz.ntmps6
 go_wp2_with fail
 refine (HCU.out _ _ _ HV1.out).mono ?_
 rintro e w1 ⟨u1,rfl,b1,o1⟩
 have O1:=Lib.hid (RdRow.mono o1.rd fun _ _ h=>OwnNA.rd h)
 clear o1
 go_wp2_with fail
 refine (HCU.out _ _ _ (HV2.out.ext RdNA.ext b1)).mono ?_
 rintro e w2 ⟨u2,rfl,b2,o2⟩
 have O2:=Lib.hid (RdRow.mono o2.rd fun _ _ h=>OwnNA.rd h)
 clear o2
 go_wp2_with fail
 refine (HAT.out _ _ _ (O1.out.ext RdNA.ext b2)).mono ?_
 rintro e w3 ⟨u3,rfl,b3,o3⟩
 have O3:=Lib.hid o3.rd
 clear o3
 go_wp2_with fail
 refine (HAT.out _ _ _ (O2.out.ext RdNA.ext b3)).mono ?_
 rintro e w4 ⟨u4,rfl,b4,o4⟩
 have A4:=Lib.hid (O3.out.ext OwnAt.ext b4)
 have B4:=Lib.hid o4.rd
 have x4:=Ext.trans b1 (Ext.trans b2 (Ext.trans b3 b4))
 clear o4 O1 O2 O3 HV1 HV2 HCU
 have HNI:Hid (OwnRow 5 OwnA 55 w4.heap.size (w4.alloc (.cells #[] 55)) (.slice (some ⟨w4.heap.size,0,none⟩) 0 0) []):=OwnRow.nilLit _ (Nat.le_refl _)
 generalize LC l1=A at*
 generalize LC l2=B at*
 obtain ⟨a4,k4,rfl,-,-⟩:=A4.out.shape
 obtain ⟨c4,j4,rfl,-,-⟩:=B4.out.shape
 go_upto_region 5 with (first
  | (at_builtin;refine append_rowAL (l:=A) (m:=B) etAw (kdAt (by decide) (by decide)) (by rfl) _ _ (by rfl) w4.heap.size (by rfl) O5.out (by rfl) (B4.out.ext OwnAt.ext X5.out) (by have:=N1.out;have:=N2.out;omega) (by have:=N1.out;have:=N2.out;unfold maxLen;omega) (Below.size X5.out) ?_;intro v6 w6 o6 b6 g6;have X6:Hid (Ext w4 w6):=(Below.trans X5.out b6);have O6:=Lib.hid o6.rd;clear o6 g6 b6)
  | (at_builtin;refine append_rowAL (l:=[]) (m:=A) etAw (kdAt (by decide) (by decide)) (by rfl) _ _ (by rfl) w4.heap.size (by rfl) HNI.out (by rfl) (A4.out.ext OwnAt.ext (Ext.alloc _ _)) (by have:=N1.out;simp;omega) (by have:=N1.out;unfold maxLen;simp;omega) (Below.size (Ext.alloc _ _)) ?_;intro v5 w5 o5 b5 g5;have X5:Hid (Ext w4 w5):=(Below.trans (Ext.alloc _ _) b5);have O5:Hid (OwnRow 5 OwnA 55 w4.heap.size w5 v5 A):=(by rw [List.nil_append] at o5;exact o5);clear o5 g5 b5))
 clear HNI O5 X5
 have A6:=Lib.hid (A4.out.ext OwnAt.ext X6.out)
 have x6:=Ext.trans x4 X6.out
 clear A4 B4 X6
 go_wp2_with fail
 refine (HLI.out _ _ O6.out).mono ?_
 rintro e w7 ⟨v7,rfl,b7,o7⟩
 have O7:=Lib.hid o7
 clear o7
 obtain ⟨c,hc⟩:∃ c,chkS n (A ++ B)=c:=⟨_,rfl⟩
 have HC:=Lib.hid hc
 rw [hc] at HRC
 clear hc
 by_cases h0:c=0
 ·subst h0
  by_cases h6:6 < n
  ·have hd6:decide (6 < n)=true:=decide_eq_true h6
   go_wp2_with fail
   refine (HRC.out _ _ O7.out).mono ?_
   rintro e w8 ⟨_,rfl,b8,rfl⟩
   go_wp2_with fail
   refine awake21.mono ?_
   rintro e w9 ⟨_,rfl,b9,rfl⟩
   go_wp2_with fail
   exact hR.out _ _ (Gives.mk (Ext.trans x6 (Ext.trans b7 (Ext.trans b8 b9))) rfl)
  ·have hd6:decide (6 < n)=false:=decide_eq_false h6
   have HN8:Hid (n≤8):=by show n≤8;omega
   clear h6
   go_wp2_with fail
   refine (HRC.out _ _ O7.out).mono ?_
   rintro e w8 ⟨_,rfl,b8,rfl⟩
   have A8:=Lib.hid (A6.out.ext OwnAt.ext (Ext.trans b7 b8))
   have B8:=Lib.hid (O6.out.ext OwnAt.ext (Ext.trans b7 b8))
   have x8:=Ext.trans x6 (Ext.trans b7 b8)
   clear A6 O6 O7 HRC HLI
   go_wp2_with fail
   refine (HS1.out _ _ A8.out).mono ?_
   rintro e w9 ⟨_,rfl,b9,f,P,T,⟨vp,vt,rfl,op,ot⟩,hsf⟩
   have HSF:=Lib.hid hsf
   obtain ⟨ap,kp,rfl,-,-⟩:=op.rd.shape
   obtain ⟨at7,kt,rfl,-,-⟩:=ot.rd.shape
   generalize P.length=np at*
   generalize T.length=nt at*
   clear op ot hsf
   obtain ⟨w10,hw10,b10,c10,-,-⟩:=bx1 w9 [.bool f,.slice ap np kp,.slice at7 nt kt] 35
   have HW:=Lib.hid hw10
   have C10:=Lib.hid c10
   have x810:=Ext.trans b9 b10
   have B10:=Lib.hid (B8.out.ext OwnAt.ext x810)
   clear hw10 c10 B8
   go_upto_region 8 with (fail)
   rw [← HW.out]
   clear HW
   obtain ⟨e10,he10⟩:∃ e,e=w9.heap.size:=⟨_,rfl⟩
   rw [← he10] at C10 ⊢
   clear he10
   go_wp2_with fail
   refine (HS2.out _ _ HN8.out B10.out).mono ?_
   rintro e w11 ⟨_,rfl,b11,f',P',T',⟨vp',vt',rfl,op,ot⟩,hsf⟩
   obtain ⟨HIM,hcA⟩:=HNA.out _ _ _ _ _ _ HC.out HSF.out hsf
   have HCA:=Lib.hid hcA
   have HIM:=Lib.hid HIM
   rw [HCA.out,HC.out]
   obtain ⟨ap',kp',rfl,-,-⟩:=op.rd.shape
   obtain ⟨at11,kt',rfl,-,-⟩:=ot.rd.shape
   generalize P'.length=np' at*
   generalize T'.length=nt' at*
   clear op ot hsf hcA
   obtain ⟨w12,hw12,b12,c12,-,-⟩:=bx1 w11 [.bool f',.slice ap' np' kp',.slice at11 nt' kt'] 35
   have HW:=Lib.hid hw12
   have D12:=Lib.hid c12
   have x1012:=Ext.trans b11 b12
   have C12:=Lib.hid (C10.out.ext x1012)
   have x12:=Ext.trans x8 (Ext.trans x810 x1012)
   clear hw12 c12 C10
   go_upto_region 9 with (fail)
   rw [← HW.out]
   clear HW
   obtain ⟨e12,he12⟩:∃ e,e=w11.heap.size:=⟨_,rfl⟩
   rw [← he12] at D12 ⊢
   clear he12
   go_wp2_with fail
   refine awake21.mono ?_
   rintro e w13 ⟨_,rfl,b13,rfl⟩
   obtain ⟨k0,-,-⟩:=(C12.out.ext b13).c3
   obtain ⟨l0,-,-⟩:=(D12.out.ext b13).c3
   cases f with
   | true=>
    go_wp2_with fail
    exact hR.out _ _ (Gives.mk (Ext.trans x12 b13) rfl)
   | false=>
    obtain rfl:=HIM.out rfl
    go_wp2_with fail
    exact hR.out _ _ (Gives.mk (Ext.trans x12 b13) rfl)
 ·have hb:(c != 0)=true:=bneT h0
  go_wp2_with fail
  refine (HRC.out _ _ O7.out).mono ?_
  rintro e w8 ⟨_,rfl,b8,rfl⟩
  go_wp2_with fail
  refine awake21.mono ?_
  rintro e w9 ⟨_,rfl,b9,rfl⟩
  go_wp2_with fail
  exact hR.out _ _ (Gives.mk (Ext.trans x6 (Ext.trans b7 (Ext.trans b8 b9))) rfl)
theorem own:ownKnob Tryz.prog.godebug=none:=by kernel_rfl
theorem laidOut:laidOutB Tryz.prog=true:=by kernel_rfl

set_option maxRecDepth 100000 in
theorem contract (H:Type) (enc:TypeId × Value→H) (W:World) (base:Nat) (args:Array Value) (ds gs:List (DataW H)) (before:List MemPlace)
  (hval:∀ (j:Nat) t v,Tryz.f6.params[j]?=some t→args[j]?=some v→Value.okWide Tryz.prog W .any base t v)
  (hW:DataW.Whole enc Tryz.prog Tryz.f6.params.toList Rows.simplexNarrowsSpec.vars false W args.toList ds gs before) (hk:Rows.uptoSmall H (ds ++ gs)=true):
  Calls Tryz.prog 6 args W fun e W'=>∃ v,e=.returned v∧Rows.simplexNarrowsSpec.post enc Tryz.prog Tryz.f6 false true false false W args v W':=by
 have hW':=hW
 obtain ⟨p,q,hA0,hV,rfl,hfz,hnd⟩:=hW
 have hA:DataW.TrodAll enc Tryz.prog W 0 (fun _=>true) true Tryz.f6.params.toList args.toList ds p:=hA0
 rw [Tryz.params6] at hA hval
 obtain ⟨v0,vs0,d0,ds0,p0,q0,hargs,rfl,rfl,h0,r0⟩:=trodAll_cons hA
 obtain ⟨v1,vs1,d1,ds1,p1,q1,rfl,rfl,rfl,h1,r1⟩:=trodAll_cons r0
 obtain ⟨v2,vs2,d2,ds2,p2,q2,rfl,rfl,rfl,h2,r2⟩:=trodAll_cons r1
 obtain ⟨rfl,rfl,rfl⟩:=trodAll_nil r2
 obtain rfl:args=#[v0,v1,v2]:=by cases args;simp_all
 obtain ⟨rfl,rfl⟩:=trodVars_none hV
 have hb:=bulk_small hk
 simp only [List.append_nil,bulk_cons,bulk_nil] at hb
 obtain ⟨a0,rfl,rfl,rfl,wf0⟩:=open_int Tryz.underlying3 (hval 0 3 v0 rfl rfl) h0
 have k1:=h1
 have lt1:∀ x∈p1,x.block < W.heap.size:=by obtain ⟨m,hm⟩:=k1;exact DataW.trod_lt m _ _ _ hm
 obtain ⟨l1,rd1,bd1,len1⟩:=open_rowA Tryz.underlying22 (hval 1 22 v1 rfl rfl) h1
 have k2:=h2
 have lt2:∀ x∈p2,x.block < W.heap.size:=by obtain ⟨m,hm⟩:=k2;exact DataW.trod_lt m _ _ _ hm
 obtain ⟨l2,rd2,bd2,len2⟩:=open_rowA Tryz.underlying22 (hval 2 22 v2 rfl rfl) h2
 clear hA0
 refine (walk (wf_int wf0) rd1 (fun p hp=>by have:=bd1 p hp;omega) (by omega) rd2 (fun p hp=>by have:=bd2 p hp;omega) (by omega)).mono fun e W' ⟨v,he,bel,hv⟩=>?_
 subst he hv
 exact ⟨_,rfl,_,_,_,[],_,[],hW',trodAll_mk1 (shut_bool Tryz.underlying4 _),(trodAll_cons_mk (shut_int Tryz.underlying3 wf0) (trodAll_cons_mk (Below.trod laidOut (by kernel_rfl) (of_decide_eq_true (by kernel_rfl)) k1 bel lt1) (trodAll_cons_mk (Below.trod laidOut (by kernel_rfl) (of_decide_eq_true (by kernel_rfl)) k2 bel lt2) trodAll_mk0))),rfl,bel.frame _,fun h=>by cases h⟩

set_option maxRecDepth 100000 in
theorem lifted (os:Os) (started:os.Started) (H:Type) (enc:TypeId × Value→H) (F:Stop.Interp):
  ReturnsInHanded {} Tryz.checked os 6 .any ((Rows.OpenSpec.upto Rows.simplexNarrowsSpec).pre6 enc Tryz.prog Tryz.f6 Rows.simplexNarrowsUptoRow.domain false) (((Rows.OpenSpec.upto Rows.simplexNarrowsSpec).at F).post enc Tryz.prog Tryz.f6 false true false false):=by
 refine returnsInHanded_of_cond (C:=Tryz.checked) (s:=Rows.OpenSpec.upto Rows.simplexNarrowsSpec) (k:=Rows.uptoSmall) rfl own started (by kernel_rfl) Tryz.func6
  (OpenSpec.witness (enc:=enc) (C:=Tryz.checked) (s:=Rows.OpenSpec.upto Rows.simplexNarrowsSpec) (k:=Rows.uptoSmall) rfl false ⟨#[],#[.int .i64 0,.slice none 0 0,.slice none 0 0],[]⟩ 8 (by kernel_rfl) (by kernel_rfl) (by kernel_rfl)
   (x:=([.lit (.int .i64 0),.nil,.nil],[],[])) (by kernel_rfl) rfl (by kernel_rfl)) ?_
 intro W base args ds gs before hval hW _ hk _
 exact contract H enc W base args ds gs before hval hW hk

theorem proved:Rows.SimplexNarrowsUptoSaid:=
 OpenClaim.holds_of_cond 6 Tryz.f6 rfl rfl rfl rfl rfl rfl rfl ⟨rfl,rfl,rfl,rfl,rfl⟩ rfl rfl rfl rfl rfl (by kernel_rfl) Tryz.func6 (by kernel_rfl)
  (of_decide_eq_true (by kernel_rfl)) (by unfold Func.isWrapper;first | (rw [if_pos (by decide +kernel)];kernel_rfl) | (rw [if_neg (by decide +kernel)];exact ⟨rfl,rfl⟩))
  (fun os started H enc _ F=>lifted os started H enc F)
#print axioms proved

end Go.Proofs.YthpaifdfafjlcaaGreat.simplexNarrows
