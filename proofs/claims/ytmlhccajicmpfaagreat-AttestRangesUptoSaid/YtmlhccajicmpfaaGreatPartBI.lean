/- A group of texts: PCount, POver -/
import Derived.Test.YtmlhccajicmpfaaGreatSq
import Derived.Test.YtmlhccajicmpfaaGreatPartBH
set_option maxHeartbeats 40000000
set_option maxRecDepth 100000
set_option linter.unusedSimpArgs false
namespace Go.Att
open Go.RowKit
theorem cnt_bd:∀ {f:Fm} {n d:Int},0≤n→n≤20000→0≤cntF f n d∧cntF f n d≤20001:=by
 intro f n d h0 h1
 have key:∀ m:Nat,(∀ (f:Fm) (n d:Int),SizeOf.sizeOf f < m→0≤n→n≤20000→0≤cntF f n d∧cntF f n d≤20001)∧(∀ (l:List Fm) (n d:Int),SizeOf.sizeOf l < m→0≤n→n≤20001→0≤cntL l n d∧cntL l n d≤20001):=by
  intro m
  induction m with
  | zero=>exact ⟨fun _ _ _ h=>by omega,fun _ _ _ h=>by omega⟩
  | succ m ih=>
   constructor
   ·intro f n d hs h0 h1
    cases f with
    | mk k a l=>
     unfold cntF
     split
     ·omega
     exact ih.2 l _ _ (by simp at hs;omega) oM oM
   intro l n d hs h0 h1
   cases l with
   | nil=>unfold cntL;omega
   | cons f l=>
    unfold cntL
    split
    ·omega
    simp at hs
    have h2:=ih.1 f n d oM h0 oM
    exact ih.2 l _ _ oM h2.1 h2.2
 exact (key (SizeOf.sizeOf f+1)).1 f n d oM h0 h1
theorem cntL_at {l:List Fm} {j:Nat} {z d:Int} (h:j < l.length):cntL (l.drop j) z d=if 20000 < z then z else cntL (l.drop (j+1)) (cntF l[j] z d) d:=by
 rw [List.drop_eq_getElem_cons h]
 conv=>lhs;unfold cntL
theorem cntL_end {l:List Fm} {z d:Int}:cntL (l.drop l.length) z d=z:=by
 rw [List.drop_length]
 unfold cntL
 rfl
theorem cntF_le {f:Fm} {n d:Int} (h:d≤200):cntF f n d=cntL (f.sub.drop 0) (n+1) (d+1):=by
 cases f
 unfold cntF
 rw [if_neg oM,List.drop_zero]
 rfl
theorem cntF_gt {f:Fm} {n d:Int} (h:200 < d):cntF f n d=20001:=by
 cases f
 unfold cntF
 rw [if_pos h]
theorem frmL_at {l:List Fm} {j:Nat} {n:Int} (h:j < l.length):frmL (l.drop j) n=(frmF l[j] n && frmL (l.drop (j+1)) n):=by
 rw [List.drop_eq_getElem_cons h]
 conv=>lhs;unfold frmL
theorem frmL_end {l:List Fm} {n:Int}:frmL (l.drop l.length) n=true:=by
 rw [List.drop_length]
 unfold frmL
 rfl
theorem frmF_eq {f:Fm} {n:Int}:frmF f n=if f.k=1 then (decide (0≤f.a) && decide (f.a < n)) && decide (f.sub.length=0) else if f.k=5∨f.k=6 then decide (f.sub.length=0) else if f.k=2 then decide (f.sub.length=1) && frmL (f.sub.drop 0) n else if f.k=3∨f.k=4 then frmL (f.sub.drop 0) n else false:=by
 have he:∀ l:List Fm,l.isEmpty=decide (l.length=0):=fun l=>by cases l <;> simp
 cases f with
 | mk k a l=>
  conv=>lhs;unfold frmF
  rw [he,List.drop_zero]
  rfl
end Go.Att
namespace Go.Proofs.YtmlhccajicmpfaaGreat
open Go.RowKit Go.Att

theorem count_any:∀ (n:Nat) {w:World} {v:Value} {f:Fm} {k d:Int},RdFn n w v f→0≤k→k≤20000→0≤d→d≤201→
  Calls Tryz.prog 137 #[v,.int .i64 k,.int .i64 d] w (Gives w fun v' _=>v'=.int .i64 (cntF f k d))
 | 0,_,_,_,_,_,h,_,_,_,_=>h.elim
 | n+1,w,v,f,k,d,hv,hk0,hk1,hd0,hd1=>by
  refine via fun R hR=>?_
  obtain ⟨x,c,rfl,hr⟩:=hv.op
  have HV:=qH hr
  have HIH:Hid (∀ {w:World} {v:Value} {f:Fm} {k d:Int},RdFn n w v f→0≤k→k≤20000→0≤d→d≤201→
   Calls Tryz.prog 137 #[v,.int .i64 k,.int .i64 d] w (Gives w fun v' _=>v'=.int .i64 (cntF f k d))):=@count_any n
  obtain ⟨w1,hw1,b1,c1,-,-⟩:=bx1 w [.int .i64 f.k,.int .i64 f.a,.slice x f.sub.length c] 29
  have HW:=qH hw1
  have C1:=qH c1
  obtain ⟨j0,j1,j2⟩:=c1.c3
  have HK:Hid (0≤k∧k≤20000∧0≤d):=⟨hk0,hk1,hd0⟩
  have HKW:IntKind.i64.wrap (k+1)=k+1:=by rw [IntKind.wrap_i64];omega
  have HDW:IntKind.i64.wrap (d+1)=d+1:=by rw [IntKind.wrap_i64];omega
  clear hw1 c1 hv hr hk0 hk1 hd0 hd1
  go_enter Tryz.func137,Tryz.ntmps137
  go_upto_region 1 with (fail)
  rw [← HW.out]
  clear HW
  by_cases hd:200 < d
  ·have hd1:decide (200 < d)=true:=decide_eq_true hd
   have HE:=qH (cntF_gt (f:=f) (n:=k) hd)
   clear hd
   go_wp2_with fail
   exact hR.out _ _ (Gives.mk b1 (by first | (rw [HE.out];done) | (rw [HE.out];rfl)))
  have hd1:decide (200 < d)=false:=decide_eq_false hd
  have HE:=qH (cntF_le (f:=f) (n:=k) (d:=d) oM)
  have HD:Hid (d≤200):=qH oM
  clear hd
  generalize f.k=fk at*
  generalize f.a=fa at*
  obtain ⟨r,hr⟩:∃ r,cntF f k d=r:=⟨_,rfl⟩
  rw [hr] at HE hR
  clear hr
  generalize f.sub=l at*
  have hlc:Hid (l.length≤maxLen):=by obtain ⟨_,_,he,h1,h2⟩:=HV.out.shape;exact qH (by simp only [Value.slice.injEq] at he;omega)
  go_wp2_with fail
  clear hd1
  go_loopw [1,16] (fun q t wr=>∃ (j:Nat) (z:Int),t=.int .i64 j∧q=.int .i64 z∧j≤l.length∧Ext w1 wr∧Hid (0≤z∧z≤20001∧r=cntL (l.drop j) z (d+1))) (fun _ t _=>l.length - (intOf t).toNat)
  case atStart=>exact ⟨0,k+1,rfl,rfl,Nat.zero_le _,Ext.refl _,by have:=HK.out;omega,by have:=HK.out;omega,HE.out⟩
  case round=>
   obtain ⟨j,z,rfl,rfl,hj,hx,hZ⟩:=hrel
   by_cases hjl:j < l.length
   ·have hd:=dT ((j:Int) < (l.length:Int))
    have HJ2:(0:Int)≤(j:Int)∧(j:Int) < (l.length:Int):=⟨by omega,by omega⟩
    have HJ1:IntKind.i64.wrap ((j:Int)+1)=((j+1:Nat):Int):=by have:=hlc.out;unfold maxLen at this;rw [IntKind.wrap_i64];omega
    obtain ⟨bL,oL,y,m,hae,hbo,hT⟩:=(RdRow.ext HV.out (fun h x=>RdFn.ext h x) (eT b1 hx)).part j hjl
    subst hae
    have HST:=qH (cntL_at (z:=z) (d:=d+1) hjl)
    obtain ⟨g,hg⟩:∃ g,l[j]=g:=⟨_,rfl⟩
    rw [hg] at hbo hT HST
    clear hg
    obtain ⟨u0,u1,u2⟩:=hbo.c3
    obtain ⟨w4,hw4,b4,c4,-,-⟩:=bx1 wr [.int .i64 g.k,.int .i64 g.a,.slice y g.sub.length m] 29
    have HW:=qH hw4
    have C4:=qH c4
    have hx4:=eT hx b4
    have HT:=qH (RdFn.ext hT b4)
    clear hw4 c4 hbo hT
    generalize g.k=gk at*
    generalize g.a=ga at*
    generalize g.sub.length=gn at*
    go_upto_region 7 with (fail)
    rw [← HW.out]
    clear HW u0 u1 u2
    obtain ⟨u0,u1,u2⟩:=C4.out.c3
    by_cases hz:20000 < z
    ·have hd2:decide (20000 < z)=true:=decide_eq_true hz
     have HV2:Hid (r=z):=by show _=_;rw [hZ.out.2.2,HST.out,if_pos hz]
     clear hz
     go_wp2_with fail
     exact hR.out _ _ (Gives.mk (eT b1 hx4) (by first | (rw [HV2.out];done) | (rw [HV2.out];rfl)))
    have hd2:decide (20000 < z)=false:=decide_eq_false hz
    have HZ3:Hid (r=cntL (l.drop (j+1)) (cntF g z (d+1)) (d+1)):=by show _=_;rw [hZ.out.2.2,HST.out,if_neg hz]
    have HC:=qH (HIH.out (k:=z) (d:=d+1) HT.out hZ.out.1 oM (by have:=HK.out;omega) (by have:=HD.out;omega))
    have HBD:=qH (cnt_bd (f:=g) (d:=d+1) hZ.out.1 (by omega:z≤20000))
    clear hz
    generalize cntF g z (d+1)=zz at*
    go_wp2_with fail
    refine HC.out.mono ?_
    rintro e w5 ⟨_,rfl,b5,rfl⟩
    go_wp2_with fail
    go_roundw
    case rel=>exact ⟨j+1,zz,by go_num,rfl,by omega,eT hx4 b5,HBD.out.1,HBD.out.2,HZ3.out⟩
    simp [intOf]<;>omega
   obtain rfl:j=l.length:=by omega
   have hd:=dF ((l.length:Int) < (l.length:Int))
   have HV2:Hid (r=z):=by show _=_;rw [hZ.out.2.2,cntL_end]
   go_wp2_with fail
   exact hR.out _ _ (Gives.mk (eT b1 hx) (by first | (rw [HV2.out];done) | (rw [HV2.out];rfl)))

theorem shaped_any:∀ (n:Nat) {w:World} {v:Value} {f:Fm} {k:Int},RdFn n w v f→
  Calls Tryz.prog 138 #[v,.int .i64 k] w (Gives w fun v' _=>v'=.bool (frmF f k))
 | 0,_,_,_,_,h=>h.elim
 | n+1,w,v,f,k,hv=>by
  refine via fun R hR=>?_
  obtain ⟨x,c,rfl,hr⟩:=hv.op
  have HV:=qH hr
  have HIH:Hid (∀ {w:World} {v:Value} {f:Fm} {k:Int},RdFn n w v f→
   Calls Tryz.prog 138 #[v,.int .i64 k] w (Gives w fun v' _=>v'=.bool (frmF f k))):=@shaped_any n
  obtain ⟨w1,hw1,b1,c1,-,-⟩:=bx1 w [.int .i64 f.k,.int .i64 f.a,.slice x f.sub.length c] 29
  have HW:=qH hw1
  obtain ⟨j0,j1,j2⟩:=c1.c3
  have HE:=qH (frmF_eq (f:=f) (n:=k))
  have hlc:Hid (f.sub.length≤maxLen):=by obtain ⟨_,_,he,h1,h2⟩:=HV.out.shape;exact qH (by simp only [Value.slice.injEq] at he;omega)
  clear hw1 c1 hv hr
  obtain ⟨r,hr⟩:∃ r,frmF f k=r:=⟨_,rfl⟩
  rw [hr] at HE hR
  clear hr
  generalize f.sub=l at*
  generalize f.k=fk at*
  generalize f.a=fa at*
  have HD0:Hid (((l.length:Int) == 0)=decide (l.length=0)):=by
   show _=_
   by_cases h:l.length=0
   ·rw [decide_eq_true h,h];rfl
   rw [decide_eq_false h];exact beq_eq_false_iff_ne.2 oM
  go_enter Tryz.func138,Tryz.ntmps138
  go_upto_region 1 with (fail)
  rw [← HW.out]
  clear HW
  by_cases h1:fk=1
  ·rw [if_pos h1] at HE
   subst h1
   by_cases ha:fa < 0
   ·have d2:decide (fa < 0)=true:=decide_eq_true ha
    have HV2:Hid (r=false):=by show _=_;rw [HE.out,decide_eq_false oM];rfl
    clear ha
    go_wp2_with fail
    exact hR.out _ _ (Gives.mk b1 (by first | (rw [HV2.out];done) | (rw [HV2.out];rfl)))
   have d2:decide (fa < 0)=false:=decide_eq_false ha
   by_cases hb:fa ≥ k
   ·have d3:decide (fa ≥ k)=true:=decide_eq_true hb
    have d4:decide (k≤fa)=true:=decide_eq_true hb
    have HV2:Hid (r=false):=by show _=_;rw [HE.out,decide_eq_false (by omega:¬ fa < k),Bool.and_false];rfl
    clear ha hb
    go_wp2_with fail
    exact hR.out _ _ (Gives.mk b1 (by first | (rw [HV2.out];done) | (rw [HV2.out];rfl)))
   have d3:decide (fa ≥ k)=false:=decide_eq_false hb
   have d4:decide (k≤fa)=false:=decide_eq_false hb
   have HV2:Hid (r=decide (l.length=0)):=by show _=_;rw [HE.out,decide_eq_true (by omega:fa < k),decide_eq_true (by omega:0≤fa)];rfl
   clear ha hb
   go_wp2_with fail
   exact hR.out _ _ (Gives.mk b1 (by rw [HV2.out];exact congrArg Value.bool HD0.out))
  have d1:(fk == 1)=false:=beq_eq_false_iff_ne.2 h1
  rw [if_neg h1] at HE
  by_cases h5:fk=5
  ·rw [if_pos (.inl h5)] at HE
   subst h5
   clear h1 d1
   go_wp2_with fail
   exact hR.out _ _ (Gives.mk b1 (by rw [HE.out];exact congrArg Value.bool HD0.out))
  by_cases h6:fk=6
  ·rw [if_pos (.inr h6)] at HE
   subst h6
   clear h1 d1 h5
   go_wp2_with fail
   exact hR.out _ _ (Gives.mk b1 (by rw [HE.out];exact congrArg Value.bool HD0.out))
  rw [if_neg (fun h=>h.elim h5 h6)] at HE
  have d5:(fk == 5)=false:=beq_eq_false_iff_ne.2 h5
  have d6:(fk == 6)=false:=beq_eq_false_iff_ne.2 h6
  by_cases h2:fk=2
  ·rw [if_pos h2] at HE
   subst h2
   clear h1 d1 h5 h6 d5 d6
   by_cases hl1:l.length=1
   ·have dl:((l.length:Int) != 1)=false:=bneF oM
    rw [decide_eq_true hl1,Bool.true_and] at HE
    clear hl1
    go_wp2_with fail
    go_loopw [39] (fun t wr=>∃ j:Nat,t=.int .i64 j∧j≤l.length∧Ext w1 wr∧Hid (r=frmL (l.drop j) k)) (fun t _=>l.length - (intOf t).toNat)
    case atStart=>exact ⟨0,rfl,Nat.zero_le _,Ext.refl _,HE.out⟩
    case round=>
     obtain ⟨j,rfl,hj,hx,hZ⟩:=hrel
     by_cases hjl:j < l.length
     ·have hd:=dT ((j:Int) < (l.length:Int))
      have HJ2:(0:Int)≤(j:Int)∧(j:Int) < (l.length:Int):=⟨by omega,by omega⟩
      have HJ1:IntKind.i64.wrap ((j:Int)+1)=((j+1:Nat):Int):=by have:=hlc.out;unfold maxLen at this;rw [IntKind.wrap_i64];omega
      obtain ⟨bL,oL,y,m,hae,hbo,hT⟩:=(RdRow.ext HV.out (fun h x=>RdFn.ext h x) (eT b1 hx)).part j hjl
      subst hae
      have HST:=qH (frmL_at (n:=k) hjl)
      obtain ⟨g,hg⟩:∃ g,l[j]=g:=⟨_,rfl⟩
      rw [hg] at hbo hT HST
      clear hg
      obtain ⟨u0,u1,u2⟩:=hbo.c3
      obtain ⟨w4,hw4,b4,c4,-,-⟩:=bx1 wr [.int .i64 g.k,.int .i64 g.a,.slice y g.sub.length m] 29
      have HW:=qH hw4
      have C4:=qH c4
      have hx4:=eT hx b4
      have HC:=qH (HIH.out (k:=k) (RdFn.ext hT b4))
      clear hw4 c4 hbo hT
      generalize g.k=gk at*
      generalize g.a=ga at*
      generalize g.sub.length=gn at*
      go_upto_region 17 with (fail)
      rw [← HW.out]
      clear HW u0 u1 u2
      obtain ⟨u0,u1,u2⟩:=C4.out.c3
      obtain ⟨bb,hbb⟩:∃ b,frmF g k=b:=⟨_,rfl⟩
      rw [hbb] at HC HST
      clear hbb
      go_wp2_with fail
      refine HC.out.mono ?_
      rintro e w5 ⟨_,rfl,b5,rfl⟩
      cases bb with
      | false=>
       have HV2:Hid (r=false):=by show _=_;rw [hZ.out,HST.out];rfl
       go_wp2_with fail
       exact hR.out _ _ (Gives.mk (eT b1 (eT hx4 b5)) (by first | (rw [HV2.out];done) | (rw [HV2.out];rfl)))
      | true=>
       have HV2:Hid (r=frmL (l.drop (j+1)) k):=by show _=_;rw [hZ.out,HST.out];rfl
       go_wp2_with fail
       go_roundw
       case rel=>exact ⟨j+1,by go_num,by omega,eT hx4 b5,HV2.out⟩
       simp [intOf]<;>omega
     obtain rfl:j=l.length:=by omega
     have hd:=dF ((l.length:Int) < (l.length:Int))
     have HV2:Hid (r=true):=by show _=_;rw [hZ.out,frmL_end]
     go_wp2_with fail
     exact hR.out _ _ (Gives.mk (eT b1 hx) (by first | (rw [HV2.out];done) | (rw [HV2.out];rfl)))
   have dl:((l.length:Int) != 1)=true:=bneT oM
   rw [decide_eq_false hl1,Bool.false_and] at HE
   clear hl1
   go_wp2_with fail
   exact hR.out _ _ (Gives.mk b1 (by first | (rw [HE.out];done) | (rw [HE.out];rfl)))
  rw [if_neg h2] at HE
  have d2:(fk == 2)=false:=beq_eq_false_iff_ne.2 h2
  by_cases h3:fk=3
  ·rw [if_pos (.inl h3)] at HE
   subst h3
   clear h1 d1 h5 h6 d5 d6 h2 d2
   go_wp2_with fail
   go_loopw [39] (fun t wr=>∃ j:Nat,t=.int .i64 j∧j≤l.length∧Ext w1 wr∧Hid (r=frmL (l.drop j) k)) (fun t _=>l.length - (intOf t).toNat)
   case atStart=>exact ⟨0,rfl,Nat.zero_le _,Ext.refl _,HE.out⟩
   case round=>
    obtain ⟨j,rfl,hj,hx,hZ⟩:=hrel
    by_cases hjl:j < l.length
    ·have hd:=dT ((j:Int) < (l.length:Int))
     have HJ2:(0:Int)≤(j:Int)∧(j:Int) < (l.length:Int):=⟨by omega,by omega⟩
     have HJ1:IntKind.i64.wrap ((j:Int)+1)=((j+1:Nat):Int):=by have:=hlc.out;unfold maxLen at this;rw [IntKind.wrap_i64];omega
     obtain ⟨bL,oL,y,m,hae,hbo,hT⟩:=(RdRow.ext HV.out (fun h x=>RdFn.ext h x) (eT b1 hx)).part j hjl
     subst hae
     have HST:=qH (frmL_at (n:=k) hjl)
     obtain ⟨g,hg⟩:∃ g,l[j]=g:=⟨_,rfl⟩
     rw [hg] at hbo hT HST
     clear hg
     obtain ⟨u0,u1,u2⟩:=hbo.c3
     obtain ⟨w4,hw4,b4,c4,-,-⟩:=bx1 wr [.int .i64 g.k,.int .i64 g.a,.slice y g.sub.length m] 29
     have HW:=qH hw4
     have C4:=qH c4
     have hx4:=eT hx b4
     have HC:=qH (HIH.out (k:=k) (RdFn.ext hT b4))
     clear hw4 c4 hbo hT
     generalize g.k=gk at*
     generalize g.a=ga at*
     generalize g.sub.length=gn at*
     go_upto_region 17 with (fail)
     rw [← HW.out]
     clear HW u0 u1 u2
     obtain ⟨u0,u1,u2⟩:=C4.out.c3
     obtain ⟨bb,hbb⟩:∃ b,frmF g k=b:=⟨_,rfl⟩
     rw [hbb] at HC HST
     clear hbb
     go_wp2_with fail
     refine HC.out.mono ?_
     rintro e w5 ⟨_,rfl,b5,rfl⟩
     cases bb with
     | false=>
      have HV2:Hid (r=false):=by show _=_;rw [hZ.out,HST.out];rfl
      go_wp2_with fail
      exact hR.out _ _ (Gives.mk (eT b1 (eT hx4 b5)) (by first | (rw [HV2.out];done) | (rw [HV2.out];rfl)))
     | true=>
      have HV2:Hid (r=frmL (l.drop (j+1)) k):=by show _=_;rw [hZ.out,HST.out];rfl
      go_wp2_with fail
      go_roundw
      case rel=>exact ⟨j+1,by go_num,by omega,eT hx4 b5,HV2.out⟩
      simp [intOf]<;>omega
    obtain rfl:j=l.length:=by omega
    have hd:=dF ((l.length:Int) < (l.length:Int))
    have HV2:Hid (r=true):=by show _=_;rw [hZ.out,frmL_end]
    go_wp2_with fail
    exact hR.out _ _ (Gives.mk (eT b1 hx) (by first | (rw [HV2.out];done) | (rw [HV2.out];rfl)))
  by_cases h4:fk=4
  ·rw [if_pos (.inr h4)] at HE
   subst h4
   clear h1 d1 h5 h6 d5 d6 h2 d2 h3
   go_wp2_with fail
   go_loopw [39] (fun t wr=>∃ j:Nat,t=.int .i64 j∧j≤l.length∧Ext w1 wr∧Hid (r=frmL (l.drop j) k)) (fun t _=>l.length - (intOf t).toNat)
   case atStart=>exact ⟨0,rfl,Nat.zero_le _,Ext.refl _,HE.out⟩
   case round=>
    obtain ⟨j,rfl,hj,hx,hZ⟩:=hrel
    by_cases hjl:j < l.length
    ·have hd:=dT ((j:Int) < (l.length:Int))
     have HJ2:(0:Int)≤(j:Int)∧(j:Int) < (l.length:Int):=⟨by omega,by omega⟩
     have HJ1:IntKind.i64.wrap ((j:Int)+1)=((j+1:Nat):Int):=by have:=hlc.out;unfold maxLen at this;rw [IntKind.wrap_i64];omega
     obtain ⟨bL,oL,y,m,hae,hbo,hT⟩:=(RdRow.ext HV.out (fun h x=>RdFn.ext h x) (eT b1 hx)).part j hjl
     subst hae
     have HST:=qH (frmL_at (n:=k) hjl)
     obtain ⟨g,hg⟩:∃ g,l[j]=g:=⟨_,rfl⟩
     rw [hg] at hbo hT HST
     clear hg
     obtain ⟨u0,u1,u2⟩:=hbo.c3
     obtain ⟨w4,hw4,b4,c4,-,-⟩:=bx1 wr [.int .i64 g.k,.int .i64 g.a,.slice y g.sub.length m] 29
     have HW:=qH hw4
     have C4:=qH c4
     have hx4:=eT hx b4
     have HC:=qH (HIH.out (k:=k) (RdFn.ext hT b4))
     clear hw4 c4 hbo hT
     generalize g.k=gk at*
     generalize g.a=ga at*
     generalize g.sub.length=gn at*
     go_upto_region 17 with (fail)
     rw [← HW.out]
     clear HW u0 u1 u2
     obtain ⟨u0,u1,u2⟩:=C4.out.c3
     obtain ⟨bb,hbb⟩:∃ b,frmF g k=b:=⟨_,rfl⟩
     rw [hbb] at HC HST
     clear hbb
     go_wp2_with fail
     refine HC.out.mono ?_
     rintro e w5 ⟨_,rfl,b5,rfl⟩
     cases bb with
     | false=>
      have HV2:Hid (r=false):=by show _=_;rw [hZ.out,HST.out];rfl
      go_wp2_with fail
      exact hR.out _ _ (Gives.mk (eT b1 (eT hx4 b5)) (by first | (rw [HV2.out];done) | (rw [HV2.out];rfl)))
     | true=>
      have HV2:Hid (r=frmL (l.drop (j+1)) k):=by show _=_;rw [hZ.out,HST.out];rfl
      go_wp2_with fail
      go_roundw
      case rel=>exact ⟨j+1,by go_num,by omega,eT hx4 b5,HV2.out⟩
      simp [intOf]<;>omega
    obtain rfl:j=l.length:=by omega
    have hd:=dF ((l.length:Int) < (l.length:Int))
    have HV2:Hid (r=true):=by show _=_;rw [hZ.out,frmL_end]
    go_wp2_with fail
    exact hR.out _ _ (Gives.mk (eT b1 hx) (by first | (rw [HV2.out];done) | (rw [HV2.out];rfl)))
  rw [if_neg (fun h=>h.elim h3 h4)] at HE
  have d3:(fk == 3)=false:=beq_eq_false_iff_ne.2 h3
  have d4:(fk == 4)=false:=beq_eq_false_iff_ne.2 h4
  clear h1 h5 h6 h2 h3 h4
  go_wp2_with fail
  exact hR.out _ _ (Gives.mk b1 (by first | (rw [HE.out];done) | (rw [HE.out];rfl)))
def chkF (f:Fm) (k:Int):Int:=if 20000 < cntF f 0 1 then 2 else if frmF f k=true then 0 else 4
theorem checkF_any {w:World} {v:Value} {f:Fm} {k:Int} (hv:RdFm w v f):
  Calls Tryz.prog 108 #[v,.int .i64 k] w (Gives w fun v' _=>v'=.int .i64 (chkF f k)):=by
 refine via fun R hR=>?_
 obtain ⟨n,hn⟩:=hv
 have hv:RdFm w v f:=⟨n,hn⟩
 obtain ⟨x,c,_,rfl,-⟩:=hv.op
 obtain ⟨w1,hw1,b1,c1,-,-⟩:=bx1 w [.int .i64 f.k,.int .i64 f.a,.slice x f.sub.length c] 29
 have HW:=qH hw1
 have C1:=qH c1
 have HN:=qH (hn.ext b1)
 obtain ⟨j0,j1,j2⟩:=c1.c3
 have HC:=qH (count_any n HN.out (k:=0) (d:=1) dC dC dC dC)
 have HR:Hid (chkF f k=if 20000 < cntF f 0 1 then 2 else if frmF f k=true then 0 else 4):=rfl
 have HS:Hid (∀ w',Ext w1 w'→Calls Tryz.prog 138 #[.agg #[.int .i64 f.k,.int .i64 f.a,.slice x f.sub.length c],.int .i64 k] w' (Gives w' fun v' _=>v'=.bool (frmF f k))):=fun w' y=>shaped_any n (HN.out.ext y) (k:=k)
 clear hw1 c1 hv hn
 generalize cntF f 0 1=z at*
 generalize frmF f k=bb at*
 generalize chkF f k=r at*
 generalize f.k=fk at*
 generalize f.a=fa at*
 generalize f.sub.length=fl at*
 go_enter Tryz.func108,Tryz.ntmps108
 go_upto_region 1 with (fail)
 rw [← HW.out]
 clear HW
 go_wp2_with fail
 refine HC.out.mono ?_
 rintro e w5 ⟨_,rfl,b5,rfl⟩
 by_cases hz:20000 < z
 ·have hd2:decide (20000 < z)=true:=decide_eq_true hz
  have HV2:Hid (r=2):=by show _=_;rw [HR.out,if_pos hz]
  clear hz
  go_wp2_with fail
  exact hR.out _ _ (Gives.mk (eT b1 b5) (by first | (rw [HV2.out];done) | (rw [HV2.out];rfl)))
 have hd2:decide (20000 < z)=false:=decide_eq_false hz
 have HV2:Hid (r=if bb=true then 0 else 4):=by show _=_;rw [HR.out,if_neg hz]
 clear hz j0 j1 j2
 obtain ⟨j0,j1,j2⟩:=(C1.out.ext b5).c3
 have HS2:=qH (HS.out _ b5)
 go_wp2_with fail
 refine HS2.out.mono ?_
 rintro e w6 ⟨_,rfl,b6,rfl⟩
 cases bb with
 | false=>
  go_wp2_with fail
  exact hR.out _ _ (Gives.mk (eT b1 (eT b5 b6)) (by rw [HV2.out];rfl))
 | true=>
  go_wp2_with fail
  exact hR.out _ _ (Gives.mk (eT b1 (eT b5 b6)) (by rw [HV2.out];rfl))
end Go.Proofs.YtmlhccajicmpfaaGreat

namespace Go.Att
open Go.RowKit
theorem ovrL_at {l:List Fm} {j:Nat} {z d:Int} (h:j < l.length):ovrL (l.drop j) z d=if ovrF l[j] d < 0∨20000 < z+ovrF l[j] d then -1 else ovrL (l.drop (j+1)) (z+ovrF l[j] d) d:=by
 rw [List.drop_eq_getElem_cons h]
 conv=>lhs;unfold ovrL
theorem ovrL_end {l:List Fm} {z d:Int}:ovrL (l.drop l.length) z d=z:=by
 rw [List.drop_length]
 unfold ovrL
 rfl
theorem ovrF_lo {f:Fm} {d:Int} (h:d≤200):ovrF f d=ovrL (f.sub.drop 0) 1 (d+1):=by
 cases f
 unfold ovrF
 rw [if_neg oM,List.drop_zero]
 rfl
theorem ovrF_gt {f:Fm} {d:Int} (h:200 < d):ovrF f d = -1:=by
 cases f
 unfold ovrF
 rw [if_pos h]
theorem ndsL_at {l:List Fm} {j:Nat} {z m:Int} (h:j < l.length):ndsL (l.drop j) z m=if m < z then z else ndsL (l.drop (j+1)) (z+ndsF l[j] m) m:=by
 rw [List.drop_eq_getElem_cons h]
 conv=>lhs;unfold ndsL
theorem ndsL_end {l:List Fm} {z m:Int}:ndsL (l.drop l.length) z m=z:=by
 rw [List.drop_length]
 unfold ndsL
 rfl
theorem ndsF_eq {f:Fm} {m:Int}:ndsF f m=ndsL (f.sub.drop 0) 1 m:=by
 cases f
 unfold ndsF
 rw [List.drop_zero]
 rfl
theorem szL_at {l:List Fm} {j:Nat} (h:j < l.length):szL (l.drop j)=szF l[j]+szL (l.drop (j+1)):=by
 rw [List.drop_eq_getElem_cons h]
 conv=>lhs;unfold szL
theorem szF_eq {f:Fm}:szF f=1+szL (f.sub.drop 0):=by
 cases f
 unfold szF
 rw [List.drop_zero]
 rfl
mutual
theorem nds_le:∀ (f:Fm) (m:Int),ndsF f m≤szF f
 | .mk _ _ l,m=>by unfold ndsF szF;exact nds_leL l 1 m
theorem nds_leL:∀ (l:List Fm) (n m:Int),ndsL l n m≤n+szL l
 | [],n,m=>by unfold ndsL szL;omega
 | f :: l,n,m=>by
  unfold ndsL szL
  have h1:=nds_le f m
  have h2:=nds_leL l (n+ndsF f m) m
  have h3:=szF_pos f
  have h4:=szL_pos l
  split <;> omega
end
end Go.Att
namespace Go.Proofs.YtmlhccajicmpfaaGreat
open Go.RowKit Go.Att

theorem over_any:∀ (n:Nat) {w:World} {v:Value} {f:Fm} {d:Int},RdFn n w v f→0≤d→d≤201→
  Calls Tryz.prog 90 #[v,.int .i64 d] w (Gives w fun v' _=>v'=.int .i64 (ovrF f d))
 | 0,_,_,_,_,h,_,_=>h.elim
 | n+1,w,v,f,d,hv,hd0,hd1=>by
  refine via fun R hR=>?_
  obtain ⟨x,c,rfl,hr⟩:=hv.op
  have HV:=qH hr
  have HIH:Hid (∀ {w:World} {v:Value} {f:Fm} {d:Int},RdFn n w v f→0≤d→d≤201→
   Calls Tryz.prog 90 #[v,.int .i64 d] w (Gives w fun v' _=>v'=.int .i64 (ovrF f d))):=@over_any n
  obtain ⟨w1,hw1,b1,c1,-,-⟩:=bx1 w [.int .i64 f.k,.int .i64 f.a,.slice x f.sub.length c] 65
  have HW:=qH hw1
  obtain ⟨j0,j1,j2⟩:=c1.c3
  have HK:Hid (0≤d):=hd0
  have HDW:IntKind.i64.wrap (d+1)=d+1:=by rw [IntKind.wrap_i64];omega
  clear hw1 c1 hv hr hd0 hd1
  go_enter Tryz.func90,Tryz.ntmps90
  go_upto_region 1 with (fail)
  rw [← HW.out]
  clear HW
  by_cases hd:200 < d
  ·have hd1:decide (200 < d)=true:=decide_eq_true hd
   have HE:=qH (ovrF_gt (f:=f) hd)
   clear hd
   go_wp2_with fail
   exact hR.out _ _ (Gives.mk b1 (by first | (rw [HE.out];done) | (rw [HE.out];rfl)))
  have hd1:decide (200 < d)=false:=decide_eq_false hd
  have HE:=qH (ovrF_lo (f:=f) (d:=d) oM)
  have HD:Hid (d≤200):=qH oM
  clear hd
  generalize f.k=fk at*
  generalize f.a=fa at*
  obtain ⟨r,hr⟩:∃ r,ovrF f d=r:=⟨_,rfl⟩
  rw [hr] at HE hR
  clear hr
  generalize f.sub=l at*
  have hlc:Hid (l.length≤maxLen):=by obtain ⟨_,_,he,h1,h2⟩:=HV.out.shape;exact qH (by simp only [Value.slice.injEq] at he;omega)
  go_wp2_with fail
  clear hd1
  go_loopw [5,14] (fun q t wr=>∃ (j:Nat) (z:Int),t=.int .i64 j∧q=.int .i64 z∧j≤l.length∧Ext w1 wr∧Hid (1≤z∧z≤20000∧r=ovrL (l.drop j) z (d+1))) (fun _ t _=>l.length - (intOf t).toNat)
  case atStart=>exact ⟨0,1,rfl,rfl,Nat.zero_le _,Ext.refl _,by omega,by omega,HE.out⟩
  case round=>
   obtain ⟨j,z,rfl,rfl,hj,hx,hZ⟩:=hrel
   by_cases hjl:j < l.length
   ·have hd:=dT ((j:Int) < (l.length:Int))
    have HJ2:(0:Int)≤(j:Int)∧(j:Int) < (l.length:Int):=⟨by omega,by omega⟩
    have HJ1:IntKind.i64.wrap ((j:Int)+1)=((j+1:Nat):Int):=by have:=hlc.out;unfold maxLen at this;rw [IntKind.wrap_i64];omega
    obtain ⟨bL,oL,y,m,hae,hbo,hT⟩:=(RdRow.ext HV.out (fun h x=>RdFn.ext h x) (eT b1 hx)).part j hjl
    subst hae
    have HST:=qH (ovrL_at (z:=z) (d:=d+1) hjl)
    obtain ⟨g,hg⟩:∃ g,l[j]=g:=⟨_,rfl⟩
    rw [hg] at hbo hT HST
    clear hg
    obtain ⟨u0,u1,u2⟩:=hbo.c3
    obtain ⟨w4,hw4,b4,c4,-,-⟩:=bx1 wr [.int .i64 g.k,.int .i64 g.a,.slice y g.sub.length m] 65
    have HW:=qH hw4
    have C4:=qH c4
    have hx4:=eT hx b4
    have HC:=qH (HIH.out (d:=d+1) (RdFn.ext hT b4) (by have:=HK.out;omega) (by have:=HD.out;omega))
    have HLE:=qH (ovrF_le (d:=d+1) g)
    clear hw4 c4 hbo hT
    generalize g.k=gk at*
    generalize g.a=ga at*
    generalize g.sub.length=gn at*
    go_upto_region 7 with (fail)
    rw [← HW.out]
    clear HW u0 u1 u2
    obtain ⟨u0,u1,u2⟩:=C4.out.c3
    obtain ⟨m,hm⟩:∃ m,ovrF g (d+1)=m:=⟨_,rfl⟩
    rw [hm] at HC HST HLE
    clear hm
    go_wp2_with fail
    refine HC.out.mono ?_
    rintro e w5 ⟨_,rfl,b5,rfl⟩
    by_cases hz:m < 0
    ·have hd2:decide (m < 0)=true:=decide_eq_true hz
     have HV2:Hid (r = -1):=by show _=_;rw [hZ.out.2.2,HST.out,if_pos (.inl hz)]
     clear hz
     go_wp2_with fail
     exact hR.out _ _ (Gives.mk (eT b1 (eT hx4 b5)) (by first | (rw [HV2.out];done) | (rw [HV2.out];rfl)))
    have hd2:decide (m < 0)=false:=decide_eq_false hz
    have HWZ:IntKind.i64.wrap (z+m)=z+m:=by have:=hZ.out;have:=HLE.out;rw [IntKind.wrap_i64];omega
    by_cases hy:20000 < z+m
    ·have hd3:decide (20000 < z+m)=true:=decide_eq_true hy
     have HV2:Hid (r = -1):=by show _=_;rw [hZ.out.2.2,HST.out,if_pos (.inr hy)]
     clear hz hy
     go_wp2_with fail
     exact hR.out _ _ (Gives.mk (eT b1 (eT hx4 b5)) (by first | (rw [HV2.out];done) | (rw [HV2.out];rfl)))
    have hd3:decide (20000 < z+m)=false:=decide_eq_false hy
    have HZ3:Hid (1≤z+m∧z+m≤20000∧r=ovrL (l.drop (j+1)) (z+m) (d+1)):=⟨by have:=hZ.out;omega,by omega,by rw [hZ.out.2.2,HST.out,if_neg oM]⟩
    clear hz hy
    go_wp2_with fail
    go_roundw
    case rel=>exact ⟨j+1,z+m,by go_num,rfl,by omega,eT hx4 b5,HZ3.out⟩
    simp [intOf]<;>omega
   obtain rfl:j=l.length:=by omega
   have hd:=dF ((l.length:Int) < (l.length:Int))
   have HV2:Hid (r=z):=by show _=_;rw [hZ.out.2.2,ovrL_end]
   go_wp2_with fail
   exact hR.out _ _ (Gives.mk (eT b1 hx) (by first | (rw [HV2.out];done) | (rw [HV2.out];rfl)))
theorem form11_any:∀ (n:Nat) {w:World} {v:Value} {f:Fm} {k:Int},RdFn n w v f→
  Calls Tryz.prog 91 #[v,.int .i64 k] w (Gives w fun v' _=>v'=.bool (frmF f k))
 | 0,_,_,_,_,h=>h.elim
 | n+1,w,v,f,k,hv=>by
  refine via fun R hR=>?_
  obtain ⟨x,c,rfl,hr⟩:=hv.op
  have HV:=qH hr
  have HIH:Hid (∀ {w:World} {v:Value} {f:Fm} {k:Int},RdFn n w v f→
   Calls Tryz.prog 91 #[v,.int .i64 k] w (Gives w fun v' _=>v'=.bool (frmF f k))):=@form11_any n
  obtain ⟨w1,hw1,b1,c1,-,-⟩:=bx1 w [.int .i64 f.k,.int .i64 f.a,.slice x f.sub.length c] 65
  have HW:=qH hw1
  obtain ⟨j0,j1,j2⟩:=c1.c3
  have HE:=qH (frmF_eq (f:=f) (n:=k))
  have hlc:Hid (f.sub.length≤maxLen):=by obtain ⟨_,_,he,h1,h2⟩:=HV.out.shape;exact qH (by simp only [Value.slice.injEq] at he;omega)
  clear hw1 c1 hv hr
  obtain ⟨r,hr⟩:∃ r,frmF f k=r:=⟨_,rfl⟩
  rw [hr] at HE hR
  clear hr
  generalize f.sub=l at*
  generalize f.k=fk at*
  generalize f.a=fa at*
  have HD0:Hid (((l.length:Int) == 0)=decide (l.length=0)):=by
   show _=_
   by_cases h:l.length=0
   ·rw [decide_eq_true h,h];rfl
   rw [decide_eq_false h];exact beq_eq_false_iff_ne.2 oM
  go_enter Tryz.func91,Tryz.ntmps91
  go_upto_region 1 with (fail)
  rw [← HW.out]
  clear HW
  by_cases h1:fk=1
  ·rw [if_pos h1] at HE
   subst h1
   by_cases ha:0≤fa
   ·have d2:decide (fa ≥ 0)=true:=decide_eq_true ha
    have d2':decide (0≤fa)=true:=decide_eq_true ha
    by_cases hb:fa < k
    ·have d3:decide (fa < k)=true:=decide_eq_true hb
     have HV2:Hid (r=decide (l.length=0)):=by show _=_;rw [HE.out,d2',d3];rfl
     clear ha hb
     go_wp2_with fail
     exact hR.out _ _ (Gives.mk b1 (by rw [HV2.out];exact congrArg Value.bool HD0.out))
    have d3:decide (fa < k)=false:=decide_eq_false hb
    have HV2:Hid (r=false):=by show _=_;rw [HE.out,d2',d3];rfl
    clear ha hb
    go_wp2_with fail
    exact hR.out _ _ (Gives.mk b1 (by first | (rw [HV2.out];done) | (rw [HV2.out];rfl)))
   have d2:decide (fa ≥ 0)=false:=decide_eq_false ha
   have d2':decide (0≤fa)=false:=decide_eq_false ha
   have HV2:Hid (r=false):=by show _=_;rw [HE.out,d2'];rfl
   clear ha
   go_wp2_with fail
   exact hR.out _ _ (Gives.mk b1 (by first | (rw [HV2.out];done) | (rw [HV2.out];rfl)))
  have d1:(fk == 1)=false:=beq_eq_false_iff_ne.2 h1
  rw [if_neg h1] at HE
  by_cases h5:fk=5
  ·rw [if_pos (.inl h5)] at HE
   subst h5
   clear h1 d1
   go_wp2_with fail
   exact hR.out _ _ (Gives.mk b1 (by rw [HE.out];exact congrArg Value.bool HD0.out))
  by_cases h6:fk=6
  ·rw [if_pos (.inr h6)] at HE
   subst h6
   clear h1 d1 h5
   go_wp2_with fail
   exact hR.out _ _ (Gives.mk b1 (by rw [HE.out];exact congrArg Value.bool HD0.out))
  rw [if_neg (fun h=>h.elim h5 h6)] at HE
  have d5:(fk == 5)=false:=beq_eq_false_iff_ne.2 h5
  have d6:(fk == 6)=false:=beq_eq_false_iff_ne.2 h6
  by_cases h2:fk=2
  ·rw [if_pos h2] at HE
   subst h2
   clear h1 d1 h5 h6 d5 d6
   by_cases hl1:l.length=1
   ·have dl:((l.length:Int) == 1)=true:=beq_iff_eq.2 oM
    have HJ2:(0:Int)≤0∧(0:Int) < (l.length:Int):=⟨by omega,by omega⟩
    rw [decide_eq_true hl1,Bool.true_and] at HE
    obtain ⟨bL,oL,y,m,hae,hbo,hT⟩:=(RdRow.ext HV.out (fun h x=>RdFn.ext h x) b1).part 0 oM
    subst hae
    have HST:=qH (frmL_at (l:=l) (j:=0) (n:=k) oM)
    have HEN:Hid (frmL (l.drop (0+1)) k=true):=by
     have h:=frmL_end (l:=l) (n:=k)
     rw [hl1] at h
     exact h
    obtain ⟨g,hg⟩:∃ g,l[0]'oM=g:=⟨_,rfl⟩
    rw [hg] at hbo hT HST
    rw [Nat.zero_mul,Nat.add_zero] at hbo
    clear hg hl1
    obtain ⟨u0,u1,u2⟩:=hbo.c3
    have HC:=qH (HIH.out (k:=k) hT)
    clear hbo hT
    generalize g.k=gk at*
    generalize g.a=ga at*
    generalize g.sub.length=gn at*
    obtain ⟨bb,hbb⟩:∃ b,frmF g k=b:=⟨_,rfl⟩
    rw [hbb,HEN.out] at HST
    rw [hbb] at HC
    clear hbb
    go_wp2_with fail
    refine HC.out.mono ?_
    rintro e w5 ⟨_,rfl,b5,rfl⟩
    go_wp2_with fail
    exact hR.out _ _ (Gives.mk (eT b1 b5) (by rw [HE.out,HST.out,Bool.and_true];rfl))
   have dl:((l.length:Int) == 1)=false:=beq_eq_false_iff_ne.2 oM
   rw [decide_eq_false hl1,Bool.false_and] at HE
   clear hl1
   go_wp2_with fail
   exact hR.out _ _ (Gives.mk b1 (by first | (rw [HE.out];done) | (rw [HE.out];rfl)))
  rw [if_neg h2] at HE
  have d2:(fk == 2)=false:=beq_eq_false_iff_ne.2 h2
  by_cases h3:fk=3
  ·rw [if_pos (.inl h3)] at HE
   subst h3
   clear h1 d1 h5 h6 d5 d6 h2 d2
   go_wp2_with fail
   go_loopw [53] (fun t wr=>∃ j:Nat,t=.int .i64 j∧j≤l.length∧Ext w1 wr∧Hid (r=frmL (l.drop j) k)) (fun t _=>l.length - (intOf t).toNat)
   case atStart=>exact ⟨0,rfl,Nat.zero_le _,Ext.refl _,HE.out⟩
   case round=>
    obtain ⟨j,rfl,hj,hx,hZ⟩:=hrel
    by_cases hjl:j < l.length
    ·have hd:=dT ((j:Int) < (l.length:Int))
     have HJ2:(0:Int)≤(j:Int)∧(j:Int) < (l.length:Int):=⟨by omega,by omega⟩
     have HJ1:IntKind.i64.wrap ((j:Int)+1)=((j+1:Nat):Int):=by have:=hlc.out;unfold maxLen at this;rw [IntKind.wrap_i64];omega
     obtain ⟨bL,oL,y,m,hae,hbo,hT⟩:=(RdRow.ext HV.out (fun h x=>RdFn.ext h x) (eT b1 hx)).part j hjl
     subst hae
     have HST:=qH (frmL_at (n:=k) hjl)
     obtain ⟨g,hg⟩:∃ g,l[j]=g:=⟨_,rfl⟩
     rw [hg] at hbo hT HST
     clear hg
     obtain ⟨u0,u1,u2⟩:=hbo.c3
     obtain ⟨w4,hw4,b4,c4,-,-⟩:=bx1 wr [.int .i64 g.k,.int .i64 g.a,.slice y g.sub.length m] 65
     have HW:=qH hw4
     have C4:=qH c4
     have hx4:=eT hx b4
     have HC:=qH (HIH.out (k:=k) (RdFn.ext hT b4))
     clear hw4 c4 hbo hT
     generalize g.k=gk at*
     generalize g.a=ga at*
     generalize g.sub.length=gn at*
     go_upto_region 14 with (fail)
     rw [← HW.out]
     clear HW u0 u1 u2
     obtain ⟨u0,u1,u2⟩:=C4.out.c3
     obtain ⟨bb,hbb⟩:∃ b,frmF g k=b:=⟨_,rfl⟩
     rw [hbb] at HC HST
     clear hbb
     go_wp2_with fail
     refine HC.out.mono ?_
     rintro e w5 ⟨_,rfl,b5,rfl⟩
     cases bb with
     | false=>
      have HV2:Hid (r=false):=by show _=_;rw [hZ.out,HST.out];rfl
      go_wp2_with fail
      exact hR.out _ _ (Gives.mk (eT b1 (eT hx4 b5)) (by first | (rw [HV2.out];done) | (rw [HV2.out];rfl)))
     | true=>
      have HV2:Hid (r=frmL (l.drop (j+1)) k):=by show _=_;rw [hZ.out,HST.out];rfl
      go_wp2_with fail
      go_roundw
      case rel=>exact ⟨j+1,by go_num,by omega,eT hx4 b5,HV2.out⟩
      simp [intOf]<;>omega
    obtain rfl:j=l.length:=by omega
    have hd:=dF ((l.length:Int) < (l.length:Int))
    have HV2:Hid (r=true):=by show _=_;rw [hZ.out,frmL_end]
    go_wp2_with fail
    exact hR.out _ _ (Gives.mk (eT b1 hx) (by first | (rw [HV2.out];done) | (rw [HV2.out];rfl)))
  by_cases h4:fk=4
  ·rw [if_pos (.inr h4)] at HE
   subst h4
   clear h1 d1 h5 h6 d5 d6 h2 d2 h3
   go_wp2_with fail
   go_loopw [53] (fun t wr=>∃ j:Nat,t=.int .i64 j∧j≤l.length∧Ext w1 wr∧Hid (r=frmL (l.drop j) k)) (fun t _=>l.length - (intOf t).toNat)
   case atStart=>exact ⟨0,rfl,Nat.zero_le _,Ext.refl _,HE.out⟩
   case round=>
    obtain ⟨j,rfl,hj,hx,hZ⟩:=hrel
    by_cases hjl:j < l.length
    ·have hd:=dT ((j:Int) < (l.length:Int))
     have HJ2:(0:Int)≤(j:Int)∧(j:Int) < (l.length:Int):=⟨by omega,by omega⟩
     have HJ1:IntKind.i64.wrap ((j:Int)+1)=((j+1:Nat):Int):=by have:=hlc.out;unfold maxLen at this;rw [IntKind.wrap_i64];omega
     obtain ⟨bL,oL,y,m,hae,hbo,hT⟩:=(RdRow.ext HV.out (fun h x=>RdFn.ext h x) (eT b1 hx)).part j hjl
     subst hae
     have HST:=qH (frmL_at (n:=k) hjl)
     obtain ⟨g,hg⟩:∃ g,l[j]=g:=⟨_,rfl⟩
     rw [hg] at hbo hT HST
     clear hg
     obtain ⟨u0,u1,u2⟩:=hbo.c3
     obtain ⟨w4,hw4,b4,c4,-,-⟩:=bx1 wr [.int .i64 g.k,.int .i64 g.a,.slice y g.sub.length m] 65
     have HW:=qH hw4
     have C4:=qH c4
     have hx4:=eT hx b4
     have HC:=qH (HIH.out (k:=k) (RdFn.ext hT b4))
     clear hw4 c4 hbo hT
     generalize g.k=gk at*
     generalize g.a=ga at*
     generalize g.sub.length=gn at*
     go_upto_region 14 with (fail)
     rw [← HW.out]
     clear HW u0 u1 u2
     obtain ⟨u0,u1,u2⟩:=C4.out.c3
     obtain ⟨bb,hbb⟩:∃ b,frmF g k=b:=⟨_,rfl⟩
     rw [hbb] at HC HST
     clear hbb
     go_wp2_with fail
     refine HC.out.mono ?_
     rintro e w5 ⟨_,rfl,b5,rfl⟩
     cases bb with
     | false=>
      have HV2:Hid (r=false):=by show _=_;rw [hZ.out,HST.out];rfl
      go_wp2_with fail
      exact hR.out _ _ (Gives.mk (eT b1 (eT hx4 b5)) (by first | (rw [HV2.out];done) | (rw [HV2.out];rfl)))
     | true=>
      have HV2:Hid (r=frmL (l.drop (j+1)) k):=by show _=_;rw [hZ.out,HST.out];rfl
      go_wp2_with fail
      go_roundw
      case rel=>exact ⟨j+1,by go_num,by omega,eT hx4 b5,HV2.out⟩
      simp [intOf]<;>omega
    obtain rfl:j=l.length:=by omega
    have hd:=dF ((l.length:Int) < (l.length:Int))
    have HV2:Hid (r=true):=by show _=_;rw [hZ.out,frmL_end]
    go_wp2_with fail
    exact hR.out _ _ (Gives.mk (eT b1 hx) (by first | (rw [HV2.out];done) | (rw [HV2.out];rfl)))
  rw [if_neg (fun h=>h.elim h3 h4)] at HE
  have d3:(fk == 3)=false:=beq_eq_false_iff_ne.2 h3
  have d4:(fk == 4)=false:=beq_eq_false_iff_ne.2 h4
  clear h1 h5 h6 h2 h3 h4
  go_wp2_with fail
  exact hR.out _ _ (Gives.mk b1 (by first | (rw [HE.out];done) | (rw [HE.out];rfl)))
def chkG (f:Fm) (k:Int):Int:=if ovrF f 1 < 0 then 2 else if frmF f k=true then 0 else 4
theorem chk_same {f:Fm} {k:Int}:chkF f k=chkG f k:=by
 unfold chkF chkG
 by_cases h:ovrF f 1 < 0
 ·rw [if_pos h,if_pos ((cnt_iff f).2 h)]
 rw [if_neg h,if_neg (fun h2=>h ((cnt_iff f).1 h2))]
theorem check11_any {w:World} {v:Value} {f:Fm} {k:Int} (hv:RdFm w v f):
  Calls Tryz.prog 56 #[v,.int .i64 k] w (Gives w fun v' _=>v'=.int .i64 (chkG f k)):=by
 refine via fun R hR=>?_
 obtain ⟨n,hn⟩:=hv
 have hv:RdFm w v f:=⟨n,hn⟩
 obtain ⟨x,c,_,rfl,-⟩:=hv.op
 obtain ⟨w1,hw1,b1,c1,-,-⟩:=bx1 w [.int .i64 f.k,.int .i64 f.a,.slice x f.sub.length c] 65
 have HW:=qH hw1
 have C1:=qH c1
 have HN:=qH (hn.ext b1)
 obtain ⟨j0,j1,j2⟩:=c1.c3
 have HC:=qH (over_any n HN.out (d:=1) dC dC)
 have HR:Hid (chkG f k=if ovrF f 1 < 0 then 2 else if frmF f k=true then 0 else 4):=rfl
 have HS:Hid (∀ w',Ext w1 w'→Calls Tryz.prog 91 #[.agg #[.int .i64 f.k,.int .i64 f.a,.slice x f.sub.length c],.int .i64 k] w' (Gives w' fun v' _=>v'=.bool (frmF f k))):=fun w' y=>form11_any n (HN.out.ext y) (k:=k)
 clear hw1 c1 hv hn
 generalize ovrF f 1=z at*
 generalize frmF f k=bb at*
 generalize chkG f k=r at*
 generalize f.k=fk at*
 generalize f.a=fa at*
 generalize f.sub.length=fl at*
 go_enter Tryz.func56,Tryz.ntmps56
 go_upto_region 1 with (fail)
 rw [← HW.out]
 clear HW
 go_wp2_with fail
 refine HC.out.mono ?_
 rintro e w5 ⟨_,rfl,b5,rfl⟩
 by_cases hz:z < 0
 ·have hd2:decide (z < 0)=true:=decide_eq_true hz
  have HV2:Hid (r=2):=by show _=_;rw [HR.out,if_pos hz]
  clear hz
  go_wp2_with fail
  exact hR.out _ _ (Gives.mk (eT b1 b5) (by first | (rw [HV2.out];done) | (rw [HV2.out];rfl)))
 have hd2:decide (z < 0)=false:=decide_eq_false hz
 have HV2:Hid (r=if bb=true then 0 else 4):=by show _=_;rw [HR.out,if_neg hz]
 clear hz j0 j1 j2
 obtain ⟨j0,j1,j2⟩:=(C1.out.ext b5).c3
 have HS2:=qH (HS.out _ b5)
 go_wp2_with fail
 refine HS2.out.mono ?_
 rintro e w6 ⟨_,rfl,b6,rfl⟩
 cases bb with
 | false=>
  go_wp2_with fail
  exact hR.out _ _ (Gives.mk (eT b1 (eT b5 b6)) (by rw [HV2.out];rfl))
 | true=>
  go_wp2_with fail
  exact hR.out _ _ (Gives.mk (eT b1 (eT b5 b6)) (by rw [HV2.out];rfl))
theorem nodes_any:∀ (n:Nat) {w:World} {v:Value} {f:Fm} {m:Int},RdFn n w v f→szF f≤20000→
  Calls Tryz.prog 35 #[v,.int .i64 m] w (Gives w fun v' _=>v'=.int .i64 (ndsF f m))
 | 0,_,_,_,_,h,_=>h.elim
 | n+1,w,v,f,m,hv,hsz=>by
  refine via fun R hR=>?_
  obtain ⟨x,c,rfl,hr⟩:=hv.op
  have HV:=qH hr
  have HIH:Hid (∀ {w:World} {v:Value} {f:Fm} {m:Int},RdFn n w v f→szF f≤20000→
   Calls Tryz.prog 35 #[v,.int .i64 m] w (Gives w fun v' _=>v'=.int .i64 (ndsF f m))):=@nodes_any n
  obtain ⟨w1,hw1,b1,c1,-,-⟩:=bx1 w [.int .i64 f.k,.int .i64 f.a,.slice x f.sub.length c] 65
  have HW:=qH hw1
  obtain ⟨j0,j1,j2⟩:=c1.c3
  have HE:=qH (ndsF_eq (f:=f) (m:=m))
  have HSZ:=qH hsz
  rw [szF_eq] at HSZ
  have hlc:Hid (f.sub.length≤maxLen):=by obtain ⟨_,_,he,h1,h2⟩:=HV.out.shape;exact qH (by simp only [Value.slice.injEq] at he;omega)
  clear hw1 c1 hv hr hsz
  obtain ⟨r,hr⟩:∃ r,ndsF f m=r:=⟨_,rfl⟩
  rw [hr] at HE hR
  clear hr
  generalize f.sub=l at*
  generalize f.k=fk at*
  generalize f.a=fa at*
  go_enter Tryz.func35,Tryz.ntmps35
  go_upto_region 1 with (fail)
  rw [← HW.out]
  clear HW
  go_wp2_with fail
  go_loopw [5,11] (fun q t wr=>∃ (j:Nat) (z:Int),t=.int .i64 j∧q=.int .i64 z∧j≤l.length∧Ext w1 wr∧Hid (1≤z∧z+szL (l.drop j)≤20000∧r=ndsL (l.drop j) z m)) (fun _ t _=>l.length - (intOf t).toNat)
  case atStart=>exact ⟨0,1,rfl,rfl,Nat.zero_le _,Ext.refl _,by omega,HSZ.out,HE.out⟩
  case round=>
   obtain ⟨j,z,rfl,rfl,hj,hx,hZ⟩:=hrel
   by_cases hjl:j < l.length
   ·have hd:=dT ((j:Int) < (l.length:Int))
    have HJ2:(0:Int)≤(j:Int)∧(j:Int) < (l.length:Int):=⟨by omega,by omega⟩
    have HJ1:IntKind.i64.wrap ((j:Int)+1)=((j+1:Nat):Int):=by have:=hlc.out;unfold maxLen at this;rw [IntKind.wrap_i64];omega
    obtain ⟨bL,oL,y,mm,hae,hbo,hT⟩:=(RdRow.ext HV.out (fun h x=>RdFn.ext h x) (eT b1 hx)).part j hjl
    subst hae
    have HST:=qH (ndsL_at (z:=z) (m:=m) hjl)
    have HSA:=qH (szL_at hjl)
    obtain ⟨g,hg⟩:∃ g,l[j]=g:=⟨_,rfl⟩
    rw [hg] at hbo hT HST HSA
    clear hg
    obtain ⟨u0,u1,u2⟩:=hbo.c3
    obtain ⟨w4,hw4,b4,c4,-,-⟩:=bx1 wr [.int .i64 g.k,.int .i64 g.a,.slice y g.sub.length mm] 65
    have HW:=qH hw4
    have C4:=qH c4
    have hx4:=eT hx b4
    have HC:=qH (HIH.out (m:=m) (RdFn.ext hT b4) (by have:=HSA.out;have:=hZ.out;have:=szL_pos (l.drop (j+1));omega))
    have HLE:=qH (nds_le g m)
    have HLP:=qH (nds_pos g m)
    have HPO:=qH (szL_pos (l.drop (j+1)))
    clear hw4 c4 hbo hT
    generalize g.k=gk at*
    generalize g.a=ga at*
    generalize g.sub.length=gn at*
    go_upto_region 5 with (fail)
    rw [← HW.out]
    clear HW u0 u1 u2
    obtain ⟨u0,u1,u2⟩:=C4.out.c3
    by_cases hz:m < z
    ·have hd2:decide (m < z)=true:=decide_eq_true hz
     have HV2:Hid (r=z):=by show _=_;rw [hZ.out.2.2,HST.out,if_pos hz]
     clear hz
     go_wp2_with fail
     exact hR.out _ _ (Gives.mk (eT b1 hx4) (by first | (rw [HV2.out];done) | (rw [HV2.out];rfl)))
    have hd2:decide (m < z)=false:=decide_eq_false hz
    obtain ⟨y,hy⟩:∃ m',ndsF g m=m':=⟨_,rfl⟩
    rw [hy] at HC HST HLE HLP
    clear hy
    have HZ3:Hid (1≤z+y∧z+y+szL (l.drop (j+1))≤20000∧r=ndsL (l.drop (j+1)) (z+y) m):=⟨by have:=hZ.out;have:=HLP.out;omega,by have:=hZ.out;have:=HLE.out;have:=HSA.out;omega,by rw [hZ.out.2.2,HST.out,if_neg hz]⟩
    have HWZ:IntKind.i64.wrap (z+y)=z+y:=by have:=HZ3.out;have:=HPO.out;rw [IntKind.wrap_i64];omega
    clear hz
    go_wp2_with fail
    refine HC.out.mono ?_
    rintro e w5 ⟨_,rfl,b5,rfl⟩
    go_wp2_with fail
    go_roundw
    case rel=>exact ⟨j+1,z+y,by go_num,rfl,by omega,eT hx4 b5,HZ3.out⟩
    simp [intOf]<;>omega
   obtain rfl:j=l.length:=by omega
   have hd:=dF ((l.length:Int) < (l.length:Int))
   have HV2:Hid (r=z):=by show _=_;rw [hZ.out.2.2,ndsL_end]
   go_wp2_with fail
   exact hR.out _ _ (Gives.mk (eT b1 hx) (by first | (rw [HV2.out];done) | (rw [HV2.out];rfl)))
end Go.Proofs.YtmlhccajicmpfaaGreat
