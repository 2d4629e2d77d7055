/- A group of texts: PNatMul, PNatDivWord, PNatTake, PNatLong, PNatDivMod, PNatGcd -/
import Derived.Test.YtdooldpgnjmpfaaGreatDoorPartAA
import Derived.Test.YtdooldpgnjmpfaaGreatDoorPartAE
import Derived.Deep.CutBlock
import Derived.Deep.LoopGhost
namespace Go.Proofs.YtdooldpgnjmpfaaGreatDoor
open Go.RowKit Go.Att

theorem mul_any {w:World} {va vb:Value} {xa xb:List Nat} (ha:RdL w va xa) (hb:RdL w vb xb) (hna:xa.length≤549755813888) (hnb:xb.length≤549755813888):
  Calls Tryz.prog 112 #[va,vb] w (Gives w fun v' w'=>OwnL 119 w.heap.size w' v' (limbs (nv xa*nv xb))):=by
 refine via fun R hR=>?_
 have HA:=Lib.hid ha
 have HB:=Lib.hid hb
 have hla:=limbs_len_le ha.2
 have hlb:=limbs_len_le hb.2
 clear ha hb
 go_enter Tryz.func112,Tryz.ntmps112
 go_wp2_with fail
 refine (norm_any HA.out (by omega)).mono ?_
 rintro e w1 ⟨v1,rfl,b1,o1⟩
 have O1:=Lib.hid o1
 clear o1
 go_wp2_with fail
 refine (norm_any (HB.out.ext b1) (by omega)).mono ?_
 rintro e w2 ⟨v2,rfl,b2,o2⟩
 have O2:=Lib.hid o2
 clear o2
 have HRA:=Lib.hid (O1.out.rd.ext b2)
 have HRB:=Lib.hid O2.out.rd
 generalize hA:limbs (nv xa)=A at*
 generalize hB:limbs (nv xb)=B at*
 have HE:Hid (nv A*nv B=nv xa*nv xb):=by show _=_;rw [← hA,← hB,nv_limbs,nv_limbs]
 obtain ⟨a,ca,rfl,hca1,hma,_,hca⟩:=HRA.out.1.shape
 obtain ⟨b,cb,rfl,hcb1,hmb,_,hcb⟩:=HRB.out.1.shape
 have HCA:=Lib.hid hca
 have HCB:=Lib.hid hcb
 have X2:=Ext.trans b1 b2
 have s2:=X2.size
 clear hca hcb hA hB b1 b2
 unfold maxLen at hma hmb
 go_wp2_with (at_make;refine make_ints et32 rfl _ _ rfl _ _ (A.length+B.length) rfl rfl (by omega) (by unfold maxLen;omega) ?_)
 intro w3 o3 b3
 have O3:=Lib.hid o3
 have X3:=Ext.trans X2 b3
 clear o3
 go_wp2_with fail
 go_loopw [23] (fun i wr=>∃ (k:Nat) (o:List Nat),i=.int .i64 k∧k≤A.length∧o.length=A.length+B.length∧Hid (OwnL 119 w.heap.size wr (.slice (some ⟨w2.heap.size,0,none⟩) (A.length+B.length) (A.length+B.length)) o)∧Hid (nv o=nv (A.take k)*nv B)∧Ext w wr∧Ext w2 wr) (fun i _=>A.length - (intOf i).toNat)
 case atStart=>exact ⟨0,zeros (A.length+B.length),rfl,Nat.zero_le _,len_zeros _,⟨O3.out.mono s2,fit_zeros _ (by decide)⟩,by simp [Hid,nv,zeros,val_zeros],X3,b3⟩
 case round=>
  obtain ⟨k,o,rfl,hk,hol,hO,hinv,hbel,hbel2⟩:=hrel
  have hs:=hbel.size
  clear b3 X3
  by_cases hlt:k < A.length
  ·obtain ⟨ba,oa,rfl,hc⟩:=HCA.out k hlt
   have hc2:=Ext.cell hbel2 hc
   have FA:=HRA.out.2.nth32 k
   have hz:Hid (nth o (k+B.length)=0):=digit_zero (by have h:=hinv.out;unfold nv at h;rw [h];exact mul_below HRA.out.2 HRB.out.2 k hk)
   clear hc
   go_wp2
   obtain ⟨wo,rfl⟩:∃ wo:World,wo=wr:=⟨_,rfl⟩
   go_loopw [8,30] (fun c j wr=>∃ (jj:Nat) (o:List Nat) (cc:Nat),j=.int .i64 jj∧jj≤B.length∧o.length=A.length+B.length∧c=.int .u64 cc∧cc≤4294967295∧Hid (nth o (k+B.length)=0)∧Hid (OwnL 119 w.heap.size wr (.slice (some ⟨w2.heap.size,0,none⟩) (A.length+B.length) (A.length+B.length)) o)∧Hid (val W32 o+W32 ^ (k+jj)*cc=nv (A.take k)*nv B+W32 ^ k*(nth A k*val W32 (B.take jj)))∧Ext w wr∧Ext w2 wr) (fun _ j _=>B.length - (intOf j).toNat)
   case atStart=>exact ⟨0,o,0,rfl,Nat.zero_le _,hol,rfl,by omega,hz,hO,by simp [Hid,val];exact hinv.out,hbel,hbel2⟩
   case round=>
    obtain ⟨j,o2,c,rfl,hj,hol2,rfl,hcc,hz2,hO2,hinv2,hbl,hbl2⟩:=hrel
    have hs2:=hbl.size
    clear hbel hbel2 hs hol hc2
    by_cases hlt2:j < B.length
    ·obtain ⟨bb,ob,rfl,hcb⟩:=HCB.out j hlt2
     have hcb':=Ext.cell hbl2 hcb
     have FB:=HRB.out.2.nth32 j
     have hs1:=hO2.out.1.cellAt (k+j) (by omega)
     have hf1:=hO2.out.1.free (k+j)
     have FO:=hO2.out.2.nth32 (k+j)
     obtain ⟨hm1,hm2⟩:=mul_carry hcc FA FB FO rfl
     have hp1:(0:Int)≤(nth A k:Int)*(nth B j:Int):=Int.mul_nonneg (by omega) (by omega)
     have hp2:(nth A k:Int)*(nth B j:Int)≤18446744065119617025:=by
      have h:=Nat.mul_le_mul FA FB
      have h2:((nth A k*nth B j:Nat):Int)≤18446744065119617025:=by omega
      rwa [Int.natCast_mul] at h2
     have HM1:=Lib.hid hm1
     have HM2:=Lib.hid hm2
     have hp3:(c:Int)+(nth A k:Int)*(nth B j:Int)+(nth o2 (k+j):Int)≤18446744073709551615:=by omega
     clear hcb hm1 hm2
     go_wp2
     go_roundw
     case rel=>
      refine ⟨j+1,o2.set (k+j) ((c+nth A k*nth B j+nth o2 (k+j)) % W32),(c+nth A k*nth B j+nth o2 (k+j)) / W32,by go_num,by omega,by rw [len_set];exact hol2,?_,HM2.out,by show _=_;rw [nth_set_ne _ _ _ _ (by omega)];exact hz2.out,OwnL.set hO2.out (k+j) ?_ (Nat.mod_lt _ (by decide)),mul_step (by omega) hinv2.out rfl,Below.setCell hbl s2 _,Below.setCell hbl2 (Nat.le_refl _) _⟩
      ·unfold W32;go_num
      ·unfold W32;omega
     case measure=>simp [intOf] <;> omega
    ·obtain rfl:j=B.length:=by omega
     have hs1:=hO2.out.1.cellAt (k+B.length) (by omega)
     have hf1:=hO2.out.1.free (k+B.length)
     go_wp2
     go_roundw
     case rel=>
      exact ⟨k+1,o2.set (k+B.length) c,by go_num,by omega,by rw [len_set];exact hol2,OwnL.set hO2.out (k+B.length) rfl (by unfold W32;omega),mul_row (by omega) hz2.out hinv2.out,Below.setCell hbl s2 _,Below.setCell hbl2 (Nat.le_refl _) _⟩
     case measure=>simp [intOf] <;> omega
  ·obtain rfl:k=A.length:=by omega
   have E:Hid (nv o=nv xa*nv xb):=by
    have h:=hinv.out
    unfold nv at h
    rw [val_take_ge _ _ _ (Nat.le_refl _)] at h
    exact h.trans HE.out
   go_wp2_with (go_at_call 76;refine (norm_any hO.out.rd (by omega)).mono ?_;rintro e w4 ⟨v4,rfl,b4,o4⟩)
   have O4:=Lib.hid o4
   clear o4
   go_wp2
   have o5:=O4.out
   rw [E.out] at o5
   exact hR.out _ _ (Gives.mk (Ext.trans hbel b4) (o5.mono hs))
open Go.RowKit Go.Att

theorem divword_any {w:World} {va:Value} {xs:List Nat} (d:Nat) (hd0:1≤d) (hd:d≤4294967295) (ha:RdL w va xs) (hl:xs.length≤1099511627776):
  Calls Tryz.prog 137 #[va,.int .u32 d] w (Gives w fun v' w'=>∃ q,v'=.tuple #[q,.int .u32 ((nv xs % d:Nat):Int),.bool true]∧OwnL 119 w.heap.size w' q (limbs (nv xs / d))):=by
 refine via fun R hR=>?_
 have HA:=Lib.hid ha
 obtain ⟨a,ca,rfl,hla,hma,_,hca⟩:=ha.1.shape
 have HCA:=Lib.hid hca
 clear ha hca
 unfold maxLen at hma
 have hb:((d:Int) == 0)=false:=beqF (by omega)
 go_enter Tryz.func137,Tryz.ntmps137
 go_wp2_with (at_make;refine make_ints et32 rfl _ _ rfl _ _ xs.length rfl rfl (by omega) (by unfold maxLen;omega) ?_)
 intro w1 o1 b1
 have O1:=Lib.hid o1
 clear o1
 go_wp2_with fail
 go_loopw [8,9] (fun r i wr=>∃ (m:Nat) (o:List Nat) (rr:Nat),i=.int .i64 ((m:Int) - 1)∧m≤xs.length∧o.length=xs.length∧r=.int .u64 rr∧rr < d∧Hid (OwnL 119 w.heap.size wr (.slice (some ⟨w.heap.size,0,none⟩) xs.length xs.length) o)∧Hid (nv (xs.drop m)=d*nv (o.drop m)+rr)∧Ext w wr) (fun _ i _=>(intOf i+1).toNat)
 case atStart=>exact ⟨xs.length,zeros xs.length,0,rfl,Nat.le_refl _,len_zeros _,rfl,by omega,⟨O1.out,fit_zeros _ (by decide)⟩,by simp [Hid,nv,val,zeros],b1⟩
 case round=>
  obtain ⟨m,o,r,rfl,hm,hol,rfl,hr,hO,hinv,hbel⟩:=hrel
  have hs:=hbel.size
  clear b1
  by_cases hlt:0 < m
  ·obtain ⟨j,rfl⟩:∃ j,m=j+1:=⟨m - 1,by omega⟩
   obtain ⟨ba,oa,rfl,hc⟩:=HCA.out j (by omega)
   have hc2:=Ext.cell hbel hc
   have FA:=HA.out.2.nth32 j
   have hs1:=hO.out.1.cellAt j (by omega)
   have hf1:=hO.out.1.free j
   have hor:Hid (r*4294967296 ||| nth xs j=r*4294967296+nth xs j):=by
    show _=_
    have h:=or_sum (s:=32) (lo:=nth xs j) (hi:=r) (by omega)
    rw [Nat.or_comm,show (2:Nat) ^ 32=4294967296 from rfl] at h
    omega
   have hq:=divw_small hr FA
   have hstep:=Lib.hid (divw_step (by omega) hol hinv.out)
   have hmod:=Nat.mod_lt (r*4294967296+nth xs j) (show 0 < d by omega)
   generalize hQ:(r*4294967296+nth xs j) / d=Q at*
   generalize hM:(r*4294967296+nth xs j) % d=M at*
   have eQ:(((r*4294967296+nth xs j:Nat):Int) / (d:Int))=(Q:Int):=by rw [← hQ];simp
   have eM:(((r*4294967296+nth xs j:Nat):Int) % (d:Int))=(M:Int):=by rw [← hM];simp
   have hor2:=hor.out
   generalize hT:r*4294967296+nth xs j=T at*
   have hT2:T≤18446744073709551615:=by omega
   have HT:=Lib.hid hT
   have bQ:(0:Int)≤(T:Int) / (d:Int)∧(T:Int) / (d:Int)≤4294967295:=by rw [eQ];omega
   have EQ:=Lib.hid eQ
   have EM:=Lib.hid eM
   obtain ⟨bQ1,bQ2⟩:=bQ
   clear hc hQ hM hT hor2 eQ eM
   go_wp2_with (refine op_or rfl rfl (r*4294967296) (nth xs j) T rfl rfl (by go_num) rfl rfl (by show _ < 18446744073709551616;omega) (by show _ < 18446744073709551616;omega) hor.out ?_)
   go_roundw
   case rel=>
    refine ⟨j,o.set j Q,M,rfl,by omega,by rw [len_set];exact hol,by rw [EM.out],hmod,OwnL.set hO.out j EQ.out (by unfold W32;omega),hstep.out,Below.setCell hbel (Nat.le_refl _) _⟩
   case measure=>simp [intOf] <;> omega
  ·obtain rfl:m=0:=by omega
   have h0:nv xs=d*nv o+r:=by have h:=hinv.out;rwa [List.drop_zero,List.drop_zero] at h
   have hdm:=div_mod_of h0 hr
   have E1:=Lib.hid hdm.1
   have E2:=Lib.hid hdm.2
   clear hdm h0
   go_wp2_with (go_at_call 76;refine (norm_any hO.out.rd (by omega)).mono ?_;rintro e w4 ⟨v4,rfl,b4,o4⟩)
   have O4:=Lib.hid o4
   clear o4
   go_wp2
   go_ret3
   have o5:=O4.out
   rw [E1.out] at o5
   have h6:R (.returned (.tuple #[v4,.int .u32 (r:Int),.bool true])) w4:=hR.out _ _ (Gives.mk (Ext.trans hbel b4) ⟨_,by rw [← E2.out],o5.mono hs⟩)
   exact h6
open Go.RowKit Go.Att

theorem rd_out {w w':World} {v:Value} {xs:List Nat} {g B C:Nat} (h:RdL w v xs) (x:Besides g (g+1) w w') (hb:∀ a l c,v=.slice (some a) l c→a.block≠g) (_hB:B≤C):RdL w' v xs:=by
 refine ⟨?_,h.2⟩
 obtain ⟨h0,a,cap,rfl,h1,h2,h3,h5⟩:=h.1
 refine ⟨h0,a,cap,rfl,h1,h2,h3,fun i hi=>?_⟩
 obtain ⟨b,off,ha,hc⟩:=h5 i hi
 refine ⟨b,off,ha,?_⟩
 have hne:b≠g:=hb ⟨b,off,none⟩ _ _ (by rw [ha])
 rw [← hc]
 exact World.cell?_of_block (w:=w) (x.block b (by omega))

theorem take_any {w:World} {vv:Value} {o v:List Nat} {g N cap c j B:Nat} (gu:Nat) (hgu:gu≤4294967295)
  (hO:OwnL 119 B w (.slice (some ⟨g,0,none⟩) N cap) o) (hv:RdL w vv v) (hne:∀ a l c,vv=.slice (some a) l c→a.block≠g) (hj:j+v.length+1≤o.length) (hc:v.length+1≤c) (hcm:c≤maxLen):
  Calls Tryz.prog 151 #[.slice (some ⟨g,j,none⟩) (v.length+1) c,vv,.int .u64 gu] w fun e w'=>∃ o' bo,e=.returned (.bool (decide (bo=1)))∧bo≤1∧OwnL 119 B w' (.slice (some ⟨g,0,none⟩) N cap) o'∧Besides g (g+1) w w'∧o'.length=o.length∧o'.take j=o.take j∧o'.drop (j+v.length+1)=o.drop (j+v.length+1)∧
   val W32 ((o.drop j).take (v.length+1))+W32 ^ (v.length+1)*bo=val W32 ((o'.drop j).take (v.length+1))+gu*val W32 v:=by
 refine via fun R hR=>?_
 have HV:=Lib.hid hv
 have HO:=Lib.hid hO
 have HNE:=Lib.hid hne
 obtain ⟨a,ca,rfl,hla,hma,_,hca⟩:=hv.1.shape
 have HCA:=Lib.hid hca
 clear hca hv hO hne
 unfold maxLen at hma hcm
 go_enter Tryz.func151,Tryz.ntmps151
 go_wp2_with fail
 go_loopw [7,14] (fun c i wr=>∃ (k:Nat) (o':List Nat) (cc:Nat),i=.int .i64 k∧k≤v.length∧o'.length=o.length∧c=.int .u64 cc∧cc≤gu∧Hid (OwnL 119 B wr (.slice (some ⟨g,0,none⟩) N cap) o')∧Besides g (g+1) w wr∧Hid (o'.take j=o.take j)∧Hid (o'.drop (j+k)=o.drop (j+k))∧Hid (val W32 ((o.drop j).take k)+W32 ^ k*cc=val W32 ((o'.drop j).take k)+gu*val W32 (v.take k))) (fun _ i _=>v.length - (intOf i).toNat)
 case atStart=>exact ⟨0,o,0,rfl,Nat.zero_le _,rfl,rfl,Nat.zero_le _,HO.out,Besides.refl _ _ _,rfl,rfl,by simp [Hid,val]⟩
 case round=>
  obtain ⟨k,o',cc,rfl,hk,hol,rfl,hcc,hO,hout,ht,hd,hinv⟩:=hrel
  have HOL:=Lib.hid hol
  have hol2:o.length≤o'.length:=by omega
  clear hol
  by_cases hlt:k < v.length
  ·obtain ⟨ba,oa,rfl,hc1⟩:=HCA.out k hlt
   have hrd:=rd_out HV.out hout HNE.out (Nat.le_refl 0)
   have hc2:=hrd.1.cell k hlt
   have FA:=HV.out.2.nth32 k
   have hs1:=hO.out.1.cellAt (j+k) (by omega)
   have hf1:=hO.out.1.free (j+k)
   have FO:=hO.out.2.nth32 (j+k)
   obtain ⟨hp1,hp2⟩:=take_owed FA hcc rfl
   have hm:gu*nth v k≤4294967295*4294967295:=Nat.mul_le_mul hgu FA
   have hpi1:(0:Int)≤(gu:Int)*(nth v k:Int):=Int.mul_nonneg (by omega) (by omega)
   have hpi2:(gu:Int)*(nth v k:Int)≤18446744065119617025:=by
    have h2:((gu*nth v k:Nat):Int)≤18446744065119617025:=by omega
    rwa [Int.natCast_mul] at h2
   have hpi3:(gu:Int)*(nth v k:Int)+(cc:Int)≤18446744073709551615:=by omega
   have hnd:Hid (nth o' (j+k)=nth o (j+k)):=by
    show _=_
    have h:=congrArg (fun l=>nth l 0) hd.out
    simp only [nth_drop,Nat.add_zero] at h
    exact h
   have hd1:Hid (o'.drop (j+k+1)=o.drop (j+k+1)):=by
    show _=_
    have h:=congrArg (fun l=>List.drop 1 l) hd.out
    simpa [List.drop_drop] using h
   have HP1:=Lib.hid hp1
   have HP2:=Lib.hid hp2
   clear hc1 hrd hp1 hp2
   by_cases hlt2:(nth o' (j+k):Int) < ((gu:Int)*(nth v k:Int)+(cc:Int)) % 4294967296
   ·go_wp2
    go_roundw
    case rel=>
     have h1:=HP1.out
     have h2:=HP2.out
     have h3:=hnd.out
     unfold W32 at h1 h2
     refine ⟨k+1,o'.set (j+k) (nth o' (j+k)+4294967296 - (gu*nth v k+cc) % 4294967296),(gu*nth v k+cc) / 4294967296+1,by go_num,by omega,by rw [len_set];exact HOL.out,by go_num,?_,OwnL.set hO.out (j+k) (by omega) (by unfold W32;omega),Besides.set hout (Nat.le_refl _) (Nat.lt_succ_self _) _,?_,?_,?_⟩
     ·have:(gu*nth v k+cc) % 4294967296≠0:=by omega
      have:(gu*nth v k+cc) / 4294967296≠gu:=fun h=>this (h2 h)
      omega
     ·show _=_;rw [List.take_set,List.set_eq_of_length_le (by simp;omega)];exact ht.out
     ·show _=_;rw [List.drop_set,if_pos (by omega)];exact hd1.out
     ·exact take_step (by omega) hinv.out (by rw [← h3];unfold W32;omega)
    case measure=>simp [intOf] <;> omega
   ·go_wp2
    go_roundw
    case rel=>
     have h1:=HP1.out
     have h3:=hnd.out
     unfold W32 at h1
     refine ⟨k+1,o'.set (j+k) (nth o' (j+k) - (gu*nth v k+cc) % 4294967296),(gu*nth v k+cc) / 4294967296,by go_num,by omega,by rw [len_set];exact HOL.out,by go_num,by omega,OwnL.set hO.out (j+k) (by omega) (by unfold W32;omega),Besides.set hout (Nat.le_refl _) (Nat.lt_succ_self _) _,?_,?_,?_⟩
     ·show _=_;rw [List.take_set,List.set_eq_of_length_le (by simp;omega)];exact ht.out
     ·show _=_;rw [List.drop_set,if_pos (by omega)];exact hd1.out
     ·exact take_step (by omega) hinv.out (by rw [← h3];unfold W32;omega)
    case measure=>simp [intOf] <;> omega
  ·obtain rfl:k=v.length:=by omega
   have hs1:=hO.out.1.cellAt (j+v.length) (by omega)
   have hf1:=hO.out.1.free (j+v.length)
   have FO:=hO.out.2.nth32 (j+v.length)
   have hnd:Hid (nth o' (j+v.length)=nth o (j+v.length)):=by
    show _=_
    have h:=congrArg (fun l=>nth l 0) hd.out
    simp only [nth_drop,Nat.add_zero] at h
    exact h
   have hd1:Hid (o'.drop (j+v.length+1)=o.drop (j+v.length+1)):=by
    show _=_
    have h:=congrArg (fun l=>List.drop 1 l) hd.out
    simpa [List.drop_drop] using h
   have fin:∀ (bo d:Nat) (z:Int) (w2:World),bo≤1→z=(d:Int)→d < W32→nth o' (j+v.length)+W32*bo=d+cc→w2=wr.setCell ⟨g,j+v.length,none⟩ (.int .u32 z)→R (.returned (.bool (decide (bo=1)))) w2:=by
    intro bo d z w2 h1 h2 h3 h4 h5
    subst h5
    refine hR.out _ _ ⟨o'.set (j+v.length) d,bo,rfl,h1,OwnL.set hO.out (j+v.length) h2 h3,Besides.set hout (Nat.le_refl _) (Nat.lt_succ_self _) _,by rw [len_set];exact HOL.out,?_,?_,?_⟩
    ·rw [List.take_set,List.set_eq_of_length_le (by simp;omega)];exact ht.out
    ·rw [List.drop_set,if_pos (by omega)];exact hd1.out
    ·have h:=take_step (v:=v) (c':=bo) (d:=d) (by omega) hinv.out (by rw [← hnd.out,nth_ge v _ (Nat.le_refl _)];simpa using h4)
     rw [List.take_of_length_le (Nat.le_succ _)] at h
     exact h
   have FIN:=Lib.hid fin
   clear fin
   by_cases hlt2:(nth o' (j+v.length):Int) < (cc:Int)
   ·have hc3:decide ((nth o' (j+v.length):Int) < (cc:Int))=true:=decide_eq_true hlt2
    go_wp2
    exact FIN.out 1 (nth o' (j+v.length)+4294967296 - cc) _ _ (Nat.le_refl _) (by omega) (by unfold W32;omega) (by unfold W32;omega) rfl
   ·have hc3:decide ((nth o' (j+v.length):Int) < (cc:Int))=false:=decide_eq_false hlt2
    go_wp2
    exact FIN.out 0 (nth o' (j+v.length) - cc) _ _ (Nat.zero_le _) (by omega) (by unfold W32;omega) (by unfold W32;omega) rfl
theorem give_any {w:World} {vv:Value} {o v:List Nat} {g N cap c j B:Nat}
  (hO:OwnL 119 B w (.slice (some ⟨g,0,none⟩) N cap) o) (hv:RdL w vv v) (hne:∀ a l c,vv=.slice (some a) l c→a.block≠g) (hj:j+v.length+1≤o.length) (hc:v.length+1≤c) (hcm:c≤maxLen):
  Calls Tryz.prog 152 #[.slice (some ⟨g,j,none⟩) (v.length+1) c,vv] w fun e w'=>∃ o' bo,e=.returned (.tuple #[])∧bo≤1∧OwnL 119 B w' (.slice (some ⟨g,0,none⟩) N cap) o'∧Besides g (g+1) w w'∧o'.length=o.length∧o'.take j=o.take j∧o'.drop (j+v.length+1)=o.drop (j+v.length+1)∧
   val W32 ((o.drop j).take (v.length+1))+val W32 v=val W32 ((o'.drop j).take (v.length+1))+W32 ^ (v.length+1)*bo:=by
 refine via fun R hR=>?_
 have HV:=Lib.hid hv
 have HO:=Lib.hid hO
 have HNE:=Lib.hid hne
 obtain ⟨a,ca,rfl,hla,hma,_,hca⟩:=hv.1.shape
 have HCA:=Lib.hid hca
 clear hca hv hO hne
 unfold maxLen at hma hcm
 go_enter Tryz.func152,Tryz.ntmps152
 go_wp2_with fail
 go_loopw [4,9] (fun c i wr=>∃ (k:Nat) (o':List Nat) (cc:Nat),i=.int .i64 k∧k≤v.length∧o'.length=o.length∧c=.int .u64 cc∧cc≤1∧Hid (OwnL 119 B wr (.slice (some ⟨g,0,none⟩) N cap) o')∧Besides g (g+1) w wr∧Hid (o'.take j=o.take j)∧Hid (o'.drop (j+k)=o.drop (j+k))∧Hid (val W32 ((o.drop j).take k)+val W32 (v.take k)=val W32 ((o'.drop j).take k)+W32 ^ k*cc)) (fun _ i _=>v.length - (intOf i).toNat)
 case atStart=>exact ⟨0,o,0,rfl,Nat.zero_le _,rfl,rfl,Nat.zero_le _,HO.out,Besides.refl _ _ _,rfl,rfl,by simp [Hid,val]⟩
 case round=>
  obtain ⟨k,o',cc,rfl,hk,hol,rfl,hcc,hO,hout,ht,hd,hinv⟩:=hrel
  have HOL:=Lib.hid hol
  have hol2:o.length≤o'.length:=by omega
  clear hol
  by_cases hlt:k < v.length
  ·obtain ⟨ba,oa,rfl,hc1⟩:=HCA.out k hlt
   have hrd:=rd_out HV.out hout HNE.out (Nat.le_refl 0)
   have hc2:=hrd.1.cell k hlt
   have FA:=HV.out.2.nth32 k
   have hs1:=hO.out.1.cellAt (j+k) (by omega)
   have hf1:=hO.out.1.free (j+k)
   have FO:=hO.out.2.nth32 (j+k)
   have hnd:Hid (nth o' (j+k)=nth o (j+k)):=by
    show _=_
    have h:=congrArg (fun l=>nth l 0) hd.out
    simp only [nth_drop,Nat.add_zero] at h
    exact h
   have hd1:Hid (o'.drop (j+k+1)=o.drop (j+k+1)):=by
    show _=_
    have h:=congrArg (fun l=>List.drop 1 l) hd.out
    simpa [List.drop_drop] using h
   clear hc1 hrd
   go_wp2
   go_roundw
   case rel=>
    have h3:=hnd.out
    refine ⟨k+1,o'.set (j+k) ((nth o' (j+k)+nth v k+cc) % 4294967296),(nth o' (j+k)+nth v k+cc) / 4294967296,by go_num,by omega,by rw [len_set];exact HOL.out,by go_num,by omega,OwnL.set hO.out (j+k) (by omega) (by unfold W32;omega),Besides.set hout (Nat.le_refl _) (Nat.lt_succ_self _) _,?_,?_,?_⟩
    ·show _=_;rw [List.take_set,List.set_eq_of_length_le (by simp;omega)];exact ht.out
    ·show _=_;rw [List.drop_set,if_pos (by omega)];exact hd1.out
    ·exact give_step (by omega) hinv.out (by rw [← h3];unfold W32;omega)
   case measure=>simp [intOf] <;> omega
  ·obtain rfl:k=v.length:=by omega
   have hs1:=hO.out.1.cellAt (j+v.length) (by omega)
   have hf1:=hO.out.1.free (j+v.length)
   have FO:=hO.out.2.nth32 (j+v.length)
   have hnd:Hid (nth o' (j+v.length)=nth o (j+v.length)):=by
    show _=_
    have h:=congrArg (fun l=>nth l 0) hd.out
    simp only [nth_drop,Nat.add_zero] at h
    exact h
   have hd1:Hid (o'.drop (j+v.length+1)=o.drop (j+v.length+1)):=by
    show _=_
    have h:=congrArg (fun l=>List.drop 1 l) hd.out
    simpa [List.drop_drop] using h
   go_wp2
   have fin:∀ (z:Int),z=(((nth o' (j+v.length)+cc) % 4294967296:Nat):Int)→R (.returned (.tuple #[])) (wr.setCell ⟨g,j+v.length,none⟩ (.int .u32 z)):=by
    intro z h2
    refine hR.out _ _ ⟨o'.set (j+v.length) ((nth o' (j+v.length)+cc) % 4294967296),(nth o' (j+v.length)+cc) / 4294967296,rfl,by omega,OwnL.set hO.out (j+v.length) h2 (by unfold W32;omega),Besides.set hout (Nat.le_refl _) (Nat.lt_succ_self _) _,by rw [len_set];exact HOL.out,?_,?_,?_⟩
    ·rw [List.take_set,List.set_eq_of_length_le (by simp;omega)];exact ht.out
    ·rw [List.drop_set,if_pos (by omega)];exact hd1.out
    ·have h:=give_step (v:=v) (c':=(nth o' (j+v.length)+cc) / 4294967296) (d:=(nth o' (j+v.length)+cc) % 4294967296) (by omega) hinv.out (by rw [← hnd.out,nth_ge v _ (Nat.le_refl _)];unfold W32;omega)
     rw [List.take_of_length_le (Nat.le_succ _)] at h
     exact h
   go_end0
   exact fin _ (by omega)

open Go.RowKit Go.Att

theorem long_len {y:Nat} (h:2≤(limbs y).length):(limbs (y*2 ^ (32 - blen (nth (limbs y) ((limbs y).length - 1))))).length=(limbs y).length∧2147483648≤nth (limbs (y*2 ^ (32 - blen (nth (limbs y) ((limbs y).length - 1))))) ((limbs y).length - 1):=by
 have h0:y≠0:=by
  intro h0;subst h0;unfold limbs at h;rw [digs_zero] at h;simp at h
 obtain ⟨e1,e2,e3⟩:=blen_limbs y h0
 have hb:=blen_32 ((fit_limbs y).nth32 ((limbs y).length - 1))
 generalize hB:blen (nth (limbs y) ((limbs y).length - 1))=B at*
 have hbl:blen (y*2 ^ (32 - B))=32*(limbs y).length:=by
  have h1:=blen_high 0 y (32 - B) (Nat.two_pow_pos _) h0
  rw [Nat.zero_add,Nat.mul_comm] at h1
  omega
 have hne:y*2 ^ (32 - B)≠0:=Nat.mul_ne_zero h0 (Nat.ne_of_gt (Nat.two_pow_pos _))
 obtain ⟨f1,f2,f3⟩:=blen_limbs (y*2 ^ (32 - B)) hne
 have fb:=blen_32 ((fit_limbs (y*2 ^ (32 - B))).nth32 ((limbs (y*2 ^ (32 - B))).length - 1))
 have fp:=blen_pos f2
 have hl:(limbs (y*2 ^ (32 - B))).length=(limbs y).length:=by omega
 refine ⟨hl,?_⟩
 rw [hl] at f1 fb fp f2
 by_cases hh:2147483648≤nth (limbs (y*2 ^ (32 - B))) ((limbs y).length - 1)
 ·exact hh
 ·exfalso
  have:=(blen_le (nth (limbs (y*2 ^ (32 - B))) ((limbs y).length - 1)) 31).2 (by omega)
  omega

def Long3 (w:World) (gu nu cu:Nat) (ou:List Nat) (gv nvv cv:Nat) (lv:List Nat) (gq nq:Nat) (oq:List Nat) (wr:World):Prop:=
 OwnL 119 w.heap.size wr (.slice (some ⟨gu,0,none⟩) nu cu) ou∧OwnL 119 w.heap.size wr (.slice (some ⟨gv,0,none⟩) nvv cv) lv∧OwnL 119 w.heap.size wr (.slice (some ⟨gq,0,none⟩) nq nq) oq∧Ext w wr
theorem Long3.drew {w:World} {gu nu cu:Nat} {ou:List Nat} {gv nvv cv:Nat} {lv:List Nat} {gq nq:Nat} {oq:List Nat} {wr:World} (h:Long3 w gu nu cu ou gv nvv cv lv gq nq oq wr):Long3 w gu nu cu ou gv nvv cv lv gq nq oq wr.drew:=
 ⟨h.1,h.2.1,h.2.2.1,Below.drew h.2.2.2⟩

set_option maxRecDepth 100000 in
set_option maxHeartbeats 8000000 in
theorem long_any {w:World} {va vb:Value} {x y:Nat} (ha:RdL w va (limbs x)) (hb:RdL w vb (limbs y)) (h2:2≤(limbs y).length) (hle:y≤x) (hlx:(limbs x).length≤549755813888):
  Calls Tryz.prog 138 #[va,vb] w (Gives w fun v' w'=>∃ q r,v'=.tuple #[q,r,.bool true]∧OwnL 119 w.heap.size w' q (limbs (x / y))∧OwnL 119 w.heap.size w' r (limbs (x % y))):=by
 refine via fun R hR=>?_
 have HA:=Lib.hid ha
 have HB:=Lib.hid hb
 have hly:=limbs_mono hle
 obtain ⟨hn,ht⟩:=long_len h2
 have FB:=(fit_limbs y).nth32 ((limbs y).length - 1)
 have hbl:=blen_32 FB
 obtain ⟨a,ca,rfl,hca1,hma,_,_⟩:=ha.1.shape
 obtain ⟨b,cb,rfl,hcb1,hmb,_,hcb⟩:=hb.1.shape
 obtain ⟨bb,ob,rfl,hc⟩:=hcb ((limbs y).length - 1) (by omega)
 clear hcb ha hb
 generalize hS:32 - blen (nth (limbs y) ((limbs y).length - 1))=s at*
 have eS:(32:Int) - (blen (nth (limbs y) ((limbs y).length - 1)):Int)=(s:Int):=by omega
 have hs:s≤32:=by omega
 have hxm:=limbs_mono (show x≤x*2 ^ s from Nat.le_mul_of_pos_right _ (Nat.two_pow_pos s))
 have hxs:=limbs_shl (n:=s) (Nat.le_refl (limbs x).length)
 have hvu:=limbs_mono (Nat.mul_le_mul_right (2 ^ s) hle)
 have HN:=Lib.hid hn
 have HT:=Lib.hid ht
 have ES:=Lib.hid eS
 have hn1:(limbs (y*2 ^ s)).length≤(limbs y).length:=Nat.le_of_eq hn
 have hn2:(limbs y).length≤(limbs (y*2 ^ s)).length:=Nat.le_of_eq hn.symm
 clear hS eS hn ht
 unfold maxLen at hma hmb
 go_enter Tryz.func138,Tryz.ntmps138
 go_wp2_with fail
 refine (lz_any FB _).mono ?_
 rintro e w1 ⟨rfl,rfl⟩
 rw [ES.out]
 go_wp2_with fail
 refine (shl_any s (by omega) HA.out (by omega)).mono ?_
 rintro e w2 ⟨_,rfl,b2,v2,rfl,o2⟩
 have O2:=Lib.hid o2
 clear o2
 go_wp2_with fail
 refine (shl_any s (by omega) (HB.out.ext b2) (by omega)).mono ?_
 rintro e w3 ⟨_,rfl,b3,v3,rfl,o3⟩
 have O3:=Lib.hid o3
 clear o3
 rw [nv_limbs] at O2 O3
 have HXV:Hid (nv (limbs (x*2 ^ s))=x*2 ^ s):=nv_limbs _
 have HYV:Hid (nv (limbs (y*2 ^ s))=y*2 ^ s):=nv_limbs _
 generalize limbs (x*2 ^ s)=lu at*
 generalize limbs (y*2 ^ s)=lv at*
 obtain ⟨gu,cu,rfl,hgu1,hcu1,hcu2⟩:=O2.out.1.there (by omega)
 obtain ⟨gv,cv,rfl,hgv1,hcv1,hcv2⟩:=O3.out.1.there (by omega)
 have hgu2:gu < w2.heap.size:=(OwnI.lt O2.out.1).2
 have hgv2:gv < w3.heap.size:=(OwnI.lt O3.out.1).2
 have hs2:=b2.size
 have hs3:=b3.size
 unfold maxLen at hcu2 hcv2
 go_wp2_with (at_builtin;refine append_ints et32 rfl _ _ rfl w.heap.size rfl (OwnI.ext O2.out.1 (Ext.trans b3 (Ext.alloc _ _))) rfl (show RdI .u32 _ _ [0] from RdV.lit _ _ _ _ 1 rfl (by unfold maxLen;omega)) (by simp;omega) (by simp;unfold maxLen;omega) (by simp;omega) ?_)
 intro gu' cu' w4 hgu' o4 b4 g4
 have hO4:Hid (OwnL 119 w.heap.size w4 (.slice (some ⟨gu',0,none⟩) (lu.length+1) cu') (lu ++ [0])):=⟨o4,O2.out.2.app (Fit.one (by decide))⟩
 have hne:gu'≠gv:=by
  rcases hgu' with h | h
  ·omega
  ·have h2:(w3.alloc (.cells #[.int .u32 0] 119)).heap.size=w3.heap.size+1:=by simp
   omega
 have hV4:Hid (OwnL 119 w.heap.size w4 (.slice (some ⟨gv,0,none⟩) lv.length cv) lv):=
  ⟨OwnI.same (OwnI.ext (O3.out.1.mono hs2) (Ext.alloc _ _)) (g4.block gv (by simp;omega) (by simp;omega)),O3.out.2⟩
 have X4:Ext w w4:=Below.trans (Below.trans b2 (Below.mono b3 hs2)) (Below.trans (Below.alloc (Below.refl _ _) (by omega) _) b4)
 have hs4:=X4.size
 have hgu4:gu' < w4.heap.size:=(OwnI.lt hO4.out.1).2
 have hgv4:gv < w4.heap.size:=(OwnI.lt hV4.out.1).2
 have hguw:w.heap.size≤gu':=(OwnI.lt hO4.out.1).1
 obtain ⟨hcu3,hcu4⟩:=o4.caps
 simp only [List.length_append,List.length_singleton] at hcu3
 clear o4 b4 g4 hgu' O2 O3 b2 b3 hgu1 hgu2 hgv1 hgv2 hcu1
 unfold maxLen at hcu4
 have hbe:(((lu.length:Int)+1) == ((limbs x).length:Int))=false:=beqF (by omega)
 go_wp2_with (at_make;refine make_ints_lc et32 rfl _ _ rfl (lu.length+1 - lv.length) (lu.length+1 - lv.length) rfl rfl (by omega) (by omega) (Nat.le_refl _) (by omega) (by unfold maxLen;omega) ?_)
 intro w5 o5 b5
 have hq5:OwnL 119 w.heap.size w5 (.slice (some ⟨w4.heap.size,0,none⟩) (lu.length+1 - lv.length) (lu.length+1 - lv.length)) (zeros (lu.length+1 - lv.length)):=⟨o5.mono hs4,fit_zeros _ (by decide)⟩
 have H5:Hid (Long3 w gu' (lu.length+1) cu' (lu ++ [0]) gv lv.length cv lv w4.heap.size (lu.length+1 - lv.length) (zeros (lu.length+1 - lv.length)) w5):=
  ⟨hO4.out.ext b5,hV4.out.ext b5,hq5,Ext.trans X4 b5⟩
 have FLV:Hid (Fit W32 lv):=hV4.out.2
 have FLU:Hid (Fit W32 lu):=fun z hz=>hO4.out.2 z (by simp [hz])
 generalize hgq:w4.heap.size=gq at*
 clear o5 hq5 b5 hgq X4 hO4 hV4
 generalize hQ:lu.length+1 - lv.length=Q at*
 have hQ1:Q+lv.length≤lu.length+1:=by omega
 have hQ2:lu.length+1≤Q+lv.length:=by omega
 have HQ:=Lib.hid hQ
 clear hQ
 have hneq1:gu'≠gq:=by omega
 have hneq2:gv≠gq:=by omega
 have htop:2147483648≤nth lv (lv.length - 1):=by
  have h:=HT.out
  rwa [show (limbs y).length=lv.length by omega] at h
 have hVlo:Hid (W32 ^ (lv.length - 1)≤val W32 lv):=by
  have h:=nth_le_val (B:=W32) lv (lv.length - 1)
  have h2:W32 ^ (lv.length - 1)*1≤W32 ^ (lv.length - 1)*nth lv (lv.length - 1):=Nat.mul_le_mul_left _ (by omega)
  show _≤_
  omega
 have hVhi:Hid (val W32 lv < W32 ^ lv.length):=val_lt (by decide) FLV.out
 go_wp2_with fail
 go_loopg [14] Q (fun gk s14 wr=>∃ (m:Nat) (ou oq:List Nat),m=gk∧s14=.int .i64 ((m:Int) - 1)∧m≤Q∧ou.length=lu.length+1∧oq.length=Q∧Hid (Long3 w gu' (lu.length+1) cu' ou gv lv.length cv lv gq Q oq wr)∧Hid (x*2 ^ s=val W32 lv*(W32 ^ m*val W32 (oq.drop m))+val W32 ou)∧Hid (val W32 (ou.drop m) < val W32 lv))
 case atStart=>
  refine ⟨Q,lu ++ [0],zeros Q,rfl,rfl,Nat.le_refl _,by simp,len_zeros _,H5.out,?_,?_⟩
  ·show _=_
   have h:=HXV.out
   rw [List.drop_of_length_le (by rw [len_zeros];exact Nat.le_refl _),val_app]
   simp only [val,Nat.mul_zero,Nat.add_zero,Nat.zero_add]
   exact h.symm
  ·show _ < _
   have h:(lu ++ [0]).drop Q=lu.drop Q ++ [0]:=by rw [List.drop_append_of_le_length (by omega)]
   rw [h,val_app]
   simp only [val,Nat.mul_zero,Nat.add_zero]
   have h2:=val_lt (show 0 < W32 by decide) (FLU.out.drop Q)
   rw [List.length_drop,show lu.length - Q=lv.length - 1 by omega] at h2
   exact Nat.lt_of_lt_of_le h2 hVlo.out
 case round=>
  obtain ⟨m,ou,oq,rfl,h14,hm,hol,hoq,hL,hinv,hlt⟩:=hrel
  by_cases hm0:0 < m
  ·obtain ⟨j,rfl⟩:∃ j,m=j+1:=⟨m - 1,by omega⟩
   have h15:=h14.trans (show Value.int .i64 (((j+1:Nat):Int) - 1)=.int .i64 (j:Int) by go_num)
   clear h14
   obtain rfl:=h15
   have hol1:ou.length≤lu.length+1:=Nat.le_of_eq hol
   have hol2:lu.length+1≤ou.length:=Nat.le_of_eq hol.symm
   have hoq1:oq.length≤Q:=Nat.le_of_eq hoq
   have hoq2:Q≤oq.length:=Nat.le_of_eq hoq.symm
   clear hol hoq H5
   have hXlt:val W32 (ou.drop j) < W32*val W32 lv:=by
    have h1:=val_drop_any W32 ou j
    have h2:=hL.out.1.2.nth32 j
    have h3:=hlt.out
    have h4:W32*(val W32 (ou.drop (j+1))+1)≤W32*val W32 lv:=Nat.mul_le_mul_left _ h3
    rw [Nat.mul_add] at h4
    unfold W32 at*
    omega
   have hz:val W32 (ou.drop (j+lv.length+1))=0:=by
    have h1:=val_split W32 (ou.drop j) (lv.length+1)
    rw [List.drop_drop,show j+(lv.length+1)=j+lv.length+1 by omega] at h1
    by_cases h0:val W32 (ou.drop (j+lv.length+1))=0
    ·exact h0
    ·exfalso
     have h2:W32 ^ (lv.length+1)*1≤W32 ^ (lv.length+1)*val W32 (ou.drop (j+lv.length+1)):=Nat.mul_le_mul_left _ (by omega)
     have h3:W32*val W32 lv < W32*W32 ^ lv.length:=Nat.mul_lt_mul_of_pos_left hVhi.out (by decide)
     rw [Nat.pow_succ,Nat.mul_comm (W32 ^ lv.length)] at h1 h2
     omega
   obtain ⟨p,hp⟩:∃ p,lv.length=p+2:=⟨lv.length - 2,by omega⟩
   have hD:Digit (val W32 (ou.drop j)) (val W32 lv) (nth ou (j+lv.length)*W32+nth ou (j+lv.length - 1)) (nth ou (j+lv.length - 2)) (nth lv (lv.length - 1)) (nth lv (lv.length - 2)) (W32 ^ p) (val W32 ((ou.drop j).take p)) (val W32 (lv.take p)):=by
    refine ⟨?_,?_,val_take_lt (hL.out.1.2.drop j) p,val_take_lt FLV.out p,hXlt,htop,FLV.out.nth32 _,FLV.out.nth32 _,hL.out.1.2.nth32 _⟩
    ·rw [show j+lv.length=j+p+2 by omega,show j+p+2 - 1=j+p+1 by omega,show j+p+2 - 2=j+p by omega]
     exact seg3 ou j p (by rw [show j+p+3=j+lv.length+1 by omega];exact hz)
    ·rw [show lv.length - 1=p+1 by omega,show lv.length - 2=p by omega]
     exact top2 lv p hp
   have HD:=Lib.hid hD
   have HZ:=Lib.hid hz
   have c0:=hL.out.1.1.cellAt (j+lv.length) (by omega)
   have c1:=hL.out.1.1.cellAt (j+lv.length - 1) (by omega)
   have c2:=hL.out.1.1.cellAt (j+lv.length - 2) (by omega)
   have d1:=hL.out.2.1.1.cellAt (lv.length - 1) (by omega)
   have d2:=hL.out.2.1.1.cellAt (lv.length - 2) (by omega)
   have f0:=hL.out.1.2.nth32 (j+lv.length)
   have f1:=hL.out.1.2.nth32 (j+lv.length - 1)
   have f2:=hL.out.1.2.nth32 (j+lv.length - 2)
   have f4:=FLV.out.nth32 (lv.length - 1)
   have f5:=FLV.out.nth32 (lv.length - 2)
   have htl:=hD.top_le
   have hfst:=hD.first
   clear hD hz hXlt hp
   generalize nth ou (j+lv.length)=U0 at*
   generalize nth ou (j+lv.length - 1)=U1 at*
   generalize hU2:nth ou (j+lv.length - 2)=U2 at*
   generalize hV1:nth lv (lv.length - 1)=V1 at*
   generalize hV2:nth lv (lv.length - 2)=V2 at*
   have HU2:=Lib.hid hU2
   have HV1:=Lib.hid hV1
   have HV2:=Lib.hid hV2
   clear hU2 hV1 hV2
   have hor:Go.bits .or .u64 ((U0:Int)*4294967296) (U1:Int)=((U0*W32+U1:Nat):Int):=by
    have h:=bits_or (k:=.u64) rfl (X:=U0*4294967296) (Y:=U1) (V:=U0*4294967296+U1) (by show _ < 18446744073709551616;omega) (by show _ < 18446744073709551616;omega) (by have h:=or_sum (s:=32) (lo:=U1) (hi:=U0) (by omega);rw [Nat.or_comm,show (2:Nat) ^ 32=4294967296 from rfl] at h;omega)
    rw [Int.natCast_mul] at h
    exact h
   generalize hT:U0*W32+U1=T at*
   have hT2:T≤18446744073709551615:=by rw [← hT];unfold W32;omega
   have hG:=first_le htop htl
   have hR:=Nat.mod_lt T (show 0 < V1 by omega)
   have hGR:Hid (T / V1*V1+T % V1=T):=by show _=_;rw [Nat.mul_comm];exact Nat.div_add_mod T V1
   generalize hG0:T / V1=G0 at*
   generalize hR0:T % V1=R0 at*
   have eG:(T:Int) / (V1:Int)=(G0:Int):=by rw [← hG0];simp
   have eR:(T:Int) % (V1:Int)=(R0:Int):=by rw [← hR0];simp
   have eR2:Int.tmod (T:Int) (V1:Int)=(R0:Int):=by rw [Int.tmod_eq_emod_of_nonneg (by omega)];exact eR
   have HFST:=Lib.hid hfst
   clear hT hG0 hR0 hfst htl
   go_wp2_with fail
   go_region
   go_wp2_with fail
   clear hor
   go_region
   clear eG eR eR2
   go_upto_block 2 with (fail)
   go_cut [16] (fun s16 wx=>∃ G:Nat,s16=.int .u64 G∧G≤4294967295∧Hid (val W32 (ou.drop j) < (G+1)*val W32 lv∧G*val W32 lv < val W32 (ou.drop j)+val W32 lv)∧Hid (Long3 w gu' (lu.length+1) cu' ou gv lv.length cv lv gq Q oq wx))
   case first=>
    go_wp2_with fail
    go_loopw [16,17] (fun g r wx=>∃ (G Rr:Nat),g=.int .u64 G∧r=.int .u64 Rr∧G≤4294967297∧Rr≤4294967295∧Hid (G*V1+Rr=T)∧Hid (val W32 (ou.drop j) < (G+1)*val W32 lv)∧Hid (Long3 w gu' (lu.length+1) cu' ou gv lv.length cv lv gq Q oq wx)) (fun _ r _=>4294967296 - (intOf r).toNat)
    case atStart=>exact ⟨G0,R0,rfl,rfl,hG,by omega,hGR.out,HFST.out,hL.out.drew.drew⟩
    case round=>
     obtain ⟨G,Rr,rfl,rfl,hGl,hRl,hgr,hfs,hL2⟩:=hrel
     have c2:=hL2.out.1.1.cellAt (j+lv.length - 2) (by omega)
     have d1:=hL2.out.2.1.1.cellAt (lv.length - 1) (by omega)
     have d2:=hL2.out.2.1.1.cellAt (lv.length - 2) (by omega)
     rw [HU2.out] at c2
     rw [HV1.out] at d1
     rw [HV2.out] at d2
     clear c0 c1
     by_cases hW:4294967296≤G
     ·have hb1:((G:Int) / 4294967296 != 0)=true:=bneT (by omega)
      have hG1:1≤G:=by omega
      have hstep:=Lib.hid (step_v1 hG1 hgr.out)
      have hdown:=HD.out.down hgr.out (.inl (by unfold W32;exact hW))
      have HDN:Hid (val W32 (ou.drop j) < (G - 1+1)*val W32 lv):=by show _ < _;rw [show G - 1+1=G by omega];exact hdown
      clear hdown
      by_cases hbig:4294967296≤Rr+V1
      ·have hb2:(((Rr:Int)+(V1:Int)) / 4294967296 != 0)=true:=bneT (by omega)
       have hlate:=HD.out.late hstep.out (by unfold W32;exact hbig)
       have HUP:=Lib.hid (HD.out.up hstep.out (by unfold W32;omega) hlate.2)
       have hlt2:=hlate.1
       clear hlate
       go_wp2_with fail
       go_region
       go_wp2_with fail
       go_meet
       exact ⟨G - 1,by go_num,hlt2,⟨HDN.out,HUP.out⟩,hL2.out.drew⟩
      ·have hb2:(((Rr:Int)+(V1:Int)) / 4294967296 != 0)=false:=bneF (by omega)
       go_wp2_with fail
       go_region
       go_wp2_with fail
       go_roundw
       case rel=>exact ⟨G - 1,Rr+V1,by go_num,by go_num,by omega,by omega,hstep.out,HDN.out,hL2.out.drew⟩
       case measure=>simp [intOf] <;> omega
     ·have hb1:((G:Int) / 4294967296 != 0)=false:=bneF (by omega)
      have hor2:Go.bits .or .u64 ((Rr:Int)*4294967296) (U2:Int)=((Rr*W32+U2:Nat):Int):=by
       have h:=bits_or (k:=.u64) rfl (X:=Rr*4294967296) (Y:=U2) (V:=Rr*4294967296+U2) (by show _ < 18446744073709551616;omega) (by show _ < 18446744073709551616;omega) (by have h:=or_sum (s:=32) (lo:=U2) (hi:=Rr) (by omega);rw [Nat.or_comm,show (2:Nat) ^ 32=4294967296 from rfl] at h;omega)
       rw [Int.natCast_mul] at h
       exact h
      have hpn:=Nat.mul_le_mul (show G≤4294967295 by omega) f5
      have hp1:(0:Int)≤(G:Int)*(V2:Int):=Int.mul_nonneg (by omega) (by omega)
      have hp2:(G:Int)*(V2:Int)≤18446744065119617025:=by
       have h2:((G*V2:Nat):Int)≤18446744065119617025:=by omega
       rwa [Int.natCast_mul] at h2
      by_cases hgt:Rr*W32+U2 < G*V2
      ·have hb3:(((Rr*W32+U2:Nat):Int) < (G:Int)*(V2:Int)):=by
        have h2:((Rr*W32+U2:Nat):Int) < ((G*V2:Nat):Int):=by omega
        rwa [Int.natCast_mul] at h2
       have HGT:=Lib.hid hgt
       have hGpos:1≤G:=by
        by_cases h:G=0
        ·subst h;omega
        ·omega
       have hRU:Rr*W32+U2≤18446744073709551615:=by unfold W32;omega
       generalize hRUe:Rr*W32+U2=RU at*
       have HRU:=Lib.hid hRUe
       clear hgt hpn hRUe
       have hG1:1≤G:=by omega
       have hstep:=Lib.hid (step_v1 hG1 hgr.out)
       have hdown:=HD.out.down hgr.out (.inr (by rw [HRU.out];exact HGT.out))
       have HDN:Hid (val W32 (ou.drop j) < (G - 1+1)*val W32 lv):=by show _ < _;rw [show G - 1+1=G by omega];exact hdown
       clear hdown
       by_cases hbig:4294967296≤Rr+V1
       ·have hb2:(((Rr:Int)+(V1:Int)) / 4294967296 != 0)=true:=bneT (by omega)
        have hlate:=HD.out.late hstep.out (by unfold W32;exact hbig)
        have HUP:=Lib.hid (HD.out.up hstep.out (by unfold W32;omega) hlate.2)
        have hlt3:=hlate.1
        clear hlate
        go_wp2_with fail
        go_region
        go_wp2_with fail
        go_meet
        exact ⟨G - 1,by go_num,hlt3,⟨HDN.out,HUP.out⟩,hL2.out.drew⟩
       ·have hb2:(((Rr:Int)+(V1:Int)) / 4294967296 != 0)=false:=bneF (by omega)
        go_wp2_with fail
        go_region
        go_wp2_with fail
        go_roundw
        case rel=>exact ⟨G - 1,Rr+V1,by go_num,by go_num,by omega,by omega,hstep.out,HDN.out,hL2.out.drew⟩
        case measure=>simp [intOf] <;> omega
      ·have hb3:¬ (((Rr*W32+U2:Nat):Int) < (G:Int)*(V2:Int)):=by
        have h2:((G*V2:Nat):Int)≤((Rr*W32+U2:Nat):Int):=by omega
        rw [Int.natCast_mul] at h2
        omega
       have HUP:=Lib.hid (HD.out.up hgr.out (by unfold W32;omega) (by omega))
       have hRU:Rr*W32+U2≤18446744073709551615:=by unfold W32;omega
       generalize hRUe:Rr*W32+U2=RU at*
       clear hgt hpn hRUe
       go_wp2_with fail
       go_region
       go_wp2_with fail
       go_meet
       exact ⟨G,rfl,by omega,⟨hfs.out,HUP.out⟩,hL2.out.drew⟩
   case rest=>
    obtain ⟨G,rfl,hG2,hG3,hL2⟩:=hcut
    have hcl:=hL2.out.1.1.caps
    obtain ⟨hcap1,hcap2⟩:=hcl
    unfold maxLen at hcap2
    have hseg:Hid (val W32 ((ou.drop j).take (lv.length+1))=val W32 (ou.drop j)):=by
     show _=_
     have h:=val_split W32 (ou.drop j) (lv.length+1)
     rw [List.drop_drop,show j+(lv.length+1)=j+lv.length+1 by omega,HZ.out] at h
     omega
    go_wp2_with fail
    rw [show j+lv.length+1 - j=lv.length+1 by omega]
    refine (take_any (v:=lv) (o:=ou) (j:=j) G hG2 hL2.out.1 hL2.out.2.1.rd ?_ (by omega) (by omega) (by unfold maxLen;omega)).mono ?_
    ·intro ad l c h
     simp only [Value.slice.injEq,Option.some.injEq] at h
     rw [← h.1];exact Ne.symm hne
    rintro e w6 ⟨ou2,bo,rfl,hbo,hO6,hout6,hl6,ht6,hd6,hv6⟩
    have H6:Hid (Long3 w gu' (lu.length+1) cu' ou2 gv lv.length cv lv gq Q oq w6):=
     ⟨hO6,⟨hL2.out.2.1.1.same (hout6.at (Ne.symm hne)),hL2.out.2.1.2⟩,⟨hL2.out.2.2.1.1.same (hout6.at (Ne.symm hneq1)),hL2.out.2.2.1.2⟩,Below.trans hL2.out.2.2.2 (hout6.ext hguw)⟩
    have hM:Hid (val W32 ((ou2.drop j).take (lv.length+1)) < W32 ^ (lv.length+1)):=val_take_lt (hO6.2.drop j) _
    have hz2:Hid (val W32 (ou2.drop (j+lv.length+1))=0):=by show _=_;rw [hd6];exact HZ.out
    have hseg2:∀ o3:List Nat,o3.drop (j+lv.length+1)=ou2.drop (j+lv.length+1)→val W32 ((o3.drop j).take (lv.length+1))=val W32 (o3.drop j):=by
     intro o3 h3
     have h:=val_split W32 (o3.drop j) (lv.length+1)
     rw [List.drop_drop,show j+(lv.length+1)=j+lv.length+1 by omega,h3,hz2.out] at h
     omega
    have HSEG2:=Lib.hid hseg2
    rw [hseg.out] at hv6
    have HV6:=Lib.hid hv6
    have HT6:=Lib.hid ht6
    have HD6:=Lib.hid hd6
    have hl6a:ou2.length≤lu.length+1:=by omega
    have hl6b:lu.length+1≤ou2.length:=by omega
    clear hseg2 hv6 ht6 hd6 hl6 hO6 hout6 hL2 hL c0 c1 c2 d1 d2
    have hcase:bo=0∨bo=1:=by omega
    rcases hcase with rfl | rfl
    ·have hoff:=off0 HV6.out hG3.out.1
     rw [HSEG2.out ou2 rfl] at hoff
     have hq1:=H6.out.2.2.1.1.cellAt j (by omega)
     have hq2:=H6.out.2.2.1.1.free j
     have HOFF:=Lib.hid hoff
     clear hoff
     go_wp2_with fail
     go_roundg j
     case measure=>omega
     case rel=>
      refine ⟨j,ou2,oq.set j G,rfl,by go_num,by omega,by omega,by rw [len_set];omega,?_,?_,HOFF.out.2⟩
      ·exact ⟨⟨H6.out.1.1.same (Below.heap_setCell _ _ _ _ hneq1),H6.out.1.2⟩,⟨H6.out.2.1.1.same (Below.heap_setCell _ _ _ _ hneq2),H6.out.2.1.2⟩,OwnL.set H6.out.2.2.1 j rfl (by unfold W32;omega),Below.setCell H6.out.2.2.2 (OwnI.lt H6.out.2.2.1.1).1 _⟩
      ·exact long_step (by omega) hinv.out HOFF.out.1 HT6.out rfl
    ·have hG1:1≤G:=by
      by_cases h:G=0
      ·exfalso
       have h1:=HV6.out
       have h2:=hM.out
       subst h
       omega
      ·omega
     go_wp2_with fail
     rw [show j+lv.length+1 - j=lv.length+1 by omega]
     refine (give_any (v:=lv) (o:=ou2) (j:=j) H6.out.1 H6.out.2.1.rd ?_ (by omega) (by omega) (by unfold maxLen;omega)).mono ?_
     ·intro ad l c h
      simp only [Value.slice.injEq,Option.some.injEq] at h
      rw [← h.1];exact Ne.symm hne
     rintro e w7 ⟨ou3,b2,rfl,hb2,hO7,hout7,hl7,ht7,hd7,hv7⟩
     have H7:Hid (Long3 w gu' (lu.length+1) cu' ou3 gv lv.length cv lv gq Q oq w7):=
      ⟨hO7,⟨H6.out.2.1.1.same (hout7.at (Ne.symm hne)),H6.out.2.1.2⟩,⟨H6.out.2.2.1.1.same (hout7.at (Ne.symm hneq1)),H6.out.2.2.1.2⟩,Below.trans H6.out.2.2.2 (hout7.ext hguw)⟩
     have hM7:val W32 ((ou3.drop j).take (lv.length+1)) < W32 ^ (lv.length+1):=val_take_lt (hO7.2.drop j) _
     have hoff:=off1 HV6.out hv7 hb2 hM.out hM7 hG3.out.2
     rw [HSEG2.out ou3 hd7] at hoff
     have hq1:=H7.out.2.2.1.1.cellAt j (by omega)
     have hq2:=H7.out.2.2.1.1.free j
     have HOFF:=Lib.hid hoff
     have HT7:=Lib.hid (ht7.trans HT6.out)
     have hl7a:ou3.length≤lu.length+1:=by omega
     have hl7b:lu.length+1≤ou3.length:=by omega
     clear hoff hO7 hout7 hl7 ht7 hd7 hv7 hM7
     go_wp2_with fail
     go_roundg j
     case measure=>omega
     case rel=>
      refine ⟨j,ou3,oq.set j (G - 1),rfl,by go_num,by omega,by omega,by rw [len_set];omega,?_,?_,HOFF.out.2.1⟩
      ·exact ⟨⟨H7.out.1.1.same (Below.heap_setCell _ _ _ _ hneq1),H7.out.1.2⟩,⟨H7.out.2.1.1.same (Below.heap_setCell _ _ _ _ hneq2),H7.out.2.1.2⟩,OwnL.set H7.out.2.2.1 j (by omega) (by unfold W32;omega),Below.setCell H7.out.2.2.2 (OwnI.lt H7.out.2.2.1.1).1 _⟩
      ·exact long_step (by omega) hinv.out HOFF.out.1 HT7.out rfl
  ·obtain rfl:=h14
   obtain rfl:m=0:=by omega
   have hfin:x*2 ^ s=val W32 lv*val W32 oq+val W32 ou∧val W32 ou < val W32 lv:=by
    have h1:=hinv.out
    have h2:=hlt.out
    rw [List.drop_zero,Nat.pow_zero,Nat.one_mul] at h1
    rw [List.drop_zero] at h2
    exact ⟨h1,h2⟩
   have hyv:val W32 lv=y*2 ^ s:=HYV.out
   obtain ⟨hfin1,hfin2⟩:=hfin
   obtain ⟨hq,hr⟩:=div_mod_of hfin1 hfin2
   rw [hyv] at hq hr
   rw [Nat.mul_div_mul_right _ _ (Nat.two_pow_pos s)] at hq
   rw [Nat.mul_mod_mul_right] at hr
   have HQQ:Hid (nv oq=x / y):=hq
   have HRR:Hid (nv (ou.take lv.length) / 2 ^ s=x % y):=by
    show _=_
    have h1:val W32 (ou.take lv.length)=val W32 ou:=val_take_of_lt (by decide) _ _ (Nat.lt_trans hfin2 hVhi.out)
    show val W32 _ / _=_
    rw [h1,hr,Nat.mul_div_cancel _ (Nat.two_pow_pos s)]
   have hcl:=hL.out.1.1.caps
   obtain ⟨hcap1,hcap2⟩:=hcl
   unfold maxLen at hcap2
   have hol1:ou.length≤lu.length+1:=Nat.le_of_eq hol
   have hol2:lu.length+1≤ou.length:=Nat.le_of_eq hol.symm
   have hoq1:oq.length≤Q:=Nat.le_of_eq hoq
   have RU:Hid (RdL wr (.slice (some ⟨gu',0,none⟩) lv.length cu') (ou.take lv.length)):=⟨RdI.take hL.out.1.rd.1 hol.symm (by omega),hL.out.1.2.take _⟩
   have hsw:=hL.out.2.2.2.size
   have hlt2:(ou.take lv.length).length≤lu.length+1:=by rw [List.length_take];omega
   clear hfin1 hfin2 hyv hq hr hol hoq H5
   go_wp2_with fail
   refine (shr_any s (by omega) RU.out (by omega)).mono ?_
   rintro e w8 ⟨_,rfl,b8,v8,rfl,o8⟩
   rw [HRR.out] at o8
   have O8:=Lib.hid o8
   clear o8
   go_wp2_with fail
   refine (norm_any (hL.out.2.2.1.rd.ext b8) (by omega)).mono ?_
   rintro e w9 ⟨v9,rfl,b9,o9⟩
   rw [HQQ.out] at o9
   have O9:=Lib.hid o9
   clear o9
   have h8:=b8.size
   go_wp2_with fail
   go_ret3
   exact hR.out _ _ (Gives.mk (Ext.trans hL.out.2.2.2 (Ext.trans b8 b9)) ⟨_,_,rfl,O9.out.mono (by omega),(O8.out.ext b9).mono (by omega)⟩)
open Go.RowKit Go.Att

theorem single {y:Nat} (h:(limbs y).length=1):nth (limbs y) 0=y∧1≤y:=by
 have h1:=nv_limbs y
 unfold nv at h1
 have h2:limbs y=[nth (limbs y) 0]:=by
  apply List.ext_getElem (by simp [h])
  intro i h3 h4
  have:i=0:=by omega
  subst this
  rw [← nth_lt _ _ h3];simp
 rw [h2,val_one] at h1
 refine ⟨h1,?_⟩
 have:=(blen_limbs y (fun h0=>by subst h0;unfold limbs at h;rw [digs_zero] at h;simp at h)).2.1
 rw [h] at this
 have e:nth (limbs y) (1 - 1)=y:=h1
 omega

set_option maxHeartbeats 1000000 in
theorem divmod_any {w:World} {va vb:Value} {xa xb:List Nat} (ha:RdL w va xa) (hb:RdL w vb xb) (hna:xa.length≤549755813888) (hnb:xb.length≤549755813888) (h0:nv xb≠0):
  Calls Tryz.prog 115 #[va,vb] w (Gives w fun v' w'=>∃ q r,v'=.tuple #[q,r,.bool true]∧OwnL 119 w.heap.size w' q (limbs (nv xa / nv xb))∧OwnL 119 w.heap.size w' r (limbs (nv xa % nv xb))):=by
 refine via fun R hR=>?_
 have HA:=Lib.hid ha
 have HB:=Lib.hid hb
 have hla:=limbs_len_le ha.2
 have hlb:=limbs_len_le hb.2
 clear ha hb
 go_enter Tryz.func115,Tryz.ntmps115
 go_wp2_with fail
 refine (norm_any HA.out (by omega)).mono ?_
 rintro e w1 ⟨v1,rfl,b1,o1⟩
 have O1:=Lib.hid o1
 clear o1
 go_wp2_with fail
 refine (norm_any (HB.out.ext b1) (by omega)).mono ?_
 rintro e w2 ⟨v2,rfl,b2,o2⟩
 have O2:=Lib.hid o2
 clear o2
 generalize nv xa=x at*
 generalize nv xb=y at*
 have hpos:=(blen_limbs y h0).2.2
 have OA:=Lib.hid (O1.out.ext b2)
 have X2:=Ext.trans b1 b2
 have s1:=b1.size
 have s2:=X2.size
 obtain ⟨b,cb,rfl,hcb1,hmb,_,hcb⟩:=O2.out.rd.1.shape
 obtain ⟨bb,ob,rfl,hc⟩:=hcb 0 hpos
 rw [Nat.add_zero] at hc
 have hbe:(((limbs y).length:Int) == 0)=false:=beqF (by omega)
 clear hcb b1 b2
 unfold maxLen at hmb
 by_cases hlt:x < y
 ·have EQ:Hid (x / y=0):=Nat.div_eq_of_lt hlt
  have ER:Hid (x % y=x):=Nat.mod_eq_of_lt hlt
  have EC:Hid (cmpN (nv (limbs x)) (nv (limbs y)) = -1):=by show _=_;rw [nv_limbs,nv_limbs];exact cmpN_lt hlt
  clear hlt h0
  go_wp2_with fail
  refine (cmp_any OA.out.rd O2.out.rd).mono ?_
  rintro e w3 ⟨_,rfl,b3,rfl⟩
  rw [EC.out]
  go_wp2
  go_ret3
  exact hR.out _ _ (Gives.mk (Ext.trans X2 b3) ⟨_,_,rfl,by rw [EQ.out];unfold limbs;rw [digs_zero];exact ⟨OwnI.nil _ _ _ _,Fit.nil _⟩,by rw [ER.out];exact OA.out.ext b3⟩)
 ·have EC:Hid (0≤cmpN (nv (limbs x)) (nv (limbs y))):=by
   show _≤_
   rw [nv_limbs,nv_limbs]
   rcases cmpN_cases x y with ⟨h,_⟩ | ⟨_,h⟩ | ⟨_,h⟩ <;> omega
  go_wp2_with fail
  refine (cmp_any OA.out.rd O2.out.rd).mono ?_
  rintro e w3 ⟨_,rfl,b3,rfl⟩
  have hcc:=EC.out
  have s3:=b3.size
  generalize cmpN (nv (limbs x)) (nv (limbs y))=cc at*
  by_cases h1:(limbs y).length=1
  ·obtain ⟨e1,e2⟩:=single h1
   have hb1:(((limbs y).length:Int) == 1)=true:=beqT (by omega)
   have hy:y≤4294967295:=by have:=(fit_limbs y).nth32 0;omega
   have hc3:=Ext.cell b3 hc
   rw [e1] at hc3
   clear e1 h1 hc
   go_wp2_with fail
   refine (divword_any y e2 hy (OA.out.rd.ext b3) (by omega)).mono ?_
   rintro e w4 ⟨_,rfl,b4,v4,rfl,o4⟩
   rw [nv_limbs] at o4
   have O4:=Lib.hid o4
   have hm:x % y≤18446744073709551615:=by have:=Nat.mod_lt x (show 0 < y by omega);omega
   have hm2:x % y≤4294967295:=by have:=Nat.mod_lt x (show 0 < y by omega);omega
   rw [nv_limbs]
   generalize hM:x % y=M at*
   have s4:=b4.size
   clear o4 hM
   go_wp2_with fail
   refine (word_any M hm).mono ?_
   rintro e w5 ⟨v5,rfl,b5,o5⟩
   have O5:=Lib.hid o5
   clear o5
   go_wp2_with fail
   go_ret3
   exact hR.out _ _ (Gives.mk (Ext.trans X2 (Ext.trans b3 (Ext.trans b4 b5))) ⟨_,_,rfl,(O4.out.ext b5).mono (by omega),O5.out.mono (by omega)⟩)
  ·have hb1:(((limbs y).length:Int) == 1)=false:=beqF (by omega)
   have h2:2≤(limbs y).length:=by omega
   have hle:y≤x:=by omega
   go_wp2_with fail
   refine (long_any (OA.out.rd.ext b3) (O2.out.rd.ext b3) h2 hle (by omega)).mono ?_
   rintro e w4 ⟨_,rfl,b4,q4,r4,rfl,o4,p4⟩
   have O4:=Lib.hid o4
   have P4:=Lib.hid p4
   clear o4 p4
   go_wp2_with fail
   go_ret3
   exact hR.out _ _ (Gives.mk (Ext.trans X2 (Ext.trans b3 b4)) ⟨_,_,rfl,O4.out.mono (by omega),P4.out.mono (by omega)⟩)
open Go.RowKit Go.Att

theorem limbs_pos {y:Nat}:0 < (limbs y).length↔y≠0:=by
 have:=digs_nil W32 W32_ge y
 show 0 < (digs W32 y).length↔_
 omega

set_option maxHeartbeats 1000000 in
theorem gcd_any {w:World} {va vb:Value} {xa xb:List Nat} (ha:RdL w va xa) (hb:RdL w vb xb) (hna:xa.length≤549755813888) (hnb:xb.length≤549755813888):
  Calls Tryz.prog 113 #[va,vb] w (Gives w fun v' w'=>OwnL 119 w.heap.size w' v' (limbs (Nat.gcd (nv xa) (nv xb)))):=by
 refine via fun R hR=>?_
 have HA:=Lib.hid ha
 have HB:=Lib.hid hb
 have hla:=limbs_len_le ha.2
 have hlb:=limbs_len_le hb.2
 clear ha hb
 go_enter Tryz.func113,Tryz.ntmps113
 go_wp2_with fail
 refine (norm_any HA.out (by omega)).mono ?_
 rintro e w1 ⟨v1,rfl,b1,o1⟩
 have O1:=Lib.hid o1
 clear o1
 go_wp2_with fail
 refine (norm_any (HB.out.ext b1) (by omega)).mono ?_
 rintro e w2 ⟨v2,rfl,b2,o2⟩
 have O2:=Lib.hid o2
 clear o2
 have s1:=b1.size
 go_wp2_with fail
 go_loopg [0,1] (nv xb) (fun gk s0 s1 wr=>∃ (x y:Nat),y=gk∧(limbs x).length≤549755813888∧(limbs y).length≤549755813888∧Hid (OwnL 119 w.heap.size wr s0 (limbs x))∧Hid (OwnL 119 w.heap.size wr s1 (limbs y))∧Hid (Nat.gcd x y=Nat.gcd (nv xa) (nv xb))∧Ext w wr)
 case atStart=>exact ⟨_,_,rfl,by omega,by omega,O1.out.ext b2,O2.out.mono s1,rfl,Ext.trans b1 b2⟩
 case round=>
  obtain ⟨x,y,rfl,hlx,hly,hO,hP,hg,hbel⟩:=hrel
  have hs:=hbel.size
  obtain ⟨b,cb,rfl,hcb1,hmb,_,_⟩:=hP.out.rd.1.shape
  unfold maxLen at hmb
  by_cases h0:y=0
  ·have hl0:(limbs y).length≤0:=by have:=(limbs_pos (y:=y));omega
   have E:Hid (x=Nat.gcd (nv xa) (nv xb)):=by show _=_;rw [← hg.out,h0,Nat.gcd_zero_right]
   clear h0
   go_wp2_with fail
   exact hR.out _ _ (Gives.mk hbel (by rw [← E.out];exact hO.out))
  ·have hl0:0 < (limbs y).length:=limbs_pos.2 h0
   have H0:=Lib.hid h0
   have E:Hid (Nat.gcd y (x % y)=Nat.gcd (nv xa) (nv xb)):=by
    show _=_
    rw [← hg.out,Nat.gcd_comm y,← Nat.gcd_rec,Nat.gcd_comm]
   have hmod:x % y < y:=Nat.mod_lt _ (by omega)
   have hml:=limbs_mono (Nat.le_of_lt hmod)
   clear h0
   go_wp2_with fail
   refine (divmod_any hO.out.rd hP.out.rd (by omega) (by omega) (by rw [nv_limbs];exact H0.out)).mono ?_
   rintro e w3 ⟨_,rfl,b3,q3,r3,rfl,_,o3⟩
   rw [nv_limbs,nv_limbs] at o3
   have O3:=Lib.hid o3
   clear o3
   go_wp2_with fail
   go_roundg (x % y)
   case measure=>exact hmod
   case rel=>exact ⟨y,x % y,rfl,by omega,by omega,hP.out.ext b3,O3.out.mono hs,E.out,Ext.trans hbel b3⟩
end Go.Proofs.YtdooldpgnjmpfaaGreatDoor
