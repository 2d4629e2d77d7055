/- A group of texts: PAKey, PAPlaces -/
import Derived.Test.YtdooldpgnjmpfaaGreatDoorSq
import Derived.Test.YtdooldpgnjmpfaaGreatDoorPartCH
import Derived.Test.YtdooldpgnjmpfaaGreatDoorPartCI
import Derived.Test.YtdooldpgnjmpfaaGreatDoorPartCG
import Derived.Test.YtdooldpgnjmpfaaGreatDoorPartBA
import Derived.Test.YtdooldpgnjmpfaaGreatDoorPartBB
namespace Go.Proofs.YtdooldpgnjmpfaaGreatDoor
open Go.RowKit Go.Att

set_option linter.unusedSimpArgs false in
set_option maxHeartbeats 20000000 in
set_option maxRecDepth 100000 in
theorem akey_any {w : World} {v : Value} {a : AT} (hv : OwnA w v a) (hop : 1 ≤ a.2 ∧ a.2 ≤ 3) (hs : Sm3 a) (hvr : ∀ t ∈ a.1.1, In64 t.1) (ht : Lib.TabIs Tryz.prog w "internal/strconv.uint64pow10" .u64 Lib.pow10Tab) :
  Calls Tryz.prog 47 #[v] w (Gives w fun v' _=>v'=.tuple #[keyV (canA a),.int .i64 0]):=by
 refine via fun R hR=>?_
 have HC1:Hid (∀ w',Ext w w'→Calls Tryz.prog 30 #[v] w' (Gives w' fun v' w'=>∃ u,v'=.tuple #[u,.int .i64 (canA a).2,.int .i64 0]∧OwnA w' u (canA a).1)):=fun w' x=>acanon_any (OwnAt.ext hv x) hop hs
 obtain ⟨a0,k,s,b,m,d,b',m',d',rfl,-⟩:=hv.op
 have HZ:=Lib.hid (canA_sz hs.1 hs.2.1 hs.2.2)
 have HVR:Hid ((canA a).2=0→∀ t∈(canA a).1.1.1,In64 t.1):=fun h t ht=>by
  obtain ⟨u,hu,he⟩:=canA_var h ht
  rw [← he]
  exact hvr u hu
 have HTR:Hid ((canA a).2≠0→(canA a).2=1∨(canA a).2=2):=fun h=>by
  unfold canA at h ⊢
  split
  ·unfold truA;split
   ·exact .inl rfl
   ·exact .inr rfl
  ·rename_i h2;rw [if_neg h2] at h;exact absurd rfl h
 have HT:=Lib.hid ht
 clear hv hop hs hvr ht
 generalize canA a=ca at*
 obtain ⟨⟨⟨l,cc⟩,op⟩,tt⟩:=ca
 dsimp only at HC1 HZ HVR HTR
 generalize a.1.1.length=n at*
 generalize a.2=op0 at*
 obtain ⟨w1,hw1,b1,c1,c2,-,-,hsz⟩:=bx2 w [.slice a0 n k,.bool s,.slice b m d,.slice b' m' d',.int .i64 op0] [.int .i64 0,.bool false,.string ⟨#[]⟩,.string ⟨#[]⟩,.string ⟨#[]⟩] 63 125
 have HW:=Lib.hid hw1
 have C1:=Lib.hid c1
 have R2:Hid (Rt w1 (w.heap.size+1) 5 125):=by
  show Rt _ _ _ _
  rw [hw1]
  have:=Rt.new (w.alloc (.cells #[.slice a0 n k,.bool s,.slice b m d,.slice b' m' d',.int .i64 op0] 63)) [.int .i64 0,.bool false,.string ⟨#[]⟩,.string ⟨#[]⟩,.string ⟨#[]⟩] 125
  simpa using this
 clear hw1 c1 c2
 go_enter Tryz.func47,Tryz.ntmps47
 go_upto_region 1 with (fail)
 rw [← HW.out]
 clear HW
 obtain ⟨k0,k1,k2,k3,k4⟩:=C1.out.c5
 go_upto_region 2 with (go_at_call 30;refine (HC1.out _ b1).mono ?_;rintro e w3 ⟨_,rfl,X3,u,rfl,o3⟩;obtain ⟨a3,k3',s3,b3,m3,d3,b3',m3',d3',rfl,O3⟩:=OwnAt.op o3;obtain ⟨w4,hw4,b4,c4,-,hs4⟩:=bx1 w3 [.slice a3 l.length k3',.bool s3,.slice b3 m3 d3,.slice b3' m3' d3',.int .i64 op] 63;have HW:=Lib.hid hw4;have C4:=Lib.hid c4;have HS4:=Lib.hid hs4;clear hw4 c4 o3 hs4)
 rw [← HW.out]
 clear HW k0 k1 k2 k3 k4 HC1
 have x4:Ext w1 w4:=Ext.trans X3 b4
 have hx3:=Below.size X3
 by_cases h0:tt=0
 ·subst h0
  have HVS:=Lib.hid (HVR.out rfl)
  clear HVR HTR
  obtain ⟨q0,q1,q2,q3,q4⟩:=C4.out.c5
  have O4:=Lib.hid (OwnEx.ext O3.out b4)
  have T4:=Lib.hid (tab_ext HT.out (Ext.trans b1 x4))
  have HLN:=Lib.hid HZ.out.1
  have HKV:Hid (keyV (((l,cc),op),0)=.agg #[.int .i64 op,.bool (decide (cc.num < 0)),.string (strOf (digs 256 cc.num.natAbs)),.string (strOf (digs 256 cc.den)),.string (termsS l)]):=by show _=_;unfold keyV;rw [if_pos rfl]
  obtain ⟨x0,x1,x2,x3',he,HRW',HRC'⟩:=O4.out
  simp only [Value.agg.injEq,Array.mk.injEq,List.cons.injEq,and_true] at he
  obtain ⟨rfl,rfl,rfl,rfl⟩:=he
  have HRW:=Lib.hid HRW'.rd
  have HRC:=Lib.hid HRC'
  clear HRW' HRC' O3 O4
  generalize keyV (((l,cc),op),0)=kv at*
  obtain ⟨nl,hnl⟩:∃ nl,l.length=nl:=⟨_,rfl⟩
  have HNL:=Lib.hid hnl
  rw [hnl] at HRW HLN C4 q0 ⊢
  clear hnl
  go_upto_region 8 with fail
  clear q0 q1 q2 q3 q4
  go_loopw [7,31] (fun st t wr=>∃ (j:Nat),t=.int .i64 j∧st=.string (termsS (l.take j))∧j≤nl∧Ext w4 wr∧Hid ((termsS (l.take j)).size≤111000*j)) (fun _ t _=>nl - (intOf t).toNat)
  case atStart=>exact ⟨0,rfl,by rw [List.take_zero];rfl,Nat.zero_le _,Ext.refl _,by rw [List.take_zero];exact Nat.zero_le _⟩
  case round=>
   obtain ⟨j,rfl,rfl,hj,hx,hSz⟩:=hrel
   obtain ⟨w5,hw5⟩:∃ w0:World,w0=wr:=⟨_,rfl⟩
   subst hw5
   by_cases hjl:j < nl
   ·have hd:decide ((j:Int) < (nl:Int))=true:=decide_eq_true (by omega)
    have HJ1:IntKind.i64.wrap ((j:Int)+1)=((j+1:Nat):Int):=by have:=HLN.out;rw [IntKind.wrap_i64];omega
    have HJ2:(0:Int)≤(j:Int)∧(j:Int) < (nl:Int):=⟨by omega,by omega⟩
    have hjll:j < l.length:=by rw [HNL.out];exact hjl
    obtain ⟨bT,oT,rfl⟩:=HRW.out.some_at hjll
    obtain ⟨sx,ax,lx,mx,ay,ly,my,hB4,hQ4⟩:=HRW.out.tm j hjll
    obtain ⟨u0,u1,u2,u3⟩:=hB4.ext hx
    have HQ:=Lib.hid (hQ4.ext hx)
    have HSN:Hid (termsS (l.take (j+1))=termsS (l.take j) ++ termS (l[j])):=by show _=_;rw [← termsS_snoc,List.take_append_getElem hjll]
    rw [gt_lt hjll] at HQ u0
    have HIn:=Lib.hid (HVS.out _ (List.getElem_mem hjll))
    have HSq:=Lib.hid (HZ.out.2.1 _ (List.getElem_mem hjll))
    generalize l[j]=t at*
    generalize termsS (l.take j)=TS at*
    clear hB4 hQ4 hjll
    have HLG:=Lib.hid (termS_long HIn.out HSq.out)
    have HTE:Hid (termS t=⟨(Lib.itoa t.1).toArray⟩ ++ ⟨#[58]⟩ ++ strOf (printT t.2) ++ ⟨#[32]⟩):=Lib.hid rfl
    have HZ1:=Lib.hid (itoa_size HIn.out)
    have HZ2:=Lib.hid (print_long HSq.out (by decide))
    obtain ⟨w6,hw6,b6,c6,-,-⟩:=bx1 w5 [.int .i64 t.1,.bool sx,.slice ax lx mx,.slice ay ly my] 90
    have HW:=Lib.hid hw6
    have C6:=Lib.hid c6
    clear hw6 c6
    go_upto_region 10 with (fail)
    rw [← HW.out]
    clear HW u0 u1 u2 u3
    have x6:=Ext.trans hx b6
    have HIT:Hid (∀ w',Ext w4 w'→Calls Tryz.prog 81 #[.int .i64 t.1] w' (Gives w' fun v' _=>v'=.string ⟨(Lib.itoa t.1).toArray⟩)):=fun w' x=>itoa_any HIn.out.1 (by have:=HIn.out.2;omega) (tab_ext T4.out x)
    have HPR:Hid (∀ w',Ext w5 w'→Calls Tryz.prog 82 #[.agg #[.bool sx,.slice ax lx mx,.slice ay ly my]] w' (Gives w' fun v' _=>v'=.string (strOf (printT t.2)))):=fun w' x=>print6_any (HQ.out.rd.ext x) (HSq.out.le (by decide))
    generalize termS t=TT at*
    generalize (⟨(Lib.itoa t.1).toArray⟩:ByteArray)=S1 at*
    generalize strOf (printT t.2)=S2 at*
    have h58:(⟨#[58]⟩:ByteArray).size=1:=rfl
    have h32:(⟨#[32]⟩:ByteArray).size=1:=rfl
    have hz1:=HZ1.out
    have hz2:=HZ2.out
    have hz3:=hSz.out
    have hz4:=HLN.out
    have hc1:¬ (S1.size+1 > 9223372036854775807):=by omega
    have hc2:¬ (S1.size+1+S2.size > 9223372036854775807):=by omega
    have hc3:¬ (S1.size+1+S2.size+1 > 9223372036854775807):=by omega
    have hc4:¬ (TS.size+(S1.size+1+S2.size+1) > 9223372036854775807):=by omega
    clear hz1 hz2 hz3 hz4
    have b7:=drew_ext w6
    have XE:=b7
    refine wp_region_noPanic ?_
    refine wp_region_held_drew (S:=fun w'=>w'.cell? ⟨w5.heap.size,0,none⟩=some (.int .i64 t.1)∧w'.cell? ⟨w5.heap.size,1,none⟩=some (.bool sx)∧w'.cell? ⟨w5.heap.size,2,none⟩=some (.slice ax lx mx)∧w'.cell? ⟨w5.heap.size,3,none⟩=some (.slice ay ly my)) (by kernel_rfl) ((C6.out.ext XE).c4) (fun hHeld=>?_)
    refine tkH 0 hHeld ?_
    simp only [jP,jA,jB,jC,jD,jE,jF]
    refine tkH 1 hHeld ?_
    simp only [jP,jA,jB,jC,jD,jE,jF]
    refine tkH 2 hHeld ?_
    simp only [jP,jA,jB,jC,jD,jE,jF]
    refine tkH 5 hHeld ?_
    simp only [jP,jA,jB,jC,jD,jE,jF]
    refine tkH 6 hHeld ?_
    simp only [jP,jA,jB,jC,jD,jE,jF]
    refine rdH 3 (by kernel_rfl) rfl (fun K hK=>?_)
    go_simp
    go_at_call 81;refine (HIT.out _ (Ext.trans x6 XE)).mono ?_;rintro e w8 ⟨_,rfl,b8,rfl⟩;(first | have XE:=Ext.trans XE b8 | have XE:=Ext.trans (Ext.trans XE (Ext.alloc _ _)) b8)
    go_wp2_with fail
    refine hK.out _ _ ((C6.out.ext XE).c4) (fun hHeld=>?_)
    clear hK K
    try simp only [jP,jA,jB,jC,jD,jE,jF]
    refine tkH 4 hHeld ?_
    simp only [jP,jA,jB,jC,jD,jE,jF]
    refine rdH 7 (by kernel_rfl) rfl (fun K hK=>?_)
    go_simp
    go_at_call 82;refine (HPR.out _ (Ext.trans b6 XE)).mono ?_;rintro e w9 ⟨_,rfl,b9,rfl⟩;(first | have XE:=Ext.trans XE b9 | have XE:=Ext.trans (Ext.trans XE (Ext.alloc _ _)) b9)
    go_wp2_with fail
    refine hK.out _ _ ((C6.out.ext XE).c4) (fun hHeld=>?_)
    clear hK K
    try simp only [jP,jA,jB,jC,jD,jE,jF]
    refine tkH 8 hHeld ?_
    simp only [jP,jA,jB,jC,jD,jE,jF]
    refine tkH 9 hHeld ?_
    simp only [jP,jA,jB,jC,jD,jE,jF]
    refine tkH 10 hHeld ?_
    simp only [jP,jA,jB,jC,jD,jE,jF]
    refine tkH 11 hHeld ?_
    simp only [jP,jA,jB,jC,jD,jE,jF]
    refine wpAnyH_done (by kernel_rfl) ?_ _
    refine NoPanic.normal ?_
    go_wp2_with fail
    go_roundw
    case rel=>exact ⟨j+1,by go_num,by rw [HSN.out,HTE.out],by omega,Ext.trans x6 XE,by rw [HSN.out];show _≤_;rw [ByteArray.size_append];have:=HLG.out;have:=hSz.out;omega⟩
    case measure=>simp [intOf] <;> omega
   ·obtain rfl:j=nl:=by omega
    have hd:decide ((j:Int) < (j:Int))=false:=decide_eq_false (by omega)
    have HTK:Hid (l.take j=l):=by show _=_;rw [← HNL.out,List.take_length]
    rw [HTK.out]
    have HKO:Hid (∀ w',Ext w4 w'→Calls Tryz.prog 83 #[.agg #[.bool s3,.slice b3 m3 d3,.slice b3' m3' d3']] w' (Gives w' fun v' _=>v'=.agg #[.bool (decide (cc.num < 0)),.string (strOf (digs 256 cc.num.natAbs)),.string (strOf (digs 256 cc.den))])):=fun w' x=>keyof_any (HRC.out.rd.ext x) (HZ.out.2.2.le (by decide))
    clear hSz
    generalize termsS l=TS at*
    generalize strOf (digs 256 cc.num.natAbs)=S1 at*
    generalize strOf (digs 256 cc.den)=S2 at*
    generalize decide (cc.num < 0)=SB at*
    have C45:=Lib.hid (C4.out.ext hx)
    have hne4:w3.heap.size≠w.heap.size+1:=by omega
    go_upto_region 12 with fail
    have b6:=drew_ext w5
    have XE:=b6
    refine wp_region_noPanic ?_
    refine wp_region_held_drew (S:=fun w'=>w'.cell? ⟨w3.heap.size,0,none⟩=some (.slice a3 j k3')∧w'.cell? ⟨w3.heap.size,1,none⟩=some (.bool s3)∧w'.cell? ⟨w3.heap.size,2,none⟩=some (.slice b3 m3 d3)∧w'.cell? ⟨w3.heap.size,3,none⟩=some (.slice b3' m3' d3')∧w'.cell? ⟨w3.heap.size,4,none⟩=some (.int .i64 op)) (by kernel_rfl) ((C45.out.ext XE).c5) (fun hHeld=>?_)
    refine tkH 0 hHeld ?_
    simp only [jP,jA,jB,jC,jD,jE,jF]
    refine tkH 1 hHeld ?_
    simp only [jP,jA,jB,jC,jD,jE,jF]
    refine tkH 2 hHeld ?_
    simp only [jP,jA,jB,jC,jD,jE,jF]
    refine tkH 3 hHeld ?_
    simp only [jP,jA,jB,jC,jD,jE,jF]
    refine tkH 4 hHeld ?_
    simp only [jP,jA,jB,jC,jD,jE,jF]
    refine tkH 6 hHeld ?_
    simp only [jP,jA,jB,jC,jD,jE,jF]
    refine rdH 5 (by kernel_rfl) rfl (fun K hK=>?_)
    go_simp
    go_at_call 83;refine (HKO.out _ (Ext.trans hx XE)).mono ?_;rintro e w7 ⟨_,rfl,b7,rfl⟩;(first | have XE:=Ext.trans XE b7 | have XE:=Ext.trans (Ext.trans XE (Ext.alloc _ _)) b7)
    go_wp2_with fail
    refine hK.out _ _ ((C45.out.ext XE).c5) (fun hHeld=>?_)
    clear hK K
    try simp only [jP,jA,jB,jC,jD,jE,jF]
    refine tkH 7 hHeld ?_
    simp only [jP,jA,jB,jC,jD,jE,jF]
    obtain ⟨_,_,_,_,_,j0,j1,j2,j3,j4,i0,i1,i2,i3,i4⟩:=(R2.out.ext (Ext.trans x4 (Ext.trans hx XE))).c5
    refine rdH 8 (by kernel_rfl) rfl (fun K hK=>?_)
    go_simp
    refine hK.out _ _ (((C45.out.ext XE).keepC (putL_block (w.heap.size+1) hne4 [_,_,_,_,_] _ 0)).c5) (fun hHeld=>?_)
    clear hK K
    try simp only [jP,jA,jB,jC,jD,jE,jF]
    refine tkH 9 hHeld ?_
    simp only [jP,jA,jB,jC,jD,jE,jF]
    refine wpAnyH_done (by kernel_rfl) ?_ _
    refine NoPanic.normal ?_
    have xx9:=Ext.trans x4 (Ext.trans hx XE)
    go_wp2_with fail
    refine bodyPost_ret (v:=.tuple #[.agg #[.int .i64 op,.bool SB,.string S1,.string S2,.string TS],.int .i64 0]) (by simp [results,Tryz.results47,go_sem,j0,j1,j2,j3,j4]) rfl ?_
    exact hR.out _ _ (Gives.mk (putL_below (by omega) [_,_,_,_,_] 0 (Ext.trans b1 xx9)) (by rw [HKV.out]))
 ·have ht2:=HTR.out h0
  have HKV:Hid (keyV (((l,cc),op),tt)=.agg #[.int .i64 (-tt),.bool false,.string ⟨#[]⟩,.string ⟨#[]⟩,.string ⟨#[]⟩]):=by show _=_;unfold keyV;rw [if_neg h0]
  have d0:(tt != 0)=true:=bneT h0
  obtain ⟨nt,hnt⟩:∃ nt:Int,-tt=nt:=⟨_,rfl⟩
  have hng:IntKind.i64.wrap (-tt)=nt:=by rw [IntKind.wrap_i64];omega
  have hng2:wrap64 (-tt)=nt:=by unfold wrap64;omega
  rw [hnt] at HKV
  clear ht2 hnt h0
  generalize keyV (((l,cc),op),tt)=kv at*
  obtain ⟨_,_,_,_,_,j0,j1,j2,j3,j4,i0,i1,i2,i3,i4⟩:=(R2.out.ext x4).c5
  go_wp2_with fail
  refine bodyPost_ret (v:=.tuple #[.agg #[.int .i64 nt,.bool false,.string ⟨#[]⟩,.string ⟨#[]⟩,.string ⟨#[]⟩],.int .i64 0]) (by simp [results,Tryz.results47,go_sem,j0,j1,j2,j3,j4]) rfl ?_
  exact hR.out _ _ (Gives.mk (putL_below (by omega) [_,_,_,_,_] 0 (Ext.trans b1 x4)) (by rw [HKV.out]))
end Go.Proofs.YtdooldpgnjmpfaaGreatDoor

namespace Go.Att
open Go.RowKit
theorem IsFst.pre {ks:List Value} {v:Value} {z:Int} {m:Nat} (h:IsFst (ks.take m) v z):IsFst ks v z:=by
 obtain ⟨i,rfl,h1,h2⟩:=h
 have hi:i < (ks.take m).length:=(List.getElem?_eq_some_iff.1 h1).1
 rw [List.length_take] at hi
 rw [List.getElem?_take_of_lt (by omega)] at h1
 exact ⟨i,rfl,h1,fun j hj=>by
  have:=h2 j hj
  rwa [List.getElem?_take_of_lt (by omega)] at this⟩
theorem OwnRow.ne_mapF {α:Type} {k B m:Nat} {ks:List Value} {T:World→Value→α→Prop} {e kk:TypeId} {P:Program} {w:World} {v:Value} {l:List α} (h:OwnRow k T e B w v l) (hm:MapF P kk m ks w):v.ownBlock≠some m:=fun hv=>by
 obtain ⟨E,⟨_,h2⟩,-⟩:=h
 obtain ⟨es,clock,hb,_⟩:=hm
 rcases h2 with ⟨rfl,_⟩ | ⟨g,cap,cur,rfl,hg,hh,_⟩
 ·simp [Value.ownBlock] at hv
 ·have he:g=m:=by simpa [Value.ownBlock] using hv
  subst he
  rw [hh] at hb
  cases hb
theorem OwnRow.keptF {α:Type} {k B:Nat} {T:World→Value→α→Prop} {e:TypeId} {w w':World} {v:Value} {l:List α} {row:Option Nat} (h:OwnRow k T e B w v l) (hg:w.grownBy w' row) (hne:v.ownBlock≠row) (hT:∀ v a,T w v a→T w' v a):OwnRow k T e B w' v l:=by
 obtain ⟨E,hE,hP⟩:=h
 exact ⟨E,hE.kept hg (.inr hne),hP.mono fun _ _ h=>hT _ _ h⟩
end Go.Att
namespace Go.Proofs.YtdooldpgnjmpfaaGreatDoor
open Go.RowKit Go.Att

def kyA (a:AT):Value:=keyV (canA a)
theorem laidPl:laidOutB Tryz.prog=true:=by kernel_rfl
theorem kyLaw:WideMaps.KeyLaw Tryz.prog 125:=deep_law_laid laidPl (m:=3) (by decide) (of_decide_eq_true (by kernel_rfl)) (by kernel_rfl) (by kernel_rfl)
theorem zeroK (w:World):(zeroValue 3).run Tryz.prog w=.ok (.int .i64 0) w:=by kernel_rfl
theorem keyStr {n k:Nat} (h:(limbs n).length≤k) (hk:k≤100000):(strOf (digs 256 n)).size≤maxLen:=by
 rw [strOf_size]
 have h1:W32 ^ k=256 ^ (4*k):=by rw [Nat.pow_mul];rfl
 have h2:=(digs_len 256 (by decide) n (4*k)).2 (h1 ▸ (digs_len W32 (by decide) n k).1 h)
 unfold maxLen
 omega
theorem termsS_long {l:TL} (h:∀ t∈l,In64 t.1∧Sz 5547 t.2):(termsS l).size≤111000*l.length:=by
 have:∀ (l:TL) (s:ByteArray),(∀ t∈l,In64 t.1∧Sz 5547 t.2)→(l.foldl (fun s t=>s ++ termS t) s).size≤s.size+111000*l.length:=by
  intro l
  induction l with
  | nil=>intro s _;simp
  | cons t l ih=>
   intro s h
   have h1:=ih (s ++ termS t) fun u hu=>h u (List.mem_cons_of_mem _ hu)
   have h2:=termS_long (h t List.mem_cons_self).1 (h t List.mem_cons_self).2
   rw [ByteArray.size_append] at h1
   simp only [List.foldl_cons,List.length_cons]
   omega
 have h2:=this l ⟨#[]⟩ h
 have h3:(⟨#[]⟩:ByteArray).size=0:=rfl
 unfold termsS
 omega
theorem ky_lit {a:AT} (hop:1≤a.2∧a.2≤3) (hs:Sm3 a) (hv:∀ t∈a.1.1,In64 t.1):∃ l,keyOf Tryz.prog 125 (kyA a)=some l:=by
 have hz:=canA_sz hs.1 hs.2.1 hs.2.2
 have e0:(⟨#[]⟩:ByteArray).size≤maxLen:=by unfold maxLen;exact Nat.zero_le _
 unfold kyA keyV
 split
 ·rename_i h0
  have h1:(termsS (canA a).1.1.1).size≤maxLen:=by
   have:=termsS_long (l:=(canA a).1.1.1) fun t ht=>⟨by
    obtain ⟨u,hu,he⟩:=canA_var h0 ht
    rw [← he]
    exact hv u hu,hz.2.1 t ht⟩
   have:=hz.1
   unfold maxLen
   omega
  exact key5 Tryz.underlying125 Tryz.underlying123 Tryz.underlying3 Tryz.underlying4 Tryz.underlying9 ⟨rfl,rfl,rfl,rfl,rfl,rfl,by kernel_rfl⟩ ⟨rfl,rfl,rfl,rfl,rfl,rfl,by kernel_rfl⟩ (by kernel_rfl) (by kernel_rfl) (by kernel_rfl) (by kernel_rfl) (by kernel_rfl) (by kernel_rfl) (of_decide_eq_true (by kernel_rfl)) (WalkArith.wf_i64 (by rw [canA_op h0];omega)) (keyStr hz.2.2.1 (by decide)) (keyStr hz.2.2.2 (by decide)) h1
 ·have h2:(canA a).2=0∨(canA a).2=1∨(canA a).2=2:=by
   unfold canA
   split
   ·unfold truA;split
    ·exact .inr (.inl rfl)
    ·exact .inr (.inr rfl)
   ·exact .inl rfl
  exact key5 Tryz.underlying125 Tryz.underlying123 Tryz.underlying3 Tryz.underlying4 Tryz.underlying9 ⟨rfl,rfl,rfl,rfl,rfl,rfl,by kernel_rfl⟩ ⟨rfl,rfl,rfl,rfl,rfl,rfl,by kernel_rfl⟩ (by kernel_rfl) (by kernel_rfl) (by kernel_rfl) (by kernel_rfl) (by kernel_rfl) (by kernel_rfl) (of_decide_eq_true (by kernel_rfl)) (WalkArith.wf_i64 (by omega)) e0 e0 e0
theorem keyV_shape (c:AT × Int):∃ (x:Int) (b:Bool) (s t u:ByteArray),keyV c=.agg #[.int .i64 x,.bool b,.string s,.string t,.string u]:=by
 unfold keyV
 split
 ·exact ⟨_,_,_,_,_,rfl⟩
 ·exact ⟨_,_,_,_,_,rfl⟩
set_option linter.unusedSimpArgs false in
set_option maxHeartbeats 20000000 in
set_option maxRecDepth 100000 in
theorem aplaces_any {w : World} {v : Value} {L : List AT} (hv : RdRow 5 OwnA w v L) (hop : ∀ a ∈ L, 1 ≤ a.2 ∧ a.2 ≤ 3) (hs : ∀ a ∈ L, Sm3 a) (hvr : ∀ a ∈ L, ∀ t ∈ a.1.1, In64 t.1) (hn : L.length ≤ 100) (ht : Lib.TabIs Tryz.prog w "internal/strconv.uint64pow10" .u64 Lib.pow10Tab) :
  Calls Tryz.prog 29 #[v] w (Gives w fun v' w'=>∃ K:List Int,OwnRow 1 IntT 3 w.heap.size w' v' K∧K.length=L.length∧∀ i,i < L.length→∃ z,K[i]?=some z∧IsFst (L.map kyA) (kyA (gt L i)) z):=by
 refine via fun R hR=>?_
 obtain ⟨a,c,rfl,hlc,hcm⟩:=hv.shape
 have HV:=Lib.hid hv
 have HOP:=Lib.hid hop
 have HS:=Lib.hid hs
 have HVR:=Lib.hid hvr
 have HT:=Lib.hid ht
 have HN:=Lib.hid hn
 unfold maxLen at hcm
 clear hv hop hs hvr ht
 obtain ⟨n,hnl⟩:∃ n,L.length=n:=⟨_,rfl⟩
 have HNL:=Lib.hid hnl
 rw [hnl] at hn hlc HV ⊢
 clear hnl
 go_enter Tryz.func29,Tryz.ntmps29
 go_upto_region 2 with (refine wpList_makeF rfl _ (by rfl) ?_)
 obtain ⟨w1,hw1⟩:∃ W,W=w.alloc (.map #[] 0):=⟨_,rfl⟩
 have HM1:Hid (MapF Tryz.prog 125 w.heap.size [] w1):=by rw [hw1];exact Lib.hid (MapF.made w)
 have b1:Ext w w1:=by rw [hw1];exact Ext.alloc _ _
 rw [← hw1]
 clear hw1
 go_wp2_with (at_make;refine make_cap etKi rfl _ _ rfl _ _ n rfl rfl (by omega) (by unfold maxLen;omega) ?_)
 intro w2 ho hext
 have HO2:Hid (OwnRow 1 IntT 3 w.heap.size w2 (.slice (some ⟨w1.heap.size,0,none⟩) 0 n) []):=Lib.hid (OwnRow.mono ⟨[],by simpa using ho,trivial⟩ (Below.size b1))
 have HM2:=Lib.hid (HM1.out.ext hext)
 have X2:=Lib.hid (Ext.trans b1 hext)
 clear ho hext HM1
 go_upto_region 4 with fail
 go_loopw [4,17] (fun o t wr=>∃ (j:Nat) (K:List Int),t=.int .i64 j∧j≤n∧Hid (Ext w wr)∧Hid (MapF Tryz.prog 125 w.heap.size ((L.map kyA).take j) wr)∧Hid (OwnRow 1 IntT 3 w.heap.size wr o K)∧Hid (K.length=j)∧Hid (∀ i,i < j→∃ z,K[i]?=some z∧IsFst (L.map kyA) (kyA (gt L i)) z)) (fun _ t _=>n - (intOf t).toNat)
 case atStart=>exact ⟨0,[],rfl,Nat.zero_le _,X2,by rw [List.take_zero];exact HM2,HO2,rfl,fun i h=>absurd h (Nat.not_lt_zero _)⟩
 case round=>
  clear HM2 HO2 X2
  obtain ⟨j,K,rfl,hj,hX,hM,hO,hK,hP⟩:=hrel
  obtain ⟨w3,hw3⟩:∃ w0:World,w0=wr:=⟨_,rfl⟩
  subst hw3
  by_cases hjn:j < n
  ·have hd:decide ((j:Int) < (n:Int))=true:=decide_eq_true (by omega)
   have HJ1:IntKind.i64.wrap ((j:Int)+1)=((j+1:Nat):Int):=by rw [IntKind.wrap_i64];omega
   have HJ2:(0:Int)≤(j:Int)∧(j:Int) < (n:Int):=⟨by omega,by omega⟩
   have hjl:j < L.length:=by rw [HNL.out];exact hjn
   obtain ⟨bA,oA,xa,xk,xs,xb,xm,xd,xb',xm',xd',hae,hbo,hax⟩:=HV.out.atm j hjl
   subst hae
   obtain ⟨u0,u1,u2,u3,u4⟩:=(hbo.ext hX.out).c5
   have HKY:Hid (∀ w',Ext w w'→Calls Tryz.prog 47 #[.agg #[.slice xa L[j].1.1.length xk,.bool xs,.slice xb xm xd,.slice xb' xm' xd',.int .i64 L[j].2]] w' (Gives w' fun v' _=>v'=.tuple #[kyA L[j],.int .i64 0])):=fun w' x=>
    akey_any ⟨_,_,_,_,rfl,hax.ext x⟩ (HOP.out _ (List.getElem_mem hjl)) (HS.out _ (List.getElem_mem hjl)) (HVR.out _ (List.getElem_mem hjl)) (tab_ext HT.out x)
   have HLT:=Lib.hid (ky_lit (HOP.out _ (List.getElem_mem hjl)) (HS.out _ (List.getElem_mem hjl)) (HVR.out _ (List.getElem_mem hjl)))
   obtain ⟨kl,hkl⟩:=HLT.out
   have HKL:=Lib.hid hkl
   have HTK:Hid ((L.map kyA).take (j+1)=(L.map kyA).take j ++ [kyA L[j]]):=by show _=_;rw [← List.take_append_getElem (by rw [List.length_map];exact hjl),List.getElem_map]
   have HTL:Hid (((L.map kyA).take j).length=j):=by show _=_;rw [List.length_take,List.length_map];omega
   have HGO:Hid (∀ z,IsFst ((L.map kyA).take j ++ [kyA L[j]]) (kyA L[j]) z→∀ i,i < j+1→∃ z',(K ++ [z])[i]?=some z'∧IsFst (L.map kyA) (kyA (gt L i)) z'):=fun z hz i hi=>by
    by_cases he:i=j
    ·subst he
     refine ⟨z,by rw [List.getElem?_append_right (by rw [hK.out];exact Nat.le_refl _),hK.out,Nat.sub_self];rfl,?_⟩
     rw [gt_lt hjl]
     rw [← HTK.out] at hz
     exact hz.pre
    ·obtain ⟨z',h1,h2⟩:=hP.out i (by omega)
     exact ⟨z',by rw [List.getElem?_append_left (by rw [hK.out];omega)];exact h1,h2⟩
   have HNX:Hid (∀ w',MapF Tryz.prog 125 w.heap.size ((L.map kyA).take j ++ [kyA L[j]]) w'→MapF Tryz.prog 125 w.heap.size ((L.map kyA).take (j+1)) w'):=fun w' h=>by rw [HTK.out];exact h
   obtain ⟨kx,kb,ks1,ks2,ks3,hks⟩:=keyV_shape (canA L[j])
   have HKS:Hid (kyA L[j]=.agg #[.int .i64 kx,.bool kb,.string ks1,.string ks2,.string ks3]):=hks
   rw [HKS.out] at HKY HKL HGO HNX
   generalize (L.map kyA).take j=ks at*
   generalize L[j].1.1.length=la at*
   generalize L[j].2=op at*
   clear hkl HLT hbo hax hks HTK HKS hP hjl
   obtain ⟨w4,hw4,b4,c4,-,-⟩:=bx1 w3 [.slice xa la xk,.bool xs,.slice xb xm xd,.slice xb' xm' xd',.int .i64 op] 63
   have HW:=Lib.hid hw4
   have C4:=Lib.hid c4
   clear hw4 c4
   go_upto_region 6 with (fail)
   rw [← HW.out]
   clear HW u0 u1 u2 u3 u4
   obtain ⟨u0,u1,u2,u3,u4⟩:=C4.out.c5
   have HX4:=Lib.hid (Ext.trans hX.out b4)
   have HM4:=Lib.hid (hM.out.ext b4)
   have HO4:=Lib.hid (hO.out.ext IntT.ext b4)
   clear hM hO b4
   go_upto_region 7 with (go_at_call 47;refine (HKY.out _ HX4.out).mono ?_;rintro e w5 ⟨_,rfl,X5,rfl⟩;obtain ⟨w6,hw6,b6,c6,-,hs6⟩:=bx1 w5 [.int .i64 kx,.bool kb,.string ks1,.string ks2,.string ks3] 125;have HW:=Lib.hid hw6;have C6:=Lib.hid c6;have HS6:=Lib.hid hs6;have XX:=Lib.hid (Ext.trans X5 b6);have HML5:=Lib.hid (Below.size X5);clear hw6 c6 hs6)
   rw [← HW.out]
   clear HW u0 u1 u2 u3 u4
   have HX6:=Lib.hid (Ext.trans HX4.out XX.out)
   have HM6:=Lib.hid (HM4.out.ext XX.out)
   have HO6:=Lib.hid (HO4.out.ext IntT.ext XX.out)
   have HML:Hid (w.heap.size < w5.heap.size):=by have h1:=HM4.out.lt;have h2:=Below.size XX.out;have:=HS6.out;have h3:=HML5.out;exact Lib.hid (by omega)
   clear HM4 HO4
   obtain ⟨u0,u1,u2,u3,u4⟩:=C6.out.c5
   have HKN:Hid (K.length+1≤101):=by have:=hK.out;exact Lib.hid (by omega)
   go_upto_region 10 with (refine wpList_lookupF rfl _ _ _ (by rfl) kyLaw Tryz.underlying121 (zeroK _) (by rfl) HM6.out (by rfl) HKL.out ?_;intro z bb hz hz';have HZ:=Lib.hid hz;have HZ':=Lib.hid hz';clear hz hz')
   cases bb with
   | true=>
    have HIN:=Lib.hid (HZ.out rfl).1
    have HM7:=Lib.hid (HM6.out.old HIN.out)
    have HO7:=HO6
    have HX7:=HX6
    clear HZ HZ' HM6 HO6 HX6
    go_wp2_with (first | (refine wpList_lookup1F rfl _ _ _ (by rfl) kyLaw Tryz.underlying121 (by rfl) HM7.out (by rfl) HKL.out (List.mem_append.2 (.inr (List.mem_singleton.2 rfl))) ?_;intro z2 hz2;have HZ2:=Lib.hid hz2;clear hz2) | (refine build1W etKi (by rfl) (by rfl) (T:=IntT) IntT.ext (by rfl) [.int .i64 z2] (fill_i1 ..) rfl (by decide) (y:=z2) rfl ?_;intro g8 w8 x8 _ l8;refine append_rowGL etKi (kdI _) (by rfl) _ _ (by rfl) w.heap.size (by rfl) (HO7.out.ext IntT.ext x8) (by rfl) l8.rd (by have:=HKN.out;omega) (by unfold maxLen;have:=HKN.out;omega) (Below.size (Ext.trans HX7.out x8)) ?_;intro v9 w9 o9 b9 g9 _;have O9:=Lib.hid o9;have X9:=Lib.hid (Below.trans (Ext.trans HX7.out x8) b9);have HM9:=Lib.hid ((HM7.out.ext x8).block (g9.block _ (HM7.out.ext x8).lt (Ne.symm (HO7.out.ne_mapF HM7.out))));clear o9 b9 g9 l8 x8))
    go_roundw
    case rel=>exact ⟨j+1,K ++ [z2],by go_num,by omega,X9.out,HNX.out _ HM9.out,O9.out,by show _=_;rw [List.length_append,hK.out];rfl,HGO.out z2 HZ2.out⟩
    case measure=>simp [intOf] <;> omega
   | false=>
    have HIN:=Lib.hid (HZ'.out rfl)
    clear HZ HZ'
    have hml:=HM6.out.lt
    have HNE:Hid (w.heap.size≠w5.heap.size):=by
     have h1:=HML.out
     show _≠_
     omega
    have HNB:=Lib.hid (HO6.out.ne_mapF HM6.out)
    go_upto_region 12 with (refine wpList_storeF rfl _ _ _ _ (by rfl) kyLaw Tryz.underlying121 (by rfl) HM6.out (by rfl) HKL.out (by rw [HTL.out];rfl) HIN.out ?_;intro w7 m7 g7;have C7:=Lib.hid (C6.out.grow g7 (fun e=>HNE.out (Option.some.inj e)));have HM7:=Lib.hid m7;have HO7:=Lib.hid (HO6.out.keptF g7 HNB.out fun _ _ h=>h);have HX7:=Lib.hid (Below.trans HX6.out ((Below.refl w.heap.size w6).grown g7 (Below.size HX6.out) (fun j hj=>by cases hj;exact Nat.le_refl _)));clear m7 g7)
    clear u0 u1 u2 u3 u4 HM6 HO6 HX6
    obtain ⟨u0,u1,u2,u3,u4⟩:=C7.out.c5
    go_wp2_with (first | (refine wpList_lookup1F rfl _ _ _ (by rfl) kyLaw Tryz.underlying121 (by rfl) HM7.out (by rfl) HKL.out (List.mem_append.2 (.inr (List.mem_singleton.2 rfl))) ?_;intro z2 hz2;have HZ2:=Lib.hid hz2;clear hz2) | (refine build1W etKi (by rfl) (by rfl) (T:=IntT) IntT.ext (by rfl) [.int .i64 z2] (fill_i1 ..) rfl (by decide) (y:=z2) rfl ?_;intro g8 w8 x8 _ l8;refine append_rowGL etKi (kdI _) (by rfl) _ _ (by rfl) w.heap.size (by rfl) (HO7.out.ext IntT.ext x8) (by rfl) l8.rd (by have:=HKN.out;omega) (by unfold maxLen;have:=HKN.out;omega) (Below.size (Ext.trans HX7.out x8)) ?_;intro v9 w9 o9 b9 g9 _;have O9:=Lib.hid o9;have X9:=Lib.hid (Below.trans (Ext.trans HX7.out x8) b9);have HM9:=Lib.hid ((HM7.out.ext x8).block (g9.block _ (HM7.out.ext x8).lt (Ne.symm (HO7.out.ne_mapF HM7.out))));clear o9 b9 g9 l8 x8))
    go_roundw
    case rel=>exact ⟨j+1,K ++ [z2],by go_num,by omega,X9.out,HNX.out _ HM9.out,O9.out,by show _=_;rw [List.length_append,hK.out];rfl,HGO.out z2 HZ2.out⟩
    case measure=>simp [intOf] <;> omega
  ·obtain rfl:j=n:=by omega
   have hd:decide ((j:Int) < (j:Int))=false:=decide_eq_false (by omega)
   go_wp2_with fail
   exact hR.out _ _ (Gives.mk hX.out ⟨K,hO.out,by rw [hK.out,HNL.out],fun i hi=>hP.out i (by rw [← HNL.out];exact hi)⟩)
end Go.Proofs.YtdooldpgnjmpfaaGreatDoor
