/- A group of texts: PTrim, PText, Rep, PPad, PGrow, PParse, PTens, PRef4, PRefLow, PRef4Text, PRtext, Atk -/
import Derived.Test.YtdooldpgnjmpfaaGreatDoorPartCG
import Derived.Test.YtdooldpgnjmpfaaGreatDoorPartBC
import Derived.Test.YtdooldpgnjmpfaaGreatDoorPartAB
import Derived.Shelf.Strings.Repeat
import Derived.Test.YtdooldpgnjmpfaaGreatDoorProg
import Derived.Test.YtdooldpgnjmpfaaGreatDoorPartAA
import Derived.Test.YtdooldpgnjmpfaaGreatDoorPartAE
import Derived.Laws.RangeAny
import Derived.Lib.OthersKept
import Derived.Test.YtdooldpgnjmpfaaGreatDoorPartBF
import Derived.Deep.RegionHeld3
import Derived.Lib.Small
import Derived.Lib.Walk
import Derived.Test.YtdooldpgnjmpfaaGreatDoorPartBD
import Derived.Test.YtdooldpgnjmpfaaGreatDoorPartAC
import Derived.Test.YtdooldpgnjmpfaaGreatDoorPartCE
import Derived.Test.YtdooldpgnjmpfaaGreatDoorPartAI
import Derived.Lib.ItoaLen
namespace Go.Proofs.YtdooldpgnjmpfaaGreatDoor
open Go.RowKit Go.Att

def strSz:Value→Nat
 | .string s=>s.size
 | _=>0
theorem strOf_nil:strOf []=⟨#[]⟩:=by unfold strOf;rfl
theorem strOf_drop (xs:List Nat):(strOf xs).extract 1 (strOf xs).size=strOf (xs.drop 1):=by
 unfold strOf
 apply ByteArray.ext
 simp [ByteArray.size,ByteArray.data_extract]
 exact List.take_of_length_le (by simp)
theorem trim0_cons (r:List Nat):trim0 (48 :: r)=trim0 r:=by unfold trim0;rw [List.dropWhile_cons];simp
theorem trim0_ne {x:Nat} (h:x≠48) (r:List Nat):trim0 (x :: r)=x :: r:=by unfold trim0;rw [List.dropWhile_cons];simp [h]

theorem trim1_any {w:World} {xs:List Nat} (hf:Fit 256 xs):
  Calls Tryz.prog 159 #[.string (strOf xs),.int .u8 48] w (Gives w fun v' _=>v'=.string (strOf (trim0 xs))):=by
 refine via fun R hR=>?_
 have HF:=Lib.hid hf
 clear hf
 go_enter Tryz.func159,Tryz.ntmps159
 go_wp2_with fail
 go_loopw [0] (fun v wr=>∃ ys:List Nat,wr=w∧v=.string (strOf ys)∧Hid (Fit 256 ys)∧Hid (trim0 ys=trim0 xs)) (fun v _=>strSz v)
 case atStart=>exact ⟨xs,rfl,rfl,HF.out,rfl⟩
 case round=>
  obtain ⟨ys,rfl,rfl,hF,hT⟩:=hrel
  cases ys with
  | nil=>
   have e0:(strOf []).size=0:=by rw [strOf_size];rfl
   have hT2:Hid (([]:List Nat)=trim0 xs):=hT.out
   clear hT
   go_wp2_with fail
   exact hR.out _ _ (Gives.mk (Ext.refl _) (congrArg (fun l=>Value.string (strOf l)) hT2.out))
  | cons x r=>
   have hz0:(strOf (x :: r)).size=r.length+1:=by rw [strOf_size];rfl
   have hx0:∀ h0:0 < (strOf (x :: r)).size,((strOf (x :: r))[0]'h0).toNat=x:=fun h0=>by rw [strOf_at hF.out h0];simp [nth_lt]
   have hdr:=strOf_drop (x :: r)
   rw [List.drop_one,List.tail_cons] at hdr
   have hz1:(strOf r).size=r.length:=strOf_size r
   have hFr:Hid (Fit 256 r):=fun y hy=>hF.out y (List.mem_cons_of_mem _ hy)
   obtain ⟨s,hs⟩:∃ s,s=strOf (x :: r):=⟨_,rfl⟩
   obtain ⟨s2,hs2⟩:∃ s,s=strOf r:=⟨_,rfl⟩
   rw [← hs] at hz0 hdr hx0 ⊢
   rw [← hs2] at hdr hz1
   have h0:0 < s.size:=by omega
   have hx1:=hx0 h0
   have HS:=Lib.hid hs
   have HS2:=Lib.hid hs2
   have HZ:=Lib.hid hz0
   have HZ1:=Lib.hid hz1
   clear hx0 hs hs2 hz0 hz1
   have hlt:(0:Int) < s.size:=by omega
   by_cases hx:x=48
   ·subst hx
    have hc:((s[0]'h0).toNat:Int)=48:=by omega
    go_wp2_with fail
    go_roundw
    case rel=>exact ⟨r,by simp,by rw [HS2.out],hFr,by show _=_;rw [← hT.out,trim0_cons]⟩
    case measure=>show s2.size < s.size;have:=HZ.out;have:=HZ1.out;omega
   ·have hc:(((s[0]'h0).toNat:Int) == 48)=false:=beqF (by omega)
    have hT2:Hid (strOf (trim0 xs)=s):=by show _=_;rw [← hT.out,trim0_ne hx,HS.out]
    go_wp2_with fail
    exact hR.out _ _ (Gives.mk (Ext.refl _) (congrArg Value.string hT2.out.symm))

theorem trimleft_any {w:World} {xs:List Nat} (hf:Fit 256 xs):
  Calls Tryz.prog 148 #[.string (strOf xs),.string ⟨#[48]⟩] w (Gives w fun v' _=>v'=.string (strOf (trim0 xs))):=by
 refine via fun R hR=>?_
 have HF:=Lib.hid hf
 cases xs with
 | nil=>
  have e0:(strOf []).toList.isEmpty=true:=by rw [strOf_nil,ByteArray.toList_eq];rfl
  go_enter Tryz.func148,Tryz.ntmps148
  go_wp2_with fail
  exact hR.out _ _ (Gives.mk (Ext.refl _) rfl)
 | cons x r=>
  have e0:(strOf (x :: r)).toList.isEmpty=false:=by
   rw [ByteArray.toList_eq]
   unfold strOf
   rfl
  clear hf
  obtain ⟨s,hs⟩:∃ s,s=strOf (x :: r):=⟨_,rfl⟩
  rw [← hs] at e0 ⊢
  have HC:Hid (∀ w,Calls Tryz.prog 159 #[.string s,.int .u8 48] w (Gives w fun v' _=>v'=.string (strOf (trim0 (x :: r))))):=fun w=>by rw [hs];exact trim1_any HF.out
  obtain ⟨c,hc⟩:∃ c:ByteArray,c=⟨#[48]⟩:=⟨_,rfl⟩
  rw [← hc]
  have hc1:c.toList.isEmpty=false:=by rw [hc,ByteArray.toList_eq];rfl
  have hc2:c.size=1:=by rw [hc];rfl
  have hc3:(0:Nat) < c.size:=by omega
  have hc4:(c[0]'hc3).toNat=48:=by subst hc;rfl
  have hc5:((c[0]'hc3).toNat:Int)=48:=by omega
  clear hs hc
  go_enter Tryz.func148,Tryz.ntmps148
  go_wp2_with fail
  refine (HC.out _).mono ?_
  rintro e w1 ⟨_,rfl,b1,rfl⟩
  go_wp2_with fail
  exact hR.out _ _ (Gives.mk b1 rfl)
open Go.RowKit Go.Att

theorem et8t:ElemT Tryz.prog 190 5 (.int .u8 0) 1 1:=ElemT.mk' Tryz.underlying190 (by kernel_rfl) rfl (by decide)
def slLen:Value→Nat
 | .slice _ n _=>n
 | _=>0
theorem owns_past {w w':World} {B:Nat} {e:TypeId} {size:Nat} {v v':Value} {n:Nat} {xs:List Value} (o:w.ownsRow B e size v n xs) (h:∀ k,v'.ownBlock=some k→k < B) (hg:w.grownBy w' v'.ownBlock):w'.ownsRow B e size v n xs:=by
 rcases o with ⟨h1,h2 | ⟨g,cap,cur,hv,hgB,hh,r⟩⟩
 ·exact ⟨h1,.inl h2⟩
 ·refine ⟨h1,.inr ⟨g,cap,cur,hv,hgB,?_,r⟩⟩
  rw [hg.block g (Array.getElem?_eq_some_iff.1 hh).1 (fun h3=>by have:=h g h3.symm;omega)]
  exact hh
theorem divword_to {w:World} {va:Value} {xs:List Nat} {z:Int} (d:Nat) (hz:z=(d:Int)) (hd0:1≤d) (hd:d≤4294967295) (ha:RdL w va xs) (hl:xs.length≤1099511627776):
  Calls Tryz.prog 137 #[va,.int .u32 z] w (Gives w fun v' w'=>∃ q,v'=.tuple #[q,.int .u32 ((nv xs % d:Nat):Int),.bool true]∧OwnL 119 w.heap.size w' q (limbs (nv xs / d))):=by
 subst hz
 exact divword_any d hd0 hd ha hl
theorem be_at (k n j:Nat) (h:j < k):(be k n)[j]?=some (n / 10 ^ (k - 1 - j) % 10+48):=by
 induction k generalizing n with
 | zero=>omega
 | succ k ih=>
  rw [be]
  by_cases hj:j < k
  ·rw [List.getElem?_append_left (by rw [be_len];exact hj),ih _ hj,Nat.div_div_eq_div_mul,show k+1 - 1 - j=(k - 1 - j)+1 by omega,Nat.pow_succ,Nat.mul_comm]
  ·obtain rfl:j=k:=by omega
   rw [List.getElem?_append_right (by rw [be_len];omega),be_len]
   simp
theorem be_take (n j:Nat) (h:j < 9):(be 9 n).take (j+1)=(be 9 n).take j ++ [n / (100000000 / 10 ^ j) % 10+48]:=by
 rw [List.take_add_one,be_at 9 n j h]
 have e:(100000000:Nat) / 10 ^ j=10 ^ (9 - 1 - j):=by
  rw [show (100000000:Nat)=10 ^ 8 from rfl,Nat.pow_div (by omega) (by decide)]
 rw [e]
 rfl
theorem groups_drop {gs:List Nat} {k:Nat} (h:k < gs.length):beGroups (gs.drop k)=beGroups (gs.drop (k+1)) ++ be 9 (nth gs k):=by
 rw [List.drop_eq_getElem_cons h,beGroups,nth_lt _ _ h]
theorem be_fit (k n:Nat):Fit 256 (be k n):=fun x hx=>by have:=be_digs k n x hx;omega
theorem groups_fit (gs:List Nat):Fit 256 (beGroups gs):=by
 induction gs with
 | nil=>exact Fit.nil _
 | cons g gs ih=>exact ih.app (be_fit 9 g)
theorem groups_len (gs:List Nat):(beGroups gs).length=9*gs.length:=by
 induction gs with
 | nil=>rfl
 | cons g gs ih=>rw [beGroups,List.length_append,ih,be_len,List.length_cons];omega
theorem pow9:∀ j,j < 9→1≤100000000 / 10 ^ j∧100000000 / 10 ^ j≤100000000:=by decide

set_option maxHeartbeats 1000000 in
theorem text_any {w:World} {v:Value} {xs:List Nat} (hv:RdL w v xs) (hl:xs.length≤1000000):
  Calls Tryz.prog 132 #[v] w (Gives w fun v' _=>v'=.string (strOf (dtext (nv xs)))):=by
 refine via fun R hR=>?_
 have HV:=Lib.hid hv
 have hll:=limbs_len_le hv.2
 clear hv
 go_enter Tryz.func132,Tryz.ntmps132
 go_wp2_with fail
 refine (norm_any HV.out (by omega)).mono ?_
 rintro e w1 ⟨v1,rfl,b1,o1⟩
 generalize nv xs=n at*
 have O1:=Lib.hid o1
 obtain ⟨a1,c1,rfl,-,-,-,-⟩:=o1.rd.1.shape
 clear o1
 by_cases hn:n=0
 ·subst hn
  have e0:(((limbs 0).length:Int) == 0)=true:=beqT (by rw [limbs_zero];rfl)
  go_wp2_with fail
  exact hR.out _ _ (Gives.mk b1 (by rw [dtext_small (by decide)];unfold strOf;rfl))
 ·have e0:(((limbs n).length:Int) == 0)=false:=beqF (by have:=limbs_len_pos.2 (Nat.pos_of_ne_zero hn);omega)
  have HNE:=Lib.hid hn
  have hdl:(digs 1000000000 n).length≤2*(limbs n).length:=(digs_len _ (by decide) n _).2 (by
   have h1:=(digs_len W32 (by decide) n _).1 (Nat.le_refl (limbs n).length)
   rw [Nat.pow_mul]
   exact Nat.lt_of_lt_of_le h1 (Nat.pow_le_pow_left (by decide) _))
  have hs1:=b1.size
  clear hn
  go_wp2_with fail
  go_loopw [0,3] (fun a g wr=>∃ (m:Nat) (gs:List Nat),Hid (OwnL 119 w.heap.size wr a (limbs m))∧Hid (OwnL 119 w.heap.size wr g gs)∧Ext w wr∧Hid (digs 1000000000 n=gs ++ digs 1000000000 m)∧(limbs m).length≤1000000) (fun _ g _=>(digs 1000000000 n).length - slLen g)
  case atStart=>exact ⟨n,[],O1.out.mono (by omega),⟨⟨by simp [ints],.inl ⟨rfl,rfl⟩⟩,Fit.nil _⟩,b1,rfl,by omega⟩
  case round=>
   obtain ⟨m,gs,hA,hG,hbel,hD,hml⟩:=hrel
   obtain ⟨aa,ca,rfl,-,-,-,-⟩:=hA.out.rd.1.shape
   have hsz:=hbel.size
   by_cases hm:m=0
   ·subst hm
    have e1:decide (0 < (limbs 0).length)=false:=decide_eq_false (by rw [limbs_zero];simp)
    have HGS:Hid (digs 1000000000 n=gs):=by
     show _=_
     have:=hD.out
     rw [digs_zero,List.append_nil] at this
     exact this
    obtain ⟨ag,cg,rfl,hlg,hmg,-,hcg⟩:=hG.out.rd.1.shape
    have HCG:=Lib.hid hcg
    have hgl:gs.length≤2000000:=by rw [← HGS.out];omega
    have hg0:0 < gs.length:=by
     have h1:=HNE.out
     rw [← HGS.out]
     exact Nat.pos_of_ne_zero fun h2=>h1 ((digs_nil _ (by decide) n).1 h2)
    clear hcg hD hA
    generalize ag=ag0 at*
    have h9:(9:Int)=((9:Nat):Int):=rfl
    go_wp2_with fail
    obtain ⟨w5,rfl⟩:∃ w5:World,w5=wr:=⟨_,rfl⟩
    go_loopw [7,8] (fun b i wr=>∃ (k:Nat) (bs:List Nat),i=.int .i64 ((k:Int) - 1)∧k≤gs.length∧Hid (OwnI .u8 5 w5.heap.size wr b bs)∧Ext w5 wr∧Hid (bs=beGroups (gs.drop k))) (fun _ i _=>(intOf i+1).toNat)
    case atStart=>exact ⟨gs.length,[],by first | rfl | go_num,Nat.le_refl _,OwnI.nil _ _ _ _,Ext.refl _,by show _=_;rw [List.drop_length];rfl⟩
    case round=>
     obtain ⟨k,bs,rfl,hk,hB,hx5,hbs⟩:=hrel
     have hsz5:=hx5.size
     by_cases hk0:k=0
     ·subst hk0
      have hcv:=conv_bytes Tryz.underlying190 Tryz.underlying5 Tryz.underlying9 (w:=wr) hB.out.rd (by rw [hbs.out];exact groups_fit _)
      have HTX:Hid (trim0 bs=dtext n):=by show _=_;rw [hbs.out,List.drop_zero,← HGS.out];exact trim_groups HNE.out
      have hfit:Hid (Fit 256 bs):=by show Fit 256 bs;rw [hbs.out];exact groups_fit _
      obtain ⟨ab,cb,rfl,-,-,-,-⟩:=hB.out.rd.shape
      go_wp2_with fail
      refine (trimleft_any hfit.out).mono ?_
      rintro e w6 ⟨_,rfl,b6,rfl⟩
      go_wp2_with fail
      exact hR.out _ _ (Gives.mk (Ext.trans hbel (Ext.trans hx5 b6)) (congrArg (fun l=>Value.string (strOf l)) HTX.out))
     ·obtain ⟨j,rfl⟩:∃ j,k=j+1:=⟨k - 1,by omega⟩
      obtain ⟨bg,og,rfl,hcell⟩:=HCG.out j (by omega)
      have hbl:Hid (bs.length=9*(gs.length - (j+1))):=by show _=_;rw [hbs.out,groups_len,List.length_drop]
      have hgj:=hG.out.2.nth32 j
      have hjz:((j+1:Nat):Int) - 1=(j:Int):=by omega
      have HCELL:=Lib.hid hcell
      clear hcell
      rw [hjz]
      clear hjz
      go_wp2_with fail
      obtain ⟨w6,rfl⟩:∃ w6:World,w6=wr:=⟨_,rfl⟩
      go_loopw [7,9] (fun b p wr=>∃ (i:Nat) (cs:List Nat),p=.int .u32 ((100000000 / 10 ^ i:Nat):Int)∧i≤9∧Hid (OwnI .u8 5 w5.heap.size wr b cs)∧Ext w5 wr∧Hid (cs=beGroups (gs.drop (j+1)) ++ (be 9 (nth gs j)).take i)) (fun _ p _=>(intOf p).toNat)
      case atStart=>exact ⟨0,bs,rfl,by omega,hB,hx5,by show _=_;rw [hbs.out];simp⟩
      case round=>
       obtain ⟨i,cs,rfl,hi,hC,hx6,hcs⟩:=hrel
       have hsz6:=hx6.size
       by_cases hi9:i < 9
       ·obtain ⟨hp1,hp2⟩:=pow9 i hi9
        have hnx:Hid (100000000 / 10 ^ (i+1)=100000000 / 10 ^ i / 10):=by show _=_;rw [Nat.pow_succ,Nat.div_div_eq_div_mul]
        have hbt:=Lib.hid (be_take (nth gs j) i hi9)
        generalize 100000000 / 10 ^ i=p at*
        have hc2:=Ext.cell hx6 HCELL.out
        have hcl:cs.length≤18000010:=by
         have h1:=hcs.out
         rw [h1,List.length_append,groups_len,List.length_drop,List.length_take,be_len]
         omega
        have hq:=Nat.div_le_self (nth gs j) p
        have hu0:(0:Int)≤(nth gs j:Int) / (p:Int):=Int.ediv_nonneg (by omega) (by omega)
        have hp0:((p:Int) == 0)=false:=beqF (by omega)
        have hp3:¬ (p:Int)=0:=by omega
        have hp4:decide (0 < (p:Int))=true:=decide_eq_true (by omega)
        go_wp2_with (at_builtin;refine append_rd et8t rfl _ _ rfl w5.heap.size rfl (Ext.owns (Ext.alloc _ _) hC.out) rfl (RdV.lit _ _ _ _ 1 rfl (by unfold maxLen;omega)) (by intro u hu;simp at hu;subst hu;rfl) (by omega) (by unfold maxLen;omega) (by simp;omega) ?_)
        intro v7 w7 o7 b7 _
        have O7:Hid (OwnI .u8 5 w5.heap.size w7 v7 (cs ++ [nth gs j / p % 10+48])):=OwnI.snoc o7 (by omega) (by omega)
        clear o7
        go_wp2_with fail
        go_roundw
        case rel=>exact ⟨i+1,_,by rw [hnx.out];rfl,by omega,O7.out,Below.trans (Below.alloc hx6 hsz6 _) b7,by show _=_;rw [hcs.out,hbt.out,List.append_assoc]⟩
        case measure=>simp [intOf] <;> omega
       ·obtain rfl:i=9:=by omega
        go_wp2_with fail
        go_roundw
        case rel=>exact ⟨j,cs,by go_num,by omega,hC.out,hx6,by show _=_;rw [hcs.out,List.take_of_length_le (by rw [be_len];omega)];exact (groups_drop (by omega)).symm⟩
        case measure=>simp [intOf] <;> omega
   ·have hmp:=limbs_len_pos.2 (Nat.pos_of_ne_zero hm)
    have e1:decide (0 < (limbs m).length)=true:=decide_eq_true (by omega)
    have hnm:nv (limbs m)=m:=nv_limbs m
    have HDM:Hid (digs 1000000000 m=m % 1000000000 :: digs 1000000000 (m / 1000000000)):=digs_pos _ (by decide) m hm
    go_wp2_with fail
    refine (divword_to 1000000000 rfl (by decide) (by decide) hA.out.rd (by omega)).mono ?_
    rintro e w2 ⟨_,rfl,b2,q,rfl,oq⟩
    rw [hnm] at oq ⊢
    have OQ:=Lib.hid oq
    have hgl2:Hid (gs.length+1≤(digs 1000000000 n).length):=by show _≤_;rw [hD.out,HDM.out];simp
    have hgl3:gs.length≤2000000:=by have:=hgl2.out;omega
    obtain ⟨ag,cg,rfl,-,-,-,-⟩:=hG.out.rd.1.shape
    have hs2:=Below.size b2
    have hrm:m % 1000000000 < 1000000000:=Nat.mod_lt _ (by decide)
    have hlm:(limbs (m / 1000000000)).length≤1000000:=Nat.le_trans (limbs_mono (Nat.div_le_self _ _)) hml
    have hGl:∀ k,(Value.slice ag gs.length cg).ownBlock=some k→k < wr.heap.size:=fun k h=>(World.ownsRow.lt hG.out.1 k h).2
    have HGL:=Lib.hid hGl
    clear oq hGl hnm
    go_wp2_with (at_builtin;refine append_rd et32 rfl _ _ rfl w.heap.size rfl (Ext.owns (Ext.trans b2 (Ext.alloc _ _)) hG.out.1) rfl (RdV.lit _ _ _ _ 1 rfl (by unfold maxLen;omega)) (by intro u hu;simp at hu;subst hu;rfl) (by omega) (by unfold maxLen;omega) (by simp;omega) ?_)
    intro v7 w7 o7 b7 hgr
    have O7:Hid (OwnL 119 w.heap.size w7 v7 (gs ++ [m % 1000000000])):=OwnL.snoc o7 (by omega) (by omega) hG.out.2 (by unfold W32;omega)
    have OQ7:Hid (OwnL 119 w.heap.size w7 q (limbs (m / 1000000000))):=OwnL.mono ⟨owns_past (Ext.owns (Ext.alloc _ _) OQ.out.1) HGL.out hgr,OQ.out.2⟩ (by omega)
    obtain ⟨a7,c7,rfl,-,-,-,-⟩:=O7.out.rd.1.shape
    clear o7 hgr
    go_wp2_with fail
    go_roundw
    case rel=>exact ⟨m / 1000000000,_,OQ7.out,O7.out,Below.trans (Below.alloc (Ext.trans hbel b2) (by omega) _) b7,by show _=_;rw [hD.out,HDM.out,List.append_assoc];rfl,hlm⟩
    case measure=>have:=hgl2.out;simp [slLen] <;> omega
end Go.Proofs.YtdooldpgnjmpfaaGreatDoor

namespace Go.Proofs
open Go.Shelf Go.RowKit
end Go.Proofs

namespace Go.Proofs.YtdooldpgnjmpfaaGreatDoor
open Go.RowKit Go.Att

theorem strOf_app (xs ys:List Nat):strOf (xs ++ ys)=strOf xs ++ strOf ys:=by
 unfold strOf
 apply ByteArray.ext
 simp
open Go.RowKit Go.Att

open Go.RowKit Go.Att

@[irreducible] def bsOf (s:ByteArray):List Nat:=s.data.toList.map UInt8.toNat
theorem bsOf_len (s:ByteArray):(bsOf s).length=s.size:=by unfold bsOf;show _=s.data.size;simp
open Go.RowKit Go.Att

def Top (xs:List Nat):Prop:=W32 ^ (xs.length - 1)≤nv xs
theorem Top.grow {xs ys:List Nat} {b:Nat} (h:Top xs) (hb:1≤b) (hn:nv ys=nv xs*b+0) (hy:ys.length=xs.length∨W32 ^ (ys.length - 1)≤nv ys):Top ys:=by
 rcases hy with hy | hy
 ·unfold Top at h ⊢
  rw [hy,hn]
  have:nv xs*1≤nv xs*b:=Nat.mul_le_mul_left _ hb
  omega
 ·exact hy

open Go.RowKit Go.Att

open Go.RowKit Go.Att

open Go.RowKit Go.Att

open Go.RowKit Go.Att

def signT (q:Rat):List Nat:=if q.num < 0 then [45] else []
def lowT (q:Rat):List Nat:=if q.den=1 then [] else dtext q.den
def printT (q:Rat):List Nat:=signT q ++ dtext q.num.natAbs ++ (if q.den=1 then [] else [47] ++ dtext q.den)
theorem toList_inj6 {s t:ByteArray} (h:s.toList=t.toList):s=t:=by
 rw [ByteArray.toList_eq,ByteArray.toList_eq] at h
 obtain ⟨⟨x⟩⟩:=s
 obtain ⟨⟨y⟩⟩:=t
 simpa using h
theorem text_some (n:Nat):((strOf (dtext n)).toList == [])=false:=by
 apply Bool.eq_false_iff.2
 intro hb
 have h1:strOf (dtext n)=⟨#[]⟩:=toList_inj6 ((eq_of_beq hb).trans (by rw [ByteArray.toList_eq]))
 have h2:=strOf_size (dtext n)
 rw [h1] at h2
 have:=dtext_pos n
 have h3:(⟨#[]⟩:ByteArray).size=0:=rfl
 omega
theorem parts6_any {w:World} {v:Value} {q:Rat} (hq:RdQ w v q) (hs:Sz 100000 q):
  Calls Tryz.prog 108 #[v] w (Gives w fun v' _=>v'=.tuple #[.string (strOf (signT q)),.string (strOf (dtext q.num.natAbs)),.string (strOf (lowT q))]):=by
 refine via fun R hR=>?_
 have HQ:=Lib.hid hq
 have HS:=Lib.hid hs
 obtain ⟨z,a,l,c,a',l',c',rfl,-⟩:=hq.op
 obtain ⟨w1,hw1,b1,c1,-,-⟩:=bx1 w [.bool z,.slice a l c,.slice a' l' c'] 59
 have HW:=Lib.hid hw1
 have C1:=Lib.hid c1
 clear hw1 c1 hs
 go_enter Tryz.func108,Tryz.ntmps108
 go_upto_region 1 with (fail)
 rw [← HW.out]
 clear HW
 obtain ⟨k0,k1,k2⟩:=C1.out.c3
 go_wp2_with fail
 clear k0 k1 k2
 refine (parts_any (HQ.out.ext b1) (by have:=HS.out.1;omega) (by have:=HS.out.2;omega)).mono ?_
 rintro e w2 ⟨_,rfl,b2,n,d,rfl,on,od⟩
 have ON:=Lib.hid on.rd
 have OD:=Lib.hid od.rd
 clear on od
 obtain ⟨an,cn,rfl,-,-,-,-⟩:=ON.out.1.shape
 obtain ⟨ad,cd,rfl,-,-,-,-⟩:=OD.out.1.shape
 have HT1:Hid (∀ w',Ext w2 w'→Calls Tryz.prog 132 #[.slice an (limbs q.num.natAbs).length cn] w' (Gives w' fun v' _=>v'=.string (strOf (dtext q.num.natAbs)))):=fun w' x=>by
  have h:=text_any (ON.out.ext x) (by have:=HS.out.1;omega)
  rwa [nv_limbs] at h
 have HT2:Hid (∀ w',Ext w2 w'→Calls Tryz.prog 132 #[.slice ad (limbs q.den).length cd] w' (Gives w' fun v' _=>v'=.string (strOf (dtext q.den)))):=fun w' x=>by
  have h:=text_any (OD.out.ext x) (by have:=HS.out.2;omega)
  rwa [nv_limbs] at h
 have C2:=Lib.hid (C1.out.ext b2)
 have HWH:Hid (∀ w',Ext w2 w'→Calls Tryz.prog 131 #[.agg #[.bool z,.slice a l c,.slice a' l' c']] w' (Gives w' fun v' _=>v'=.bool (decide (q.den=1)))):=fun w' x=>whole_any (HQ.out.ext (Ext.trans b1 (Ext.trans b2 x)))
 have FIN:Hid (∀ s t u w',s=strOf (signT q)→t=strOf (dtext q.num.natAbs)→u=strOf (lowT q)→Ext w w'→R (.returned (.tuple #[.string s,.string t,.string u])) w'):=fun s t u w' h1 h2 h3 x=>hR.out _ _ (Gives.mk x (by rw [h1,h2,h3]))
 unfold signT lowT at FIN
 clear ON OD HS hR
 generalize (limbs q.num.natAbs).length=ln at*
 generalize (limbs q.den).length=ld at*
 generalize strOf (dtext q.num.natAbs)=S at*
 obtain ⟨neg,hneg⟩:∃ neg,decide (q.num < 0)=neg:=⟨_,rfl⟩
 obtain ⟨one,hone⟩:∃ one,decide (q.den=1)=one:=⟨_,rfl⟩
 rw [hone] at HWH
 rw [hneg]
 cases neg
 all_goals cases one
 all_goals
  have HN1:=Lib.hid hneg
  have HO1:=Lib.hid hone
  clear hneg hone
  obtain ⟨k0,k1,k2⟩:=C2.out.c3
  go_wp2_with fail
  clear k0 k1 k2
  refine (HWH.out _ (Ext.refl _)).mono ?_
  rintro e w3 ⟨_,rfl,b3,rfl⟩
  go_wp2_with fail
 ·refine (HT2.out _ b3).mono ?_
  rintro e w4 ⟨_,rfl,b4,rfl⟩
  go_wp2_with fail
  refine (HT1.out _ (Ext.trans b3 b4)).mono ?_
  rintro e w5 ⟨_,rfl,b5,rfl⟩
  go_wp2_with fail
  refine bodyPost_ret (v:=.tuple #[.string ⟨#[]⟩,.string S,.string (strOf (dtext q.den))]) (by simp [results,Tryz.results108,go_sem]) rfl ?_
  exact FIN.out _ _ _ _ (by rw [if_neg (of_decide_eq_false HN1.out),strOf_nil]) rfl (by rw [if_neg (of_decide_eq_false HO1.out)]) (Ext.trans b1 (Ext.trans b2 (Ext.trans b3 (Ext.trans b4 b5))))
 ·refine (HT1.out _ b3).mono ?_
  rintro e w4 ⟨_,rfl,b4,rfl⟩
  go_wp2_with fail
  refine bodyPost_ret (v:=.tuple #[.string ⟨#[]⟩,.string S,.string ⟨#[]⟩]) (by simp [results,Tryz.results108,go_sem]) rfl ?_
  exact FIN.out _ _ _ _ (by rw [if_neg (of_decide_eq_false HN1.out),strOf_nil]) rfl (by rw [if_pos (of_decide_eq_true HO1.out),strOf_nil]) (Ext.trans b1 (Ext.trans b2 (Ext.trans b3 b4)))
 ·refine (HT2.out _ b3).mono ?_
  rintro e w4 ⟨_,rfl,b4,rfl⟩
  go_wp2_with fail
  refine (HT1.out _ (Ext.trans b3 b4)).mono ?_
  rintro e w5 ⟨_,rfl,b5,rfl⟩
  go_wp2_with fail
  refine bodyPost_ret (v:=.tuple #[.string ⟨#[45]⟩,.string S,.string (strOf (dtext q.den))]) (by simp [results,Tryz.results108,go_sem]) rfl ?_
  exact FIN.out _ _ _ _ (by rw [if_pos (of_decide_eq_true HN1.out)];unfold strOf;rfl) rfl (by rw [if_neg (of_decide_eq_false HO1.out)]) (Ext.trans b1 (Ext.trans b2 (Ext.trans b3 (Ext.trans b4 b5))))
 ·refine (HT1.out _ b3).mono ?_
  rintro e w4 ⟨_,rfl,b4,rfl⟩
  go_wp2_with fail
  refine bodyPost_ret (v:=.tuple #[.string ⟨#[45]⟩,.string S,.string ⟨#[]⟩]) (by simp [results,Tryz.results108,go_sem]) rfl ?_
  exact FIN.out _ _ _ _ (by rw [if_pos (of_decide_eq_true HN1.out)];unfold strOf;rfl) rfl (by rw [if_pos (of_decide_eq_true HO1.out),strOf_nil]) (Ext.trans b1 (Ext.trans b2 (Ext.trans b3 b4)))
theorem text_long {n k:Nat} (h:(limbs n).length≤k) (h0:0 < k):(strOf (dtext n)).size≤10*k:=by
 rw [strOf_size]
 have h1:W32 ^ k≤10 ^ (10*k):=by rw [Nat.pow_mul];exact Nat.pow_le_pow_left (by decide) k
 exact dtext_len_le (Nat.lt_of_lt_of_le ((digs_len W32 (by decide) n k).1 h) h1) (by omega)
theorem sign_long (q:Rat):(strOf (signT q)).size≤1:=by
 rw [strOf_size]
 unfold signT
 split <;> simp
theorem print6_any {w:World} {v:Value} {q:Rat} (hq:RdQ w v q) (hs:Sz 100000 q):
  Calls Tryz.prog 82 #[v] w (Gives w fun v' _=>v'=.string (strOf (printT q))):=by
 refine via fun R hR=>?_
 have HQ:=Lib.hid hq
 have HS:=Lib.hid hs
 obtain ⟨z,a,l,c,a',l',c',rfl,-⟩:=hq.op
 obtain ⟨w1,hw1,b1,c1,-,-⟩:=bx1 w [.bool z,.slice a l c,.slice a' l' c'] 59
 have HW:=Lib.hid hw1
 have C1:=Lib.hid c1
 clear hw1 c1 hs
 go_enter Tryz.func82,Tryz.ntmps82
 go_upto_region 1 with (fail)
 rw [← HW.out]
 clear HW
 obtain ⟨k0,k1,k2⟩:=C1.out.c3
 go_wp2_with fail
 clear k0 k1 k2
 refine (parts6_any (HQ.out.ext b1) HS.out).mono ?_
 rintro e w2 ⟨_,rfl,b2,rfl⟩
 have h1:=sign_long q
 have h2:=text_long (n:=q.num.natAbs) HS.out.1 (by decide)
 have h3:=text_long (n:=q.den) HS.out.2 (by decide)
 unfold lowT
 by_cases hd:q.den=1
 ·rw [if_pos hd,strOf_nil]
  have HP:Hid (strOf (printT q)=strOf (signT q) ++ strOf (dtext q.num.natAbs)):=by
   show _=_
   unfold printT
   rw [if_pos hd,List.append_nil,strOf_app]
  clear hd h3 HQ HS
  generalize strOf (printT q)=P at*
  generalize strOf (signT q)=S1 at*
  generalize strOf (dtext q.num.natAbs)=S2 at*
  have hc1:¬ (S1.size+S2.size > 9223372036854775807):=by omega
  go_wp2_with fail
  exact hR.out _ _ (Gives.mk (Ext.trans b1 b2) (by rw [HP.out];rfl))
 ·rw [if_neg hd]
  have HP:Hid (strOf (printT q)=strOf (signT q) ++ strOf (dtext q.num.natAbs) ++ ⟨#[47]⟩ ++ strOf (dtext q.den)):=by
   show _=_
   unfold printT
   rw [if_neg hd,strOf_app,strOf_app,strOf_app,ByteArray.append_assoc,ByteArray.append_assoc,ByteArray.append_assoc]
   congr 1
   congr 1
   congr 1
   unfold strOf
   rfl
  have hne:=text_some q.den
  clear hd HQ HS
  generalize strOf (printT q)=P at*
  generalize strOf (signT q)=S1 at*
  generalize strOf (dtext q.num.natAbs)=S2 at*
  generalize strOf (dtext q.den)=S3 at*
  have h47:(⟨#[47]⟩:ByteArray).size=1:=rfl
  have hc1:¬ (S1.size+S2.size > 9223372036854775807):=by omega
  go_wp2_with fail
  exact hR.out _ _ (Gives.mk (Ext.trans b1 b2) (by rw [HP.out];rfl))
theorem t45:(⟨#[45]⟩:ByteArray).toList=[45]:=by rw [ByteArray.toList_eq]
open Go.RowKit Go.Att

def termS (t:Int × Rat):ByteArray:=⟨(Lib.itoa t.1).toArray⟩ ++ ⟨#[58]⟩ ++ strOf (printT t.2) ++ ⟨#[32]⟩
def termsS (l:TL):ByteArray:=l.foldl (fun s t=>s ++ termS t) ⟨#[]⟩
theorem termsS_snoc (l:TL) (t:Int × Rat):termsS (l ++ [t])=termsS l ++ termS t:=by unfold termsS;rw [List.foldl_append];rfl
theorem print_long {q:Rat} {k:Nat} (h:Sz k q) (h0:0 < k):(strOf (printT q)).size≤20*k+2:=by
 have h1:=sign_long q
 have h2:=text_long h.1 h0
 have h3:=text_long h.2 h0
 rw [strOf_size] at h1 h2 h3 ⊢
 unfold printT
 rw [List.length_append,List.length_append]
 split
 ·simp;omega
 ·rw [List.length_append];simp;omega
theorem itoa_size {z:Int} (h:In64 z):(⟨(Lib.itoa z).toArray⟩:ByteArray).size≤21:=Lib.itoa_length_le z h.1 (by have:=h.2;omega)
theorem termS_long {t:Int × Rat} (h:In64 t.1) (hs:Sz 5547 t.2):(termS t).size≤111000:=by
 have h1:=itoa_size h
 have h2:=print_long hs (by decide)
 have h3:(⟨#[58]⟩:ByteArray).size=1:=rfl
 have h4:(⟨#[32]⟩:ByteArray).size=1:=rfl
 unfold termS
 rw [ByteArray.size_append,ByteArray.size_append,ByteArray.size_append]
 omega
def keyV (c:AT × Int):Value:=
 if c.2=0 then .agg #[.int .i64 c.1.2,.bool (decide (c.1.1.2.num < 0)),.string (strOf (digs 256 c.1.1.2.num.natAbs)),.string (strOf (digs 256 c.1.1.2.den)),.string (termsS c.1.1.1)]
 else .agg #[.int .i64 (-c.2),.bool false,.string ⟨#[]⟩,.string ⟨#[]⟩,.string ⟨#[]⟩]
theorem insT_len (v:Int) (q:Rat):∀ l:TL,(insT v q l).length≤l.length+1
 | []=>by unfold insT;split <;> simp
 | t :: l=>by
  unfold insT
  have ih:=insT_len v q l
  split
  ·split <;> simp
  ·split
   ·split <;> simp <;> omega
   ·simp;omega
theorem canT_len:∀ l:TL,(canT l).length≤l.length
 | []=>Nat.le_refl _
 | t :: l=>by
  have h1:=insT_len t.1 t.2 (canT l)
  have h2:=canT_len l
  show (insT t.1 t.2 (canT l)).length≤l.length+1
  omega
theorem canA_sz {a:AT} {K M:Nat} (h1:a.1.1.length≤12) (h2:∀ t∈a.1.1,Sz K t.2) (h3:Sz M a.1.2):(canA a).1.1.1.length≤12∧(∀ t∈(canA a).1.1.1,Sz ((12*(K+1)+2)+(12*(K+1)+1)) t.2)∧Sz ((12*(K+1)+2)+M) (canA a).1.1.2:=by
 have hc:∀ x,Sz (12*(K+1)+1) (cf a.1.1 x):=fun x=>(cf_sz h2 x).le (by have:=Nat.mul_le_mul_right (K+1) h1;omega)
 have ht:∀ t∈canT a.1.1,Sz (12*(K+1)+1) t.2:=FormT.szs (canT_form _) fun x=>by rw [canT_cf];exact hc x
 have hf:Sz (12*(K+1)+2) (facA a.2 (canT a.1.1)):=by
  cases hl:canT a.1.1 with
  | nil=>exact (show Sz 2 (1:Rat) from by have:=Sz.int 1 (by decide);exact this).le (by omega)
  | cons t l=>
   have h4:=ht t (by rw [hl];exact List.mem_cons_self)
   unfold facA
   dsimp only
   split
   ·exact h4.inv
   ·rw [← absQ_abq]
    exact h4.absQ.inv
 by_cases h0:canT a.1.1=[]
 ·have he:(canA a).1=(([],0),0):=by unfold canA;rw [if_pos h0]
  rw [he]
  exact ⟨by decide,(fun t h=>by cases h),Sz.zero.le (by omega)⟩
 ·rw [canA_open h0]
  dsimp only
  refine ⟨by rw [sclT_len];exact Nat.le_trans (canT_len _) h1,fun t h=>?_,hf.mul h3⟩
  obtain ⟨u,hu,rfl⟩:=List.mem_map.1 h
  exact hf.mul (ht u hu)
end Go.Proofs.YtdooldpgnjmpfaaGreatDoor
