/- A group of texts: Shelf, PLimbCut, PLits, PLimbWord, PLimbBits, PLimbCmp, PLimbAdd, PLimbSub, PLimbShl, PLimbShr -/
import Derived.Shelf.Small.Bits
import Derived.Test.YtdooldpgnjmpfaaGreatDoorProg
import Derived.Test.YtdooldpgnjmpfaaGreatDoorChecked
import Derived.Test.YtdooldpgnjmpfaaGreatDoorPartAA
import Derived.Deep.QuietTactic
import Derived.BigQuiet
import Derived.Deep.DeepCutAuto
namespace Go.Proofs
open Go.Shelf
def Tryz.lays128_ren:Go.Shelf.Ren:=⟨fun | 128=>125 | n=>n,fun | 51=>119 | 3=>3 | 4=>4 | 46=>173 | 5=>5 | 9=>9 | n=>n,fun | n=>n⟩
theorem Tryz.lays128:Go.Proofs.Lays.n128 Tryz.prog Tryz.lays128_ren:={
 mixed:=by kernel_rfl
 f128:=Tryz.func125.trans (congrArg some (by kernel_rfl))
 t3:=Tryz.underlying3
 a3:=Tryz.isAgg3
 z3:=Tryz.sizeOf3
 v3:=Tryz.zeroValue3
 t4:=Tryz.underlying4
 a4:=Tryz.isAgg4
 z4:=Tryz.sizeOf4
 v4:=Tryz.zeroValue4
 t5:=Tryz.underlying5
 a5:=Tryz.isAgg5
 z5:=Tryz.sizeOf5
 v5:=Tryz.zeroValue5
 t9:=Tryz.underlying9
 a9:=Tryz.isAgg9
 z9:=Tryz.sizeOf9
 v9:=Tryz.zeroValue9
 t46:=Tryz.underlying173
 a46:=Tryz.isAgg173
 z46:=Tryz.sizeOf173
 v46:=Tryz.zeroValue173
 t51:=Tryz.underlying119
 a51:=Tryz.isAgg119
 z51:=Tryz.sizeOf119
 v51:=Tryz.zeroValue119 }
theorem Tryz.bits_Len32 (x:Int) (w:World) (h0:0≤x) (h1:x≤4294967295):
  Calls Tryz.prog 125 #[.int .u32 x] w fun e w'=>e=.returned (.int .i64 (Lib.bitLen x.toNat))∧w'=w:=Any.bits_Len32 Tryz.lays128 x w h0 h1
def Tryz.lays133_ren:Go.Shelf.Ren:=⟨fun | 133=>127 | 128=>125 | n=>n,fun | 51=>119 | 3=>3 | 4=>4 | 46=>173 | 5=>5 | 9=>9 | n=>n,fun | n=>n⟩
theorem Tryz.lays133:Go.Proofs.Lays.n133 Tryz.prog Tryz.lays133_ren:={
 mixed:=by kernel_rfl
 f128:=Tryz.func125.trans (congrArg some (by kernel_rfl))
 f133:=Tryz.func127.trans (congrArg some (by kernel_rfl))
 t3:=Tryz.underlying3
 a3:=Tryz.isAgg3
 z3:=Tryz.sizeOf3
 v3:=Tryz.zeroValue3
 t4:=Tryz.underlying4
 a4:=Tryz.isAgg4
 z4:=Tryz.sizeOf4
 v4:=Tryz.zeroValue4
 t5:=Tryz.underlying5
 a5:=Tryz.isAgg5
 z5:=Tryz.sizeOf5
 v5:=Tryz.zeroValue5
 t9:=Tryz.underlying9
 a9:=Tryz.isAgg9
 z9:=Tryz.sizeOf9
 v9:=Tryz.zeroValue9
 t46:=Tryz.underlying173
 a46:=Tryz.isAgg173
 z46:=Tryz.sizeOf173
 v46:=Tryz.zeroValue173
 t51:=Tryz.underlying119
 a51:=Tryz.isAgg119
 z51:=Tryz.sizeOf119
 v51:=Tryz.zeroValue119 }
theorem Tryz.bits_LeadingZeros32 (x:Int) (w:World) (h0:0≤x) (h1:x≤4294967295):
  Calls Tryz.prog 127 #[.int .u32 x] w fun e w'=>e=.returned (.int .i64 (32 - (Lib.bitLen x.toNat:Int)))∧w'=w:=Any.bits_LeadingZeros32 Tryz.lays133 x w h0 h1
end Go.Proofs

namespace Go.Proofs.YtdooldpgnjmpfaaGreatDoor
open Go.RowKit Go.Att

theorem cut_any {w:World} {v:Value} {xs:List Nat} (hv:RdL w v xs):
  Calls Tryz.prog 103 #[v] w fun e w'=>∃ v',e=.returned v'∧w=w'∧RdL w v' (limbs (nv xs))∧∃ a cap n,v=.slice a xs.length cap∧v'=.slice a n cap:=by
 have hd:=hv.2
 obtain ⟨a,cap,rfl,hlc,hcm,_,hcell⟩:=hv.1.shape
 refine via fun R hR=>?_
 have HV:=Lib.hid hv
 have HC:=Lib.hid hcell
 have HD:=Lib.hid hd
 clear hcell hd hv
 unfold maxLen at hcm
 go_enter Tryz.func103,Tryz.ntmps103
 go_wp2
 go_loop [0] (fun s=>∃ n:Nat,n≤xs.length∧Hid (∀ i,n≤i→i < xs.length→nth xs i=0)∧s=.slice a n cap) (fun s=>match s with | .slice _ n _=>n | _=>0)
 case atStart=>exact ⟨xs.length,Nat.le_refl _,fun i h h'=>by omega,rfl⟩
 case round=>
  obtain ⟨n,hn,hz,rfl⟩:=hrel
  have fin:(n=0∨nth xs (n - 1)≠0)→R (.returned (.slice a n cap)) w:=by
   intro hl
   refine hR.out _ _ ⟨_,rfl,rfl,?_,a,cap,n,rfl,rfl⟩
   have h1:=RdI.take HV.out.1 rfl hn
   have h2:=take_digs W32_ge HD.out hn hz.out hl
   unfold limbs nv
   rw [← h2]
   exact ⟨h1,HD.out.take n⟩
  by_cases h0:n=0
  ·subst h0
   go_wp2
   all_goals exact fin (.inl rfl)
  ·obtain ⟨b,off,rfl,hc⟩:=HC.out (n - 1) (by omega)
   by_cases hz1:nth xs (n - 1)=0
   ·rw [hz1] at hc
    have HZ2:=Lib.hid hz1
    clear hz1
    go_wp2
    go_round
    case rel=>
     refine ⟨n - 1,by omega,fun i h h'=>?_,rfl⟩
     by_cases hi:i=n - 1
     ·rw [hi];exact HZ2.out
     ·exact hz.out i (by omega) h'
    case measure=>simp;omega
   ·have hb:((nth xs (n - 1):Int) == 0)=false:=by simpa using hz1
    go_wp2
    all_goals exact fin (.inr hz1)

theorem et32:ElemT Tryz.prog 57 119 (.int .u32 0) 1 4:=ElemT.mk' Tryz.underlying57 (by kernel_rfl) rfl (by decide)

theorem norm_any {w:World} {v:Value} {xs:List Nat} (hv:RdL w v xs) (hn:xs.length≤17592186044416):
  Calls Tryz.prog 76 #[v] w (Gives w fun v' w'=>OwnL 119 w.heap.size w' v' (limbs (nv xs))):=by
 refine via fun R hR=>?_
 have HV:=Lib.hid hv
 have hl:(limbs (nv xs)).length≤xs.length:=(digs_len W32 W32_ge _ _).2 (val_lt (by decide) hv.2)
 clear hv
 go_enter Tryz.func76,Tryz.ntmps76
 go_wp2_with fail
 refine (cut_any HV.out).mono ?_
 rintro e w' ⟨v',rfl,rfl,hr,-⟩
 have HR:=Lib.hid hr
 clear hr
 go_wp2_with (at_builtin;refine append_rd et32 rfl _ _ rfl w.heap.size rfl (World.ownsRow_nil _ _ _ _) rfl HR.out.1 (ints_one _ _) (by omega) (by unfold maxLen;omega) (Nat.le_refl _) ?_)
 intro v1 w1 ho hb _
 have HO:=Lib.hid ho
 clear ho
 go_wp2
 exact hR.out _ _ (Gives.mk hb ⟨by simpa [OwnI] using HO.out,HR.out.2⟩)
open Go.RowKit Go.Att

theorem lit1_rd (w:World) (x:Nat) (hx:x < W32):RdL (w.alloc (.cells #[.int .u32 x] 119)) (.slice (some ⟨w.heap.size,0,none⟩) 1 1) [x]:=
 ⟨RdV.lit w #[.int .u32 x] 119 1 1 rfl (by unfold maxLen;omega),Fit.one hx⟩
open Go.RowKit Go.Att

theorem word_any {w:World} (u:Nat) (hu:u≤18446744073709551615):
  Calls Tryz.prog 94 #[.int .u64 u] w (Gives w fun v' w'=>OwnL 119 w.heap.size w' v' (limbs u)):=by
 refine via fun R hR=>?_
 have E:Hid (nv [u % 4294967296,u / 4294967296]=u):=by show u % 4294967296+4294967296*(u / 4294967296+4294967296*0)=u;omega
 have hf:Hid (Fit W32 [u % 4294967296,u / 4294967296]):=by intro x hx;simp at hx;unfold W32;omega
 have hd:u / 4294967296≤4294967295:=by omega
 go_enter Tryz.func94,Tryz.ntmps94
 go_wp2_with fail
 have hr:Hid (RdL (w.alloc (.cells #[.int .u32 ((u:Int) % 4294967296),.int .u32 ((u:Int) / 4294967296)] 119)) (.slice (some ⟨w.heap.size,0,none⟩) 2 2) [u % 4294967296,u / 4294967296]):=
  ⟨by
    have:=RdV.lit w #[.int .u32 ((u:Int) % 4294967296),.int .u32 ((u:Int) / 4294967296)] 119 1 2 rfl (by unfold maxLen;omega)
    unfold RdI ints
    simpa using this,hf.out⟩
 refine (norm_any hr.out (by simp)).mono ?_
 rintro e w3 ⟨v3,rfl,hb4,ho3⟩
 have HO3:=Lib.hid ho3
 clear ho3
 go_wp2
 have ho4:=HO3.out
 rw [E.out] at ho4
 exact hR.out _ _ (Gives.mk (Ext.trans (Ext.alloc _ _) hb4) (ho4.mono (by simp)))
open Go.RowKit Go.Att

theorem lz_any {x:Nat} (h:x≤4294967295) (w:World):
  Calls Tryz.prog 127 #[.int .u32 x] w fun e w'=>e=.returned (.int .i64 (32 - (blen x:Int)))∧w=w':=by
 refine (Tryz.bits_LeadingZeros32 x w (by omega) (by omega)).mono ?_
 rintro e w' ⟨rfl,rfl⟩
 rw [Int.toNat_natCast,bitLen_32 h]
 exact ⟨rfl,rfl⟩

theorem bits_any {w:World} {v:Value} {xs:List Nat} (hv:RdL w v xs) (hn:xs.length≤1099511627776):
  Calls Tryz.prog 93 #[v] w (Gives w fun v' _=>v'=.int .i64 (blen (nv xs))):=by
 refine via fun R hR=>?_
 have HV:=Lib.hid hv
 have hl:(limbs (nv xs)).length≤xs.length:=(digs_len W32 W32_ge _ _).2 (val_lt (by decide) hv.2)
 clear hv
 go_enter Tryz.func93,Tryz.ntmps93
 go_wp2_with fail
 refine (cut_any HV.out).mono ?_
 rintro e w' ⟨v',rfl,rfl,hr,-⟩
 generalize hx:nv xs=x at*
 obtain ⟨a,ca,rfl,hla,hma,_,hca⟩:=hr.1.shape
 have HC:=Lib.hid hca
 clear hca hr hx
 unfold maxLen at hma
 have fin:∀ c:Int,(blen x:Int)=c→R (.returned (.int .i64 c)) w:=fun c hc=>hR.out _ _ (Gives.mk (Ext.refl _) (by rw [hc]))
 have FIN:=Lib.hid fin
 clear fin
 by_cases h0:x=0
 ·have e0:(limbs x).length≤0:=by rw [h0];unfold limbs;rw [digs_zero];exact Nat.le_refl _
  have eb:blen x=0:=by rw [h0,blen_zero]
  have EB:=Lib.hid eb
  have et:(((limbs x).length:Int) == 0)=true:=beqT (by omega)
  clear h0 eb
  go_wp2
  all_goals exact FIN.out _ (by rw [EB.out];rfl)
 ·obtain ⟨b1,b2,b3⟩:=blen_limbs x h0
  have FA:=(fit_limbs x).nth32 ((limbs x).length - 1)
  have hbl:=blen_32 FA
  obtain ⟨ba,oa,rfl,hc⟩:=HC.out ((limbs x).length - 1) (by omega)
  generalize hL:(limbs x).length=L at*
  generalize hN:nth (limbs x) (L - 1)=N at*
  have et:((L:Int) == 0)=false:=beqF (by omega)
  have B1:=Lib.hid b1
  clear b1 hL hN h0 b2
  go_wp2_with (go_at_call 127;refine (lz_any FA _).mono ?_;rintro e w' ⟨rfl,rfl⟩)
  all_goals exact FIN.out _ (by rw [B1.out];omega)
open Go.RowKit Go.Att

theorem cmp_any {w:World} {va vb:Value} {xa xb:List Nat} (ha:RdL w va xa) (hb:RdL w vb xb):
  Calls Tryz.prog 114 #[va,vb] w (Gives w fun v' _=>v'=.int .i64 (cmpN (nv xa) (nv xb))):=by
 refine via fun R hR=>?_
 have HA:=Lib.hid ha
 have HB:=Lib.hid hb
 clear ha hb
 go_enter Tryz.func114,Tryz.ntmps114
 go_wp2_with fail
 refine (cut_any HA.out).mono ?_
 rintro e w' ⟨va',rfl,rfl,hra,-⟩
 have HRA:=Lib.hid hra
 clear hra
 go_wp2_with fail
 refine (cut_any HB.out).mono ?_
 rintro e w' ⟨vb',rfl,rfl,hrb,-⟩
 generalize hx:nv xa=x at*
 generalize hy:nv xb=y at*
 obtain ⟨a,ca,rfl,hla,hma,_,hca⟩:=HRA.out.1.shape
 obtain ⟨b,cb,rfl,hlb,hmb,_,hcb⟩:=hrb.1.shape
 have HCA:=Lib.hid hca
 have HCB:=Lib.hid hcb
 have HRB:=Lib.hid hrb
 clear hca hcb hrb hx hy HA HB
 unfold maxLen at hma hmb
 unfold limbs at*
 have fin:∀ c:Int,cmpN x y=c→∀ w',Ext w w'→R (.returned (.int .i64 c)) w':=fun c hc w' hw=>hR.out _ _ (Gives.mk hw (by rw [hc]))
 have FIN:=Lib.hid fin
 clear fin
 by_cases hlen:(digs W32 x).length=(digs W32 y).length
 ·have HL:=Lib.hid hlen
  have hne:(((digs W32 x).length:Int) != ((digs W32 y).length:Int))=false:=bneF (by omega)
  have hle:(digs W32 x).length≤(digs W32 y).length∧(digs W32 y).length≤(digs W32 x).length:=by omega
  obtain ⟨hle1,hle2⟩:=hle
  clear hlen
  go_wp2
  go_loopw [5] (fun s wr=>∃ k:Nat,k≤(digs W32 x).length∧Hid (SameFrom (digs W32 x) (digs W32 y) k)∧s=.int .i64 ((k:Int) - 1)∧Ext w wr) (fun s _=>(intOf s+1).toNat)
  case atStart=>exact ⟨_,Nat.le_refl _,fun j h1 h2=>by omega,rfl,Ext.refl _⟩
  case round=>
   obtain ⟨k,hk,hs,rfl,hext⟩:=hrel
   by_cases hk0:k=0
   ·have hk1:k≤0:=by omega
    have hs0:SameFrom (digs W32 x) (digs W32 y) 0:=by have h:=hs.out;rwa [hk0] at h
    have E:=Lib.hid (cmp_end W32_ge HL.out hs0)
    clear hk0 hs0
    go_wp2
    all_goals exact FIN.out _ E.out _ hext
   ·obtain ⟨j,rfl⟩:∃ j,k=j+1:=⟨k - 1,by omega⟩
    obtain ⟨ba,oa,rfl,hca⟩:=HCA.out j (by omega)
    obtain ⟨bb,ob,rfl,hcb⟩:=HCB.out j (by omega)
    have hca':=hext.cell hca
    have hcb':=hext.cell hcb
    have FA:=(fit_digs W32 W32_ge x).nth32 j
    have FB:=(fit_digs W32 W32_ge y).nth32 j
    clear hca hcb
    by_cases he:nth (digs W32 x) j=nth (digs W32 y) j
    ·have HE:=Lib.hid he
     have hb1:((nth (digs W32 x) j:Int) != (nth (digs W32 y) j:Int))=false:=bneF (by omega)
     clear he
     go_wp2
     go_region
     all_goals
      go_wp2
      go_roundw
      case rel=>
       refine ⟨j,by omega,fun i h1 h2=>?_,rfl,hext.drew⟩
       by_cases hi:i=j
       ·rw [hi];exact HE.out
       ·exact hs.out i (by omega) h2
      case measure=>simp [intOf] <;> omega
    ·have hb1:((nth (digs W32 x) j:Int) != (nth (digs W32 y) j:Int))=true:=bneT (by omega)
     rcases Nat.lt_or_gt_of_ne he with h | h
     ·have E:=Lib.hid (cmp_stop_lt W32_ge HL.out (by omega) hs.out h)
      clear he
      go_wp2
      go_region
      all_goals
       go_wp2
       go_region
       all_goals
        go_wp2
        all_goals exact FIN.out _ E.out _ hext.drew.drew
     ·have E:=Lib.hid (cmp_stop_gt W32_ge HL.out (by omega) hs.out h)
      have hng:¬ ((nth (digs W32 x) j:Int) < (nth (digs W32 y) j:Int)):=by omega
      clear he
      go_wp2
      go_region
      all_goals
       go_wp2
       go_region
       all_goals
        go_wp2
        all_goals exact FIN.out _ E.out _ hext.drew.drew
 ·rcases Nat.lt_or_gt_of_ne hlen with h | h
  ·have E:=Lib.hid (cmpN_lt (digs_lt_of_len W32_ge h))
   have hne:(((digs W32 x).length:Int) != ((digs W32 y).length:Int))=true:=bneT (by omega)
   clear hlen
   go_wp2
   all_goals exact FIN.out _ E.out _ (Ext.refl _)
  ·have E:=Lib.hid (cmpN_gt (digs_lt_of_len W32_ge h))
   have hne:(((digs W32 x).length:Int) != ((digs W32 y).length:Int))=true:=bneT (by omega)
   clear hlen
   go_wp2
   all_goals exact FIN.out _ E.out _ (Ext.refl _)
open Go.RowKit Go.Att

theorem add_any {w:World} {va vb:Value} {xa xb:List Nat} (ha:RdL w va xa) (hb:RdL w vb xb) (hna:xa.length≤1099511627776) (hnb:xb.length≤1099511627776):
  Calls Tryz.prog 135 #[va,vb] w (Gives w fun v' w'=>OwnL 119 w.heap.size w' v' (limbs (nv xa+nv xb))):=by
 refine via fun R hR=>?_
 have HA:=Lib.hid ha
 have HB:=Lib.hid hb
 obtain ⟨a,ca,rfl,hla,hma,_,_⟩:=ha.1.shape
 obtain ⟨b,cb,rfl,hlb,hmb,_,_⟩:=hb.1.shape
 clear ha hb
 unfold maxLen at hma hmb
 go_enter Tryz.func135,Tryz.ntmps135
 go_upto_if 13 with (fail)
 go_cut [0,1] (fun s0 s1 wx=>wx=w∧Hid (∃ ya yb,RdL w s0 ya∧RdL w s1 yb∧yb.length≤ya.length∧nv ya+nv yb=nv xa+nv xb∧ya.length≤1099511627776))
 case first=>
  by_cases hlen:xa.length < xb.length
  ·go_wp2_with fail
   go_meet
   exact ⟨rfl,xb,xa,HB.out,HA.out,by omega,by omega,hnb⟩
  ·go_wp2_with fail
   go_meet
   exact ⟨rfl,xa,xb,HA.out,HB.out,by omega,by omega,hna⟩
 case rest=>
  obtain ⟨rfl,hh⟩:=hcut
  obtain ⟨ya,yb,hya,hyb,hle,hsum,hlen⟩:=hh.out
  clear hh hla hma hlb hmb hna hnb
  have HSUM:=Lib.hid hsum
  have HYA:=Lib.hid hya
  have HYB:=Lib.hid hyb
  obtain ⟨a1,ca1,rfl,hla,hma,_,hca⟩:=hya.1.shape
  obtain ⟨b1,cb1,rfl,hlb,hmb,_,hcb⟩:=hyb.1.shape
  have HCA:=Lib.hid hca
  have HCB:=Lib.hid hcb
  clear hca hcb hya hyb hsum
  unfold maxLen at hma hmb
  go_wp2_with (at_make;refine make_cap et32 rfl _ _ rfl _ _ (ya.length+1) rfl rfl (by omega) (by unfold maxLen;omega) ?_)
  intro w1 ho hext
  have HO:=Lib.hid ho
  have hsz:=hext.size
  clear ho
  go_wp2_with fail
  go_loopw [5,6,22] (fun out c i wr=>∃ (k:Nat) (o:List Nat) (cc:Nat),i=.int .i64 k∧k≤ya.length∧o.length=k∧c=.int .u64 cc∧cc≤1∧Hid (OwnL 119 wc.heap.size wr out o)∧Hid (nv o+W32 ^ k*cc=nv (ya.take k)+nv (yb.take k))∧Below wc.heap.size wc wr)
   (fun _ _ i _=>ya.length - (intOf i).toNat)
  case atStart=>exact ⟨0,[],0,rfl,Nat.zero_le _,rfl,rfl,by omega,⟨HO.out,Fit.nil _⟩,by simp [Hid,val],hext⟩
  case round=>
   obtain ⟨k,o,cc,rfl,hk,hol,rfl,hcc,hO,hinv,hbel⟩:=hrel
   have hsz2:=hbel.size
   have HINV:=hinv
   clear hext hsz
   by_cases hlt:k < ya.length
   ·obtain ⟨ba,oa,rfl,hc1⟩:=HCA.out k hlt
    have hc1':=Ext.cell hbel hc1
    have FA:=HYA.out.2.nth32 k
    clear hc1
    by_cases hlt2:k < yb.length
    ·obtain ⟨bb,ob,rfl,hc2⟩:=HCB.out k hlt2
     have hc2':=Ext.cell hbel hc2
     have FB:=HYB.out.2.nth32 k
     clear hc2
     go_wp2_with (at_builtin;refine append_rd et32 rfl _ _ rfl wc.heap.size rfl (Ext.owns (Ext.alloc _ _) hO.out.1) rfl (RdV.lit _ _ _ _ 1 rfl (by unfold maxLen;omega)) (by intro u hu;simp at hu;subst hu;rfl) (by omega) (by unfold maxLen;omega) (by simp;omega) ?_)
     intro v2 w2 ho2 hb2 _
     have HO2:=Lib.hid ho2
     clear ho2
     go_wp2
     go_roundw
     case rel=>
      exact ⟨k+1,o ++ [(cc+nth ya k+nth yb k) % W32],(cc+nth ya k+nth yb k) / W32,rfl,by omega,by simp;omega,by unfold W32;go_num,by unfold W32;omega,
       OwnL.snoc HO2.out (by omega) (by unfold W32;omega) hO.out.2 (Nat.mod_lt _ (by decide)),add_step hol hinv.out rfl,(hbel.alloc hsz2 _).trans hb2⟩
     case measure=>simp [intOf] <;> omega
    ·have hy0:=Lib.hid (nth_ge yb k (by omega))
     go_wp2_with (at_builtin;refine append_rd et32 rfl _ _ rfl wc.heap.size rfl (Ext.owns (Ext.alloc _ _) hO.out.1) rfl (RdV.lit _ _ _ _ 1 rfl (by unfold maxLen;omega)) (by intro u hu;simp at hu;subst hu;rfl) (by omega) (by unfold maxLen;omega) (by simp;omega) ?_)
     intro v2 w2 ho2 hb2 _
     have HO2:=Lib.hid ho2
     clear ho2
     go_wp2
     go_roundw
     case rel=>
      exact ⟨k+1,o ++ [(cc+nth ya k) % W32],(cc+nth ya k) / W32,rfl,by omega,by simp;omega,by unfold W32;go_num,by unfold W32;omega,
       OwnL.snoc HO2.out (by omega) (by unfold W32;omega) hO.out.2 (Nat.mod_lt _ (by decide)),add_step hol hinv.out (by rw [hy0.out];rfl),(hbel.alloc hsz2 _).trans hb2⟩
     case measure=>simp [intOf] <;> omega
   ·go_wp2_with (at_builtin;refine append_rd et32 rfl _ _ rfl wc.heap.size rfl (Ext.owns (Ext.alloc _ _) hO.out.1) rfl (RdV.lit _ _ _ _ 1 rfl (by unfold maxLen;omega)) (by intro u hu;simp at hu;subst hu;rfl) (by omega) (by unfold maxLen;omega) (by simp;omega) ?_)
    intro v2 w2 ho2 hb2 _
    have HO2:=Lib.hid (OwnL.snoc (d:=cc) ho2 (by omega) rfl hO.out.2 (by unfold W32;omega))
    have hb3:Below wc.heap.size wc w2:=(hbel.alloc hsz2 _).trans hb2
    have htot:nv (o ++ [cc])=nv xa+nv xb:=by
     have h1:=hinv.out
     unfold nv at*
     rw [val_take_ge _ _ _ (by omega),val_take_ge _ _ _ (by omega)] at h1
     rw [val_snoc,hol,h1]
     exact HSUM.out
    have HT:=Lib.hid htot
    clear ho2 htot hb2
    go_wp2_with (go_at_call 76;refine (norm_any HO2.out.rd (by simp;omega)).mono ?_;rintro e w3 ⟨v3,rfl,hb4,ho3⟩)
    have HO3:=Lib.hid ho3
    clear ho3
    go_wp2
    have ho4:=HO3.out
    rw [HT.out] at ho4
    exact hR.out _ _ (Gives.mk (hb3.trans (hb4.mono hb3.size)) (ho4.mono hb3.size))
open Go.RowKit Go.Att

theorem sub_no {w:World} {va vb:Value} {xa xb:List Nat} (ha:RdL w va xa) (hb:RdL w vb xb) (hlt:nv xa < nv xb):
  Calls Tryz.prog 136 #[va,vb] w (Gives w fun v' _=>v'=.tuple #[.slice none 0 0,.bool false]):=by
 refine via fun R hR=>?_
 have HA:=Lib.hid ha
 have HB:=Lib.hid hb
 have HC:=Lib.hid (cmpN_lt hlt)
 clear ha hb hlt
 go_enter Tryz.func136,Tryz.ntmps136
 go_wp2_with fail
 refine (cmp_any HA.out HB.out).mono ?_
 rintro e w' ⟨v',rfl,hx,rfl⟩
 rw [HC.out]
 go_wp2
 exact hR.out _ _ (Gives.mk hx rfl)

theorem sub_yes {w:World} {va vb:Value} {xa xb:List Nat} (ha:RdL w va xa) (hb:RdL w vb xb) (hle:nv xb≤nv xa) (hna:xa.length≤1099511627776):
  Calls Tryz.prog 136 #[va,vb] w (Gives w fun v' w'=>∃ d,v'=.tuple #[d,.bool true]∧OwnL 119 w.heap.size w' d (limbs (nv xa - nv xb))):=by
 refine via fun R hR=>?_
 have HA:=Lib.hid ha
 have HB:=Lib.hid hb
 have HLE:=Lib.hid hle
 have hc:0≤cmpN (nv xa) (nv xb):=by
  rcases cmpN_cases (nv xa) (nv xb) with ⟨h,_⟩ | ⟨_,h⟩ | ⟨_,h⟩ <;> omega
 obtain ⟨a,ca,rfl,hla,hma,_,hca⟩:=ha.1.shape
 obtain ⟨b,cb,rfl,hlb,hmb,_,hcb⟩:=hb.1.shape
 have HCA:=Lib.hid hca
 have HCB:=Lib.hid hcb
 clear ha hb hle hca hcb
 unfold maxLen at hma hmb
 generalize hcc:cmpN (nv xa) (nv xb)=cc at*
 have HCC:=Lib.hid hcc
 clear hcc
 go_enter Tryz.func136,Tryz.ntmps136
 go_wp2_with fail
 refine (cmp_any HA.out HB.out).mono ?_
 rintro e w' ⟨v',rfl,hx,rfl⟩
 rw [HCC.out]
 go_wp2_with (at_make;refine make_ints et32 rfl _ _ rfl _ _ xa.length rfl rfl (by omega) (by unfold maxLen;omega) ?_)
 intro w1 ho hext
 have HO:=Lib.hid ho
 have hsz:=hext.size
 have hx0:=Ext.trans hx hext
 have hsz0:=hx.size
 clear ho
 go_wp2_with fail
 go_loopw [7,20] (fun c i wr=>∃ (k:Nat) (o:List Nat) (cc:Nat),i=.int .i64 k∧k≤xa.length∧o.length=xa.length∧c=.int .i64 cc∧cc≤1∧Hid (OwnL 119 w.heap.size wr (.slice (some ⟨w'.heap.size,0,none⟩) xa.length xa.length) o)∧Hid (nv (xa.take k)+W32 ^ k*cc=nv (o.take k)+nv (xb.take k))∧Ext w wr)
  (fun _ i _=>xa.length - (intOf i).toNat)
 case atStart=>exact ⟨0,zeros xa.length,0,rfl,Nat.zero_le _,len_zeros _,rfl,by omega,⟨HO.out.mono hsz0,fit_zeros _ (by decide)⟩,by simp [Hid,val],hx0⟩
 case round=>
  obtain ⟨k,o,c,rfl,hk,hol,rfl,hc1,hO,hinv,hbel⟩:=hrel
  have hsz2:=hbel.size
  clear hext hsz hx hx0
  by_cases hlt:k < xa.length
  ·obtain ⟨ba,oa,rfl,hc1⟩:=HCA.out k hlt
   have hc1':=Ext.cell hbel hc1
   have FA:=HA.out.2.nth32 k
   have hs1:=hO.out.1.cellAt k (by omega)
   have hs2:=hO.out.1.free k
   clear hc1
   by_cases hlt2:k < xb.length
   ·obtain ⟨bb,ob,rfl,hc2⟩:=HCB.out k hlt2
    have hc2':=Ext.cell hbel hc2
    have FB:=HB.out.2.nth32 k
    clear hc2
    by_cases hneg:(nth xa k:Int) - c - nth xb k < 0
    ·have hlo : -4294967296≤(nth xa k:Int) - c - nth xb k:=by omega
     go_wp2
     go_roundw
     case rel=>
      exact ⟨k+1,o.set k (nth xa k+4294967296 - c - nth xb k),1,rfl,by omega,by rw [len_set];exact hol,rfl,by omega,OwnL.set hO.out k (by omega) (by unfold W32;omega),sub_step (by omega) hinv.out (by unfold W32;omega),hbel.setCell hsz0 _⟩
     case measure=>simp [intOf] <;> omega
    ·have hlo:0≤(nth xa k:Int) - c - nth xb k:=by omega
     go_wp2
     go_roundw
     case rel=>
      exact ⟨k+1,o.set k (nth xa k - c - nth xb k),0,rfl,by omega,by rw [len_set];exact hol,rfl,by omega,OwnL.set hO.out k (by omega) (by unfold W32;omega),sub_step (by omega) hinv.out (by unfold W32;omega),hbel.setCell hsz0 _⟩
     case measure=>simp [intOf] <;> omega
   ·have hy0:=Lib.hid (nth_ge xb k (by omega))
    by_cases hneg:(nth xa k:Int) - c < 0
    ·have hlo : -4294967296≤(nth xa k:Int) - c:=by omega
     go_wp2
     go_roundw
     case rel=>
      exact ⟨k+1,o.set k (nth xa k+4294967296 - c),1,rfl,by omega,by rw [len_set];exact hol,rfl,by omega,OwnL.set hO.out k (by omega) (by unfold W32;omega),sub_step (by omega) hinv.out (by rw [hy0.out];unfold W32;omega),hbel.setCell hsz0 _⟩
     case measure=>simp [intOf] <;> omega
    ·have hlo:0≤(nth xa k:Int) - c:=by omega
     go_wp2
     go_roundw
     case rel=>
      exact ⟨k+1,o.set k (nth xa k - c),0,rfl,by omega,by rw [len_set];exact hol,rfl,by omega,OwnL.set hO.out k (by omega) (by unfold W32;omega),sub_step (by omega) hinv.out (by rw [hy0.out];unfold W32;omega),hbel.setCell hsz0 _⟩
     case measure=>simp [intOf] <;> omega
  ·obtain rfl:k=xa.length:=by omega
   have E:=Lib.hid (sub_end hO.out.2 HA.out.2 hol HLE.out hinv.out)
   go_wp2_with (go_at_call 76;refine (norm_any hO.out.rd (by omega)).mono ?_;rintro e w3 ⟨v3,rfl,hb4,ho3⟩)
   have HO3:=Lib.hid ho3
   clear ho3
   go_wp2
   have ho4:=HO3.out
   rw [E.out] at ho4
   exact hR.out _ _ (Gives.mk (Ext.trans hbel hb4) ⟨_,rfl,ho4.mono hbel.size⟩)
open Go.RowKit Go.Att

theorem shiftOK_yes {w:World} {n:Int} (h0:0≤n) (h1:n≤100000):
  Calls Tryz.prog 164 #[.int .i64 n] w fun e w'=>e=.returned (.bool true)∧w=w':=by
 refine via fun R hR=>?_
 go_enter Tryz.func164,Tryz.ntmps164
 have h2:decide (n≤100000)=true:=by simpa using h1
 go_wp2
 all_goals exact hR.out _ _ ⟨rfl,rfl⟩
theorem shl_any {w:World} {va:Value} {xs:List Nat} (n:Nat) (hn:n≤100000) (ha:RdL w va xs) (hl:xs.length≤1099511627776):
  Calls Tryz.prog 150 #[va,.int .i64 n] w (Gives w fun v' w'=>∃ d,v'=.tuple #[d,.bool true]∧OwnL 119 w.heap.size w' d (limbs (nv xs*2 ^ n))):=by
 refine via fun R hR=>?_
 have HA:=Lib.hid ha
 obtain ⟨a,ca,rfl,hla,hma,_,hca⟩:=ha.1.shape
 have HCA:=Lib.hid hca
 clear ha hca
 unfold maxLen at hma
 have hs:n % 32 < 32:=Nat.mod_lt _ (by decide)
 have hq:n / 32≤3125:=by omega
 go_enter Tryz.func150,Tryz.ntmps150
 go_wp2_with fail
 refine (shiftOK_yes (by omega) (by omega)).mono ?_
 rintro e w' ⟨rfl,rfl⟩
 go_wp2_with (at_make;refine make_ints_lc et32 rfl _ _ rfl (n / 32) (n / 32+xs.length+1) rfl rfl (by omega) (by omega) (by omega) (by omega) (by unfold maxLen;omega) ?_)
 intro w1 ho hext
 have HO:=Lib.hid ho
 have hsz:=hext.size
 clear ho
 go_wp2_with fail
 go_loopw [6,7,24] (fun out c i wr=>∃ (k:Nat) (o:List Nat) (cc:Nat),i=.int .i64 k∧k≤xs.length∧o.length=n / 32+k∧c=.int .u64 cc∧cc≤2147483647∧Hid (cc < 2 ^ (n % 32))∧Hid (OwnL 119 w.heap.size wr out o)∧Hid (nv o+W32 ^ (n / 32+k)*cc=W32 ^ (n / 32)*2 ^ (n % 32)*nv (xs.take k))∧Ext w wr)
  (fun _ _ i _=>xs.length - (intOf i).toNat)
 case atStart=>exact ⟨0,zeros (n / 32),0,rfl,Nat.zero_le _,len_zeros _,rfl,by omega,Nat.two_pow_pos _,⟨HO.out,fit_zeros _ (by decide)⟩,by simp [Hid,nv,zeros,val_zeros],hext⟩
 case round=>
  obtain ⟨k,o,c,rfl,hk,hol,rfl,hc0,hc1,hO,hinv,hbel⟩:=hrel
  have hsz2:=hbel.size
  clear hext hsz
  by_cases hlt:k < xs.length
  ·obtain ⟨ba,oa,rfl,hc2⟩:=HCA.out k hlt
   have hc2':=Ext.cell hbel hc2
   have FA:=HA.out.2.nth32 k
   clear hc2
   have hp:=pow_lt_32 hs
   have hm:nth xs k*2 ^ (n % 32)≤4294967295*2147483648:=Nat.mul_le_mul FA hp
   have hor:=or_sum (hi:=nth xs k) hc1.out
   have hcar:=shl_carry hc1.out FA rfl
   generalize hY:nth xs k*2 ^ (n % 32)=Y at*
   have HY:=Lib.hid hY
   have HOR:=Lib.hid hor
   have HCAR:=Lib.hid hcar
   clear hY hor hp hcar
   go_wp2_with (first
    | (refine op_shl rfl rfl (nth xs k) (n % 32) Y rfl rfl rfl (by omega) rfl (by show _≤64;omega) HY.out (by show _ < 18446744073709551616;omega) ?_)
    | (refine op_or rfl rfl c Y (c+Y) rfl rfl rfl rfl rfl (by show _ < 18446744073709551616;omega) (by show _ < 18446744073709551616;omega) HOR.out ?_)
    | (at_builtin;refine append_rd et32 rfl _ _ rfl w.heap.size rfl (Ext.owns (Ext.alloc _ _) hO.out.1) rfl (RdV.lit _ _ _ _ 1 rfl (by unfold maxLen;omega)) (by intro u hu;simp at hu;subst hu;rfl) (by omega) (by unfold maxLen;omega) (by simp;omega) ?_))
   intro v2 w2 ho2 hb2 _
   have HO2:=Lib.hid ho2
   clear ho2
   go_wp2
   go_roundw
   case rel=>
    have hY:=HY.out
    exact ⟨k+1,o ++ [(c+Y) % W32],(c+Y) / W32,rfl,by omega,by simp;omega,by unfold W32;go_num,by unfold W32;omega,HCAR.out,
     OwnL.snoc HO2.out (by omega) (by unfold W32;omega) hO.out.2 (Nat.mod_lt _ (by decide)),shl_step hol hinv.out (by rw [hY]),(Below.alloc hbel hsz2 _).trans hb2⟩
   case measure=>simp [intOf] <;> omega
  ·obtain rfl:k=xs.length:=by omega
   have htot:=Lib.hid (shl_end hol hinv.out)
   go_wp2_with (at_builtin;refine append_rd et32 rfl _ _ rfl w.heap.size rfl (Ext.owns (Ext.alloc _ _) hO.out.1) rfl (RdV.lit _ _ _ _ 1 rfl (by unfold maxLen;omega)) (by intro u hu;simp at hu;subst hu;rfl) (by omega) (by unfold maxLen;omega) (by simp;omega) ?_)
   intro v2 w2 ho2 hb2 _
   have HO2:=Lib.hid (OwnL.snoc (d:=c) ho2 (by omega) rfl hO.out.2 (by unfold W32;omega))
   have hb3:Below w.heap.size w w2:=(Below.alloc hbel hsz2 _).trans hb2
   clear ho2 hb2
   go_wp2_with (go_at_call 76;refine (norm_any HO2.out.rd (by simp;omega)).mono ?_;rintro e w3 ⟨v3,rfl,hb4,ho3⟩)
   have HO3:=Lib.hid ho3
   clear ho3
   go_wp2
   have ho4:=HO3.out
   rw [htot.out] at ho4
   exact hR.out _ _ (Gives.mk (hb3.trans (hb4.mono hb3.size)) ⟨_,rfl,ho4.mono hb3.size⟩)
open Go.RowKit Go.Att

theorem shr_any {w:World} {va:Value} {xs:List Nat} (n:Nat) (hn:n≤100000) (ha:RdL w va xs) (hl:xs.length≤1099511627776):
  Calls Tryz.prog 153 #[va,.int .i64 n] w (Gives w fun v' w'=>∃ d,v'=.tuple #[d,.bool true]∧OwnL 119 w.heap.size w' d (limbs (nv xs / 2 ^ n))):=by
 refine via fun R hR=>?_
 have HA:=Lib.hid ha
 obtain ⟨a,ca,rfl,hla,hma,_,hca⟩:=ha.1.shape
 have HCA:=Lib.hid hca
 clear ha hca
 unfold maxLen at hma
 have hs:n % 32 < 32:=Nat.mod_lt _ (by decide)
 have hq:n / 32≤3125:=by omega
 by_cases hbig:xs.length≤n / 32
 ·have E:=Lib.hid (shr_zero HA.out.2 hbig)
  go_enter Tryz.func153,Tryz.ntmps153
  go_wp2_with fail
  refine (shiftOK_yes (by omega) (by omega)).mono ?_
  rintro e w' ⟨rfl,rfl⟩
  go_wp2
  exact hR.out _ _ (Gives.mk (Ext.refl _) ⟨_,rfl,by rw [E.out];unfold limbs;rw [digs_zero];exact ⟨OwnI.nil _ _ _ _,Fit.nil _⟩⟩)
 ·obtain ⟨ba,oa,rfl,_⟩:=HCA.out (n / 32) (by omega)
  have HCB:=Lib.hid (fun i (hi:n / 32+i < xs.length)=>HA.out.1.cell (n / 32+i) hi)
  go_enter Tryz.func153,Tryz.ntmps153
  go_wp2_with fail
  refine (shiftOK_yes (by omega) (by omega)).mono ?_
  rintro e w' ⟨rfl,rfl⟩
  go_wp2_with (at_make;refine make_ints et32 rfl _ _ rfl _ _ (xs.length - n / 32) rfl rfl (by omega) (by unfold maxLen;omega) ?_)
  intro w1 ho hext
  have HO:=Lib.hid ho
  have hsz:=hext.size
  have HBIG:=Lib.hid hbig
  have hbig2:n / 32 < xs.length:=by omega
  clear ho
  go_wp2_with fail
  go_loopw [26] (fun i wr=>∃ (k:Nat) (o:List Nat),i=.int .i64 k∧k≤xs.length - n / 32∧o.length=xs.length - n / 32∧Hid (OwnL 119 w.heap.size wr (.slice (some ⟨w.heap.size,0,none⟩) (xs.length - n / 32) (xs.length - n / 32)) o)∧Hid (nv (o.take k)=nv (xs.drop (n / 32)) / 2 ^ (n % 32) % W32 ^ k)∧Ext w wr)
   (fun i _=>xs.length - n / 32 - (intOf i).toNat)
  case atStart=>exact ⟨0,zeros (xs.length - n / 32),rfl,Nat.zero_le _,len_zeros _,⟨HO.out,fit_zeros _ (by decide)⟩,by simp [Hid,nv,val,Nat.mod_one],hext⟩
  case round=>
   obtain ⟨k,o,rfl,hk,hol,hO,hinv,hbel⟩:=hrel
   have hsz2:=hbel.size
   clear hext hsz
   by_cases hlt:k < xs.length - n / 32
   ·have hc1:=Ext.cell hbel (HCB.out k (by omega))
    rw [← Nat.add_assoc] at hc1
    have FA:=HA.out.2.nth32 (n / 32+k)
    have hs1:=hO.out.1.cellAt k (by omega)
    have hs2:=hO.out.1.free k
    by_cases hlt2:k+1 < xs.length - n / 32
    ·have hc2:=Ext.cell hbel (HCB.out (k+1) (by omega))
     rw [← Nat.add_assoc] at hc2
     have FB:=HA.out.2.nth32 (n / 32+(k+1))
     have hor:=Lib.hid (or_sum (s:=32) (lo:=nth xs (n / 32+k)) (hi:=nth xs (n / 32+(k+1))) (by omega))
     have hD:=Lib.hid (rfl:(nth xs (n / 32+k)+nth xs (n / 32+(k+1))*4294967296) / 2 ^ (n % 32)=_)
     go_wp2_with (first
      | (refine op_shl rfl rfl (nth xs (n / 32+(k+1))) 32 (nth xs (n / 32+(k+1))*4294967296) rfl rfl rfl rfl rfl (by decide) rfl (by show _ < 18446744073709551616;omega) ?_)
      | (refine op_or rfl rfl (nth xs (n / 32+k)) (nth xs (n / 32+(k+1))*4294967296) (nth xs (n / 32+k)+nth xs (n / 32+(k+1))*4294967296) rfl rfl rfl (by go_num) rfl (by show _ < 18446744073709551616;omega) (by show _ < 18446744073709551616;omega) hor.out ?_)
      | (refine op_shr rfl rfl (nth xs (n / 32+k)+nth xs (n / 32+(k+1))*4294967296) (n % 32) _ rfl rfl (by go_num) rfl (by show _≤64;omega) hD.out ?_))
     go_roundw
     case rel=>
      exact ⟨k+1,o.set k ((nth xs (n / 32+k)+nth xs (n / 32+(k+1))*4294967296) / 2 ^ (n % 32) % W32),rfl,by omega,by rw [len_set];exact hol,
       OwnL.set hO.out k (by unfold W32;go_num) (Nat.mod_lt _ (by decide)),shr_step hs (HA.out.2.drop _) (by rw [List.length_drop];exact hlt) (by rw [List.length_drop];exact hol) hinv.out (by rw [nth_drop,nth_drop]),Below.setCell hbel (Nat.le_refl _) _⟩
     case measure=>simp [intOf] <;> omega
    ·have hor:=Lib.hid (nth_ge xs (n / 32+(k+1)) (by omega))
     have hD:=Lib.hid (rfl:nth xs (n / 32+k) / 2 ^ (n % 32)=_)
     go_wp2_with (refine op_shr rfl rfl (nth xs (n / 32+k)) (n % 32) _ rfl rfl rfl rfl (by show _≤64;omega) hD.out ?_)
     go_roundw
     case rel=>
      exact ⟨k+1,o.set k (nth xs (n / 32+k) / 2 ^ (n % 32) % W32),rfl,by omega,by rw [len_set];exact hol,
       OwnL.set hO.out k (by unfold W32;go_num) (Nat.mod_lt _ (by decide)),shr_step hs (HA.out.2.drop _) (by rw [List.length_drop];exact hlt) (by rw [List.length_drop];exact hol) hinv.out (by rw [nth_drop,nth_drop,hor.out];simp),Below.setCell hbel (Nat.le_refl _) _⟩
     case measure=>simp [intOf] <;> omega
   ·obtain rfl:k=xs.length - n / 32:=by omega
    have E:=Lib.hid (shr_end HA.out.2 hol hinv.out)
    go_wp2_with (go_at_call 76;refine (norm_any hO.out.rd (by omega)).mono ?_;rintro e w3 ⟨v3,rfl,hb4,ho3⟩)
    have HO3:=Lib.hid ho3
    clear ho3
    go_wp2
    have ho4:=HO3.out
    rw [E.out] at ho4
    exact hR.out _ _ (Gives.mk (Ext.trans hbel hb4) ⟨_,rfl,ho4.mono hbel.size⟩)
end Go.Proofs.YtdooldpgnjmpfaaGreatDoor
