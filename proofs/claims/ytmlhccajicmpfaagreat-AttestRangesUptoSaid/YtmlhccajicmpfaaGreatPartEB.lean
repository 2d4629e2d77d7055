/- A group of texts: PWidthsR, PR19Check, PR19Small -/
import Derived.Test.YtmlhccajicmpfaaGreatSq
import Derived.Test.YtmlhccajicmpfaaGreatPartDA
import Derived.Test.YtmlhccajicmpfaaGreatPartDC
import Derived.Test.YtmlhccajicmpfaaGreatPartDJ
import Derived.Test.YtmlhccajicmpfaaGreatPartDE
import Derived.Test.YtmlhccajicmpfaaGreatPTold15
set_option maxHeartbeats 40000000
set_option maxRecDepth 100000
set_option linter.unusedSimpArgs false
namespace Go.Proofs.YtmlhccajicmpfaaGreat
open Go.RowKit Go.Att

theorem r15widthsL_any {ν:Type} {T:World→Value→ν→Prop} {w:World} {v:Value} {n:Nt ν} (hv0:RdNet T w v n) (hl:lit n):
  Calls Tryz.prog 30 #[v] w (Gives w fun v' w'=>∃ a m c,v'=.tuple #[.slice a m c,.int .i64 (if 0 < wds n.2 n.1 then 0 else 4)]∧(0 < wds n.2 n.1→OwnRow 1 IntT 3 0 w' (.slice a m c) (wlL n.2 n.1 n.2.length))):=by
 refine via fun R hR=>?_
 have hv:=hv0.mono (S:=fun _ _ _=>True) fun _ _ _=>trivial
 obtain ⟨z,ls⟩:=n
 obtain ⟨a,c,rfl,hlc,hcm,hr⟩:=hv.op
 have HV:=qH hr
 have HZ:Hid (ls.length≤3):=hl.2.1
 have hz4:z≤4:=hl.1
 have HLT:Hid (∀ l∈ls,litL l):=hl.2.2
 dsimp only at hlc hcm HV hR
 unfold maxLen at hcm
 clear hv hv0 hr hl
 obtain ⟨w1,hw1,b1,c1,-,-⟩:=bx1 w [.int .i64 z,.slice a ls.length c] 60
 have HW:=qH hw1
 have C1:=qH c1
 obtain ⟨j0,j1⟩:=c1.c2
 have hi3:=HZ.out
 have hd1:=dF ((32:Int) < z)
 have hd2:=dF ((16:Int) < (ls.length:Int))
 clear hw1 c1
 go_enter Tryz.func30,Tryz.ntmps30
 go_upto_region 1 with (fail)
 rw [← HW.out]
 clear HW
 go_upto_region 3 with (fail)
 clear hd1 hd2
 go_wp2_with fail
 go_loopw [32] (fun t wr=>∃ i:Nat,t=.int .i64 i∧i≤ls.length∧Hid (Ext w1 wr)) (fun t _=>ls.length - (intOf t).toNat)
 case atStart=>exact ⟨0,rfl,Nat.zero_le _,Ext.refl _⟩
 case round=>
  clear j0 j1
  obtain ⟨i,rfl,hi,hX⟩:=hrel
  obtain ⟨wo,hwo⟩:∃ w0:World,w0=wr:=⟨_,rfl⟩
  subst hwo
  by_cases hlt:i < ls.length
  ·have HUS:Hid True:=trivial
   have hd:=dT ((i:Int) < (ls.length:Int))
   have HJ1:IntKind.i64.wrap ((i:Int)+1)=((i+1:Nat):Int):=by rw [IntKind.wrap_i64];omega
   have HI2:(0:Int)≤(i:Int)∧(i:Int) < (ls.length:Int):=⟨by omega,by omega⟩
   have hxw:=eT b1 hX.out
   obtain ⟨bL,oL,ax,mx',ay,my,az,mz,hae,hbo,hRW,hRB,hRG⟩:=(HV.out.ext (fun h x=>RdLay.ext h (fun _ _=>trivial) x) hxw).lay i hlt
   subst hae
   have HLL:Hid (litL ls[i]):=HLT.out _ (List.getElem_mem hlt)
   have HWT:=qH (wds_take ls z i hlt)
   have HBD:Hid (NotW ls z (0 < wdt ls[i] (wds (ls.take i) z))):=wds_bad (z:=z) hlt
   obtain ⟨l,hl⟩:∃ l,ls[i]=l:=⟨_,rfl⟩
   rw [hl] at hbo hRW hRB hRG HLL HWT HBD
   clear hl
   obtain ⟨u0,u1,u2,u3⟩:=hbo.c4
   obtain ⟨w4,hw4,b4,c4,-,-⟩:=bx1 wo [.int .i64 l.K,.slice ax l.W.length mx',.slice ay l.B.length my,.slice az l.G.length mz] 124
   have HW:=qH hw4
   have C4:=qH c4
   have HRW:=qH (hRW.ext (fun h x=>RowT.ext h (fun _ _=>trivial) x) b4)
   have HRG:=qH (hRG.ext (fun h x=>RowT.ext h IntT.ext x) b4)
   clear hw4 c4 hRW hRB hRG hbo
   go_upto_region 6 with (fail)
   rw [← HW.out]
   clear HW u0 u1 u2 u3
   obtain ⟨u0,u1,u2,u3⟩:=C4.out.c4
   have hw32:decide ((32:Int) < (l.W.length:Int))=false:=decide_eq_false (by have:=HLL.out.1;omega)
   have hg32:decide ((32:Int) < (l.G.length:Int))=false:=decide_eq_false (by have:=HLL.out.1;omega)
   obtain ⟨K,hK⟩:∃ K,l.K=K:=⟨_,rfl⟩
   rw [hK] at u0 C4
   clear hK
   by_cases h1:K=1
   ·have he1:(K == 1)=true:=by rw [h1];rfl
    have he3:(K == 3)=false:=by rw [h1];rfl
    clear h1 hg32
    go_wp2_with fail
    clear u0 u1 u2 u3
    go_loopw [46] (fun t wr=>∃ j:Nat,t=.int .i64 j∧j≤l.W.length∧Hid (Ext w4 wr)) (fun t _=>l.W.length - (intOf t).toNat)
    case atStart=>exact ⟨0,rfl,Nat.zero_le _,Ext.refl _⟩
    case round=>
     obtain ⟨j,rfl,hj,hX5⟩:=hrel
     obtain ⟨w5,hw5⟩:∃ w0:World,w0=wr:=⟨_,rfl⟩
     subst hw5
     have hlw:=HLL.out.1.1
     by_cases hjl:j < l.W.length
     ·have hd1:=dT ((j:Int) < (l.W.length:Int))
      have HK1:IntKind.i64.wrap ((j:Int)+1)=((j+1:Nat):Int):=by rw [IntKind.wrap_i64];omega
      have HK2:(0:Int)≤(j:Int)∧(j:Int) < (l.W.length:Int):=⟨by omega,by omega⟩
      obtain ⟨bW,oW,xr,mr,hxe,hcell,-⟩:=HRW.out.row j hjl
      subst hxe
      replace hcell:=Ext.cell hX5.out hcell
      have hd2:decide ((32:Int) < (l.W[j].length:Int))=false:=decide_eq_false (by have:=HLL.out.2.1 _ (List.getElem_mem hjl);omega)
      generalize l.W[j].length=q at*
      go_wp2_with fail
      go_roundw
      case rel=>exact ⟨j+1,by go_num,by omega,hX5⟩
      simp [intOf]<;>omega
     obtain rfl:j=l.W.length:=by omega
     have hd1:=dF ((l.W.length:Int) < (l.W.length:Int))
     obtain ⟨u0,u1,u2,u3⟩:=(C4.out.ext hX5.out).c4
     go_wp2_with fail
     go_roundw
     case rel=>exact ⟨i+1,by go_num,by omega,eT hX.out (eT b4 hX5.out)⟩
     simp [intOf]<;>omega
   have he1:(K == 1)=false:=beq_false_of_ne h1
   by_cases h3:K=3
   ·have he3:(K == 3)=true:=by rw [h3];rfl
    clear h1 h3 hw32
    go_wp2_with fail
    clear u0 u1 u2 u3
    go_loopw [64] (fun t wr=>∃ j:Nat,t=.int .i64 j∧j≤l.G.length∧Hid (Ext w4 wr)) (fun t _=>l.G.length - (intOf t).toNat)
    case atStart=>exact ⟨0,rfl,Nat.zero_le _,Ext.refl _⟩
    case round=>
     obtain ⟨j,rfl,hj,hX5⟩:=hrel
     obtain ⟨w5,hw5⟩:∃ w0:World,w0=wr:=⟨_,rfl⟩
     subst hw5
     have hlw:=HLL.out.1.2.2
     by_cases hjl:j < l.G.length
     ·have hd1:=dT ((j:Int) < (l.G.length:Int))
      have HK1:IntKind.i64.wrap ((j:Int)+1)=((j+1:Nat):Int):=by rw [IntKind.wrap_i64];omega
      have HK2:(0:Int)≤(j:Int)∧(j:Int) < (l.G.length:Int):=⟨by omega,by omega⟩
      obtain ⟨bW,oW,xr,mr,hxe,hcell,-⟩:=HRG.out.row j hjl
      subst hxe
      replace hcell:=Ext.cell hX5.out hcell
      have hd2:decide ((32:Int) < (l.G[j].length:Int))=false:=decide_eq_false (by have:=HLL.out.2.2 _ (List.getElem_mem hjl);omega)
      generalize l.G[j].length=q at*
      go_wp2_with fail
      go_roundw
      case rel=>exact ⟨j+1,by go_num,by omega,hX5⟩
      simp [intOf]<;>omega
     obtain rfl:j=l.G.length:=by omega
     have hd1:=dF ((l.G.length:Int) < (l.G.length:Int))
     obtain ⟨u0,u1,u2,u3⟩:=(C4.out.ext hX5.out).c4
     go_wp2_with fail
     go_roundw
     case rel=>exact ⟨i+1,by go_num,by omega,eT hX.out (eT b4 hX5.out)⟩
     simp [intOf]<;>omega
   have he3:(K == 3)=false:=beq_false_of_ne h3
   clear h1 h3
   go_wp2_with fail
   go_roundw
   case rel=>exact ⟨i+1,by go_num,by omega,eT hX.out b4⟩
   simp [intOf]<;>omega
  obtain rfl:i=ls.length:=by omega
  have hd:=dF ((ls.length:Int) < (ls.length:Int))
  obtain ⟨j0,j1⟩:=(C1.out.ext hX.out).c2
  by_cases hz1:z < 1
  ·have hdz:decide (z < 1)=true:=decide_eq_true hz1
   have HE:Hid (¬ 0 < wds ls z):=fun h=>by
    have:=wds_pos h 0 (Nat.zero_le _)
    rw [List.take_zero] at this
    unfold wds at this
    omega
   have HNW:=HE
   rw [if_neg HE.out] at hR
   clear HE hz1
   go_wp2_with fail
   exact hR.out _ _ (Gives.mk (eT b1 hX.out) ⟨_,_,_,rfl,fun h=>absurd h (by have:=HNW.out;omega)⟩)
  have hdz:decide (z < 1)=false:=decide_eq_false hz1
  have HZ1:Hid (0 < z):=by show _ < _;omega
  clear hz1
  go_upto_region 27 with (fail)
  clear hd hdz
  go_cut [10] (fun s10 wx=>Ext wo wx∧Hid (OwnRow 1 IntT 3 wo.heap.size wx s10 [z]))
  case first=>
   go_wp2_with fail
   go_meet
   exact ⟨Ext.alloc _ _,qH (OwnRow.litOne (T:=IntT) IntT.ext _ (w:=wo) (cs:=[.int .i64 z]) (y:=z) (Nat.le_refl _) rfl rfl)⟩
  case rest=>
   obtain ⟨hX3,hO3⟩:=hcut
   obtain ⟨w3,hw3⟩:∃ w0:World,w0=wc:=⟨_,rfl⟩
   subst hw3
   clear j0 j1
   have hX13:=qH (eT hX.out hX3)
   have hB13:Hid (w1.heap.size≤wo.heap.size):=Below.size hX.out
   obtain ⟨j0,j1⟩:=(C1.out.ext hX13.out).c2
   go_wp2_with fail
   clear j0 j1
   go_loopw [10,11,84] (fun s10 s11 t wr=>∃ i:Nat,s11=.int .i64 (wds (ls.take i) z)∧t=.int .i64 i∧i≤ls.length∧Hid (Ext w1 wr)∧Hid (0 < wds (ls.take i) z)∧Hid (OwnRow 1 IntT 3 w1.heap.size wr s10 (wlL ls z i))) (fun _ _ t _=>ls.length - (intOf t).toNat)
   case atStart=>exact ⟨0,rfl,rfl,Nat.zero_le _,hX13,HZ1,hO3.out.mono hB13.out⟩
   case round=>
    clear hX hX3 hO3 hX13 hB13 hi
    obtain ⟨i,rfl,rfl,hi,hX,hPO,hO⟩:=hrel
    have hol:Hid ((wlL ls z i).length=i+1):=wlL_len
    have HWS:=qH (wlL_succ (ls:=ls) (z:=z) (i:=i))
    obtain ⟨o,ho⟩:∃ o,wlL ls z i=o:=⟨_,rfl⟩
    have HOL:=qH ho
    rw [ho] at hO hol HWS
    clear ho
    obtain ⟨wo,hwo⟩:∃ w0:World,w0=wr:=⟨_,rfl⟩
    subst hwo
    obtain ⟨a5,k5,hv5,-,-⟩:=hO.out.rd.shape
    generalize o.length=no at hv5
    subst hv5
    by_cases hlt:i < ls.length
    ·have HUS:Hid True:=trivial
     have hd:=dT ((i:Int) < (ls.length:Int))
     have HJ1:IntKind.i64.wrap ((i:Int)+1)=((i+1:Nat):Int):=by rw [IntKind.wrap_i64];omega
     have HI2:(0:Int)≤(i:Int)∧(i:Int) < (ls.length:Int):=⟨by omega,by omega⟩
     have hxw:=eT b1 hX.out
     obtain ⟨bL,oL,ax,mx',ay,my,az,mz,hae,hbo,hRW,hRB,hRG⟩:=(HV.out.ext (fun h x=>RdLay.ext h (fun _ _=>trivial) x) hxw).lay i hlt
     subst hae
     have HLL:Hid (litL ls[i]):=HLT.out _ (List.getElem_mem hlt)
     have HWT:=qH (wds_take ls z i hlt)
     have HBD:Hid (NotW ls z (0 < wdt ls[i] (wds (ls.take i) z))):=wds_bad (z:=z) hlt
     obtain ⟨l,hl⟩:∃ l,ls[i]=l:=⟨_,rfl⟩
     rw [hl] at hbo hRW hRB hRG HLL HWT HBD
     clear hl
     obtain ⟨u0,u1,u2,u3⟩:=hbo.c4
     obtain ⟨w4,hw4,b4,c4,-,-⟩:=bx1 wo [.int .i64 l.K,.slice ax l.W.length mx',.slice ay l.B.length my,.slice az l.G.length mz] 124
     have HW:=qH hw4
     have C4:=qH c4
     have HRW:=qH (hRW.ext (fun h x=>RowT.ext h (fun _ _=>trivial) x) b4)
     have HRG:=qH (hRG.ext (fun h x=>RowT.ext h IntT.ext x) b4)
     clear hw4 c4 hRW hRB hRG hbo
     rw [if_pos hPO.out] at HWT
     have HOO:=qH (hO.out.ext IntT.ext b4)
     go_upto_region 32 with (fail)
     rw [← HW.out]
     clear HW u0 u1 u2 u3
     obtain ⟨u0,u1,u2,u3⟩:=C4.out.c4
     generalize hs2:wds (ls.take (i+1)) z=s2 at HWT
     have HS2:=qH hs2
     clear hs2
     generalize wds (ls.take i) z=s at*
     have X14:=qH (eT hX.out b4)
     have hlw:=HLL.out.1
     obtain ⟨K,hK⟩:∃ K,l.K=K:=⟨_,rfl⟩
     have HKE:=qH hK
     rw [hK] at u0 C4
     clear hK
     by_cases h1:K=1
     ·have he1:(K == 1)=true:=by rw [h1];rfl
      have HW1:Hid (l.K=1):=by show _=_;rw [HKE.out,h1]
      clear h1
      by_cases hw0:l.W.length=0
      ·have hq0:((l.W.length:Int) == 0)=true:=by rw [hw0];rfl
       have HNW:Hid (¬ 0 < wds ls z):=NotW.no HBD.out fun h=>by have:=(wdt_k1 HW1.out h).2.2;omega
       rw [if_neg HNW.out] at hR
       clear hw0
       go_wp2_with fail
       exact hR.out _ _ (Gives.mk (eT b1 X14.out) ⟨_,_,_,rfl,fun h=>absurd h (by have:=HNW.out;omega)⟩)
      have hq0:((l.W.length:Int) == 0)=false:=beq_false_of_ne oM
      by_cases hbw:l.B.length=l.W.length
      ·have hq1:((l.B.length:Int) != (l.W.length:Int))=false:=by rw [hbw];exact bne_self_eq_false _
       have HBW:=qH hbw
       have HW0:Hid (0 < l.W.length):=by show _ < _;omega
       clear hw0 hbw
       go_wp2_with fail
       clear u0 u1 u2 u3 hq0 hq1
       go_loopw [108] (fun t wr=>∃ j:Nat,t=.int .i64 j∧j≤l.W.length∧Hid (Ext w4 wr)∧Hid (∀ r∈l.W.take j,(r.length:Int)=s)) (fun t _=>l.W.length - (intOf t).toNat)
       case atStart=>exact ⟨0,rfl,Nat.zero_le _,Ext.refl _,by rw [List.take_zero];exact fun _ h=>by cases h⟩
       case round=>
        obtain ⟨j,rfl,hj,hX5,hA⟩:=hrel
        obtain ⟨w5,hw5⟩:∃ w0:World,w0=wr:=⟨_,rfl⟩
        subst hw5
        by_cases hjl:j < l.W.length
        ·have hd1:=dT ((j:Int) < (l.W.length:Int))
         have HK1:IntKind.i64.wrap ((j:Int)+1)=((j+1:Nat):Int):=by rw [IntKind.wrap_i64];omega
         have HK2:(0:Int)≤(j:Int)∧(j:Int) < (l.W.length:Int):=⟨by omega,by omega⟩
         obtain ⟨bW,oW,xr,mr,hxe,hcell,-⟩:=HRW.out.row j hjl
         subst hxe
         replace hcell:=Ext.cell hX5.out hcell
         by_cases hrl:(l.W[j].length:Int)=s
         ·have hd2:((l.W[j].length:Int) != s)=false:=by rw [hrl];exact bne_self_eq_false _
          have HTK:Hid (∀ r∈l.W.take (j+1),(r.length:Int)=s):=fun r hr=>by
           rw [← List.take_append_getElem hjl] at hr
           exact (List.mem_append.1 hr).elim (fun h=>hA.out r h) fun h=>by rw [List.mem_singleton.1 h];exact hrl
          clear hrl
          generalize l.W[j].length=q at*
          go_wp2_with fail
          go_roundw
          case rel=>exact ⟨j+1,by go_num,by omega,hX5,HTK⟩
          simp [intOf]<;>omega
         have hd2:((l.W[j].length:Int) != s)=true:=by simp [hrl]
         have HNW:Hid (¬ 0 < wds ls z):=NotW.no HBD.out fun h=>hrl ((wdt_k1 HW1.out h).2.1 _ (List.getElem_mem hjl))
         rw [if_neg HNW.out] at hR
         clear hrl
         generalize l.W[j].length=q at*
         go_wp2_with fail
         exact hR.out _ _ (Gives.mk (eT b1 (eT X14.out hX5.out)) ⟨_,_,_,rfl,fun h=>absurd h (by have:=HNW.out;omega)⟩)
        obtain rfl:j=l.W.length:=by omega
        have hd1:=dF ((l.W.length:Int) < (l.W.length:Int))
        rw [List.take_length] at hA
        obtain ⟨u0,u1,u2,u3⟩:=(C4.out.ext hX5.out).c4
        have HS3:Hid (s2=(l.W.length:Int)):=by
         show _=_
         rw [HWT.out]
         unfold wdt
         rw [if_pos HW1.out,if_pos ⟨HBW.out,hA.out⟩]
        have hO5:=qH (HOO.out.ext IntT.ext hX5.out)
        have X15:=eT X14.out hX5.out
        go_wp2_with (at_builtin;refine append_rowL (y:=(l.W.length:Int)) etLi (kdI _) rF _ _ rF w1.heap.size rF _ rF hO5.out rfl (show IntT _ _ _ from rfl) (Below.size X15) (by have:=hol.out;have:=HZ.out;omega) (by have:=hol.out;have:=HZ.out;unfold maxLen;omega) ?_;intro v9 w9 o9 b9 g9)
        go_roundw
        case rel=>exact ⟨i+1,by rw [HS2.out,HS3.out],by go_num,by omega,Below.trans X15 b9,by rw [HS2.out,HS3.out];exact (by have:=HW0.out;show (0:Int) < _;omega),by rw [HWS.out,HS2.out,HS3.out];exact o9⟩
        simp [intOf]<;>omega
      have hq1:((l.B.length:Int) != (l.W.length:Int))=true:=by simp;omega
      have HNW:Hid (¬ 0 < wds ls z):=NotW.no HBD.out fun h=>hbw (wdt_k1 HW1.out h).1
      rw [if_neg HNW.out] at hR
      clear hw0 hbw
      go_wp2_with fail
      exact hR.out _ _ (Gives.mk (eT b1 X14.out) ⟨_,_,_,rfl,fun h=>absurd h (by have:=HNW.out;omega)⟩)
     have he1:(K == 1)=false:=beq_false_of_ne h1
     by_cases h2:K=2
     ·have he2:(K == 2)=true:=by rw [h2];rfl
      have HS3:Hid (s2=s):=by
       show _=_
       rw [HWT.out]
       unfold wdt
       rw [if_neg (by rw [HKE.out];exact h1),if_pos (by rw [HKE.out];exact h2)]
      clear h1 h2
      go_wp2_with (at_builtin;refine append_rowL (y:=s) etLi (kdI _) rF _ _ rF w1.heap.size rF _ rF HOO.out rfl (show IntT _ _ _ from rfl) (Below.size X14.out) (by have:=hol.out;have:=HZ.out;omega) (by have:=hol.out;have:=HZ.out;unfold maxLen;omega) ?_;intro v9 w9 o9 b9 g9)
      go_roundw
      case rel=>exact ⟨i+1,by rw [HS2.out,HS3.out],by go_num,by omega,Below.trans X14.out b9,by rw [HS2.out,HS3.out];exact hPO,by rw [HWS.out,HS2.out,HS3.out];exact o9⟩
      simp [intOf]<;>omega
     have he2:(K == 2)=false:=beq_false_of_ne h2
     by_cases h3:K=3
     ·have he3:(K == 3)=true:=by rw [h3];rfl
      have HW3:Hid (l.K=3):=by show _=_;rw [HKE.out,h3]
      clear h1 h2 h3
      by_cases hg0:l.G.length=0
      ·have hq0:((l.G.length:Int) == 0)=true:=by rw [hg0];rfl
       have HNW:Hid (¬ 0 < wds ls z):=NotW.no HBD.out fun h=>by have:=(wdt_k3 HW3.out h).2;omega
       rw [if_neg HNW.out] at hR
       clear hg0
       go_wp2_with fail
       exact hR.out _ _ (Gives.mk (eT b1 X14.out) ⟨_,_,_,rfl,fun h=>absurd h (by have:=HNW.out;omega)⟩)
      have hq0:((l.G.length:Int) == 0)=false:=beq_false_of_ne oM
      have HG0:Hid (0 < l.G.length):=by show _ < _;omega
      clear hg0
      go_wp2_with fail
      clear u0 u1 u2 u3 hq0
      go_loopw [131] (fun t wr=>∃ j:Nat,t=.int .i64 j∧j≤l.G.length∧Hid (Ext w4 wr)∧Hid (∀ g∈l.G.take j,g≠[]∧∀ i∈g,0≤i∧i < s)) (fun t _=>l.G.length - (intOf t).toNat)
      case atStart=>exact ⟨0,rfl,Nat.zero_le _,Ext.refl _,by rw [List.take_zero];exact fun _ h=>by cases h⟩
      case round=>
       obtain ⟨j,rfl,hj,hX5,hA⟩:=hrel
       obtain ⟨w5,hw5⟩:∃ w0:World,w0=wr:=⟨_,rfl⟩
       subst hw5
       by_cases hjl:j < l.G.length
       ·have hd1:=dT ((j:Int) < (l.G.length:Int))
        have HK1:IntKind.i64.wrap ((j:Int)+1)=((j+1:Nat):Int):=by rw [IntKind.wrap_i64];omega
        have HK2:(0:Int)≤(j:Int)∧(j:Int) < (l.G.length:Int):=⟨by omega,by omega⟩
        obtain ⟨bW,oW,xr,mr,hxe,hcell,hrr⟩:=HRG.out.row j hjl
        subst hxe
        replace hcell:=Ext.cell hX5.out hcell
        have HRR:=qH hrr
        have HTK:Hid ((l.G[j]≠[]∧∀ i∈l.G[j],0≤i∧i < s)→∀ g∈l.G.take (j+1),g≠[]∧∀ i∈g,0≤i∧i < s):=fun h0 g hg=>by
         rw [← List.take_append_getElem hjl] at hg
         exact (List.mem_append.1 hg).elim (fun h=>hA.out g h) fun h=>by rw [List.mem_singleton.1 h];exact h0
        have HBG:Hid (NotW ls z (l.G[j]≠[]∧∀ i∈l.G[j],0≤i∧i < s)):=fun h0=>NotW.no HBD.out fun h=>h0 ((wdt_k3 HW3.out h).1 _ (List.getElem_mem hjl))
        have HG4:=qH (HLL.out.2.2 _ (List.getElem_mem hjl))
        clear hrr
        generalize l.G[j]=g at*
        by_cases hg0:g.length=0
        ·have hd2:((g.length:Int) == 0)=true:=by rw [hg0];rfl
         have HNW:Hid (¬ 0 < wds ls z):=NotW.no HBG.out fun h=>h.1 (List.length_eq_zero_iff.1 hg0)
         rw [if_neg HNW.out] at hR
         clear hg0
         go_wp2_with fail
         exact hR.out _ _ (Gives.mk (eT b1 (eT X14.out hX5.out)) ⟨_,_,_,rfl,fun h=>absurd h (by have:=HNW.out;omega)⟩)
        have hd2:((g.length:Int) == 0)=false:=beq_false_of_ne oM
        have HGN:Hid (g≠[]):=fun h=>hg0 (by rw [h];rfl)
        clear hg0
        go_wp2_with fail
        clear hcell hd2
        go_loopw [140] (fun t wr=>∃ p:Nat,t=.int .i64 p∧p≤g.length∧Hid (Ext w5 wr)∧Hid (∀ i∈g.take p,0≤i∧i < s)) (fun t _=>g.length - (intOf t).toNat)
        case atStart=>exact ⟨0,rfl,Nat.zero_le _,Ext.refl _,by rw [List.take_zero];exact fun _ h=>by cases h⟩
        case round=>
         obtain ⟨p,rfl,hp,hX6,hP⟩:=hrel
         obtain ⟨w6,hw6⟩:∃ w0:World,w0=wr:=⟨_,rfl⟩
         subst hw6
         have hgl:=HG4.out
         by_cases hpl:p < g.length
         ·have hd3:=dT ((p:Int) < (g.length:Int))
          have HP1:IntKind.i64.wrap ((p:Int)+1)=((p+1:Nat):Int):=by rw [IntKind.wrap_i64];omega
          have HP2:(0:Int)≤(p:Int)∧(p:Int) < (g.length:Int):=⟨by omega,by omega⟩
          obtain ⟨ai,oi,rfl⟩:=HRR.out.some_atI hpl
          have hci:=Ext.cell (eT hX5.out hX6.out) (HRR.out.int p hpl)
          have HTP:Hid (0≤g[p]∧g[p] < s→∀ i∈g.take (p+1),0≤i∧i < s):=fun h0 i hi=>by
           rw [← List.take_append_getElem hpl] at hi
           exact (List.mem_append.1 hi).elim (fun h=>hP.out i h) fun h=>by rw [List.mem_singleton.1 h];exact h0
          have HNP:Hid (NotW ls z (0≤g[p]∧g[p] < s)):=fun h0=>NotW.no HBG.out fun h=>h0 (h.2 _ (List.getElem_mem hpl))
          generalize g[p]=y at*
          by_cases hy0:y < 0
          ·have hd4:decide (y < 0)=true:=decide_eq_true hy0
           have HNW:Hid (¬ 0 < wds ls z):=NotW.no HNP.out fun h=>by omega
           rw [if_neg HNW.out] at hR
           clear hy0
           go_wp2_with fail
           exact hR.out _ _ (Gives.mk (eT b1 (eT X14.out (eT hX5.out hX6.out))) ⟨_,_,_,rfl,fun h=>absurd h (by have:=HNW.out;omega)⟩)
          have hd4:decide (y < 0)=false:=decide_eq_false hy0
          by_cases hys:s≤y
          ·have hd5:decide (s≤y)=true:=decide_eq_true hys
           have HNW:Hid (¬ 0 < wds ls z):=NotW.no HNP.out fun h=>by omega
           rw [if_neg HNW.out] at hR
           clear hy0 hys
           go_wp2_with fail
           exact hR.out _ _ (Gives.mk (eT b1 (eT X14.out (eT hX5.out hX6.out))) ⟨_,_,_,rfl,fun h=>absurd h (by have:=HNW.out;omega)⟩)
          have hd5:decide (s≤y)=false:=decide_eq_false hys
          have HTQ:=qH (HTP.out ⟨by omega,by omega⟩)
          clear hy0 hys
          go_wp2_with fail
          go_roundw
          case rel=>exact ⟨p+1,by go_num,by omega,hX6,HTQ⟩
          simp [intOf]<;>omega
         obtain rfl:p=g.length:=by omega
         have hd3:=dF ((g.length:Int) < (g.length:Int))
         rw [List.take_length] at hP
         have HTQ:=qH (HTK.out ⟨HGN.out,hP.out⟩)
         go_wp2_with fail
         go_roundw
         case rel=>exact ⟨j+1,by go_num,by omega,eT hX5.out hX6.out,HTQ⟩
         simp [intOf]<;>omega
       obtain rfl:j=l.G.length:=by omega
       have hd1:=dF ((l.G.length:Int) < (l.G.length:Int))
       rw [List.take_length] at hA
       obtain ⟨u0,u1,u2,u3⟩:=(C4.out.ext hX5.out).c4
       have HS3:Hid (s2=(l.G.length:Int)):=by
        show _=_
        have hk:=HW3.out
        rw [HWT.out]
        unfold wdt
        rw [if_neg oM,if_neg oM,if_pos hk,if_pos hA.out]
       have hO5:=qH (HOO.out.ext IntT.ext hX5.out)
       have X15:=eT X14.out hX5.out
       go_wp2_with (at_builtin;refine append_rowL (y:=(l.G.length:Int)) etLi (kdI _) rF _ _ rF w1.heap.size rF _ rF hO5.out rfl (show IntT _ _ _ from rfl) (Below.size X15) (by have:=hol.out;have:=HZ.out;omega) (by have:=hol.out;have:=HZ.out;unfold maxLen;omega) ?_;intro v9 w9 o9 b9 g9)
       go_roundw
       case rel=>exact ⟨i+1,by rw [HS2.out,HS3.out],by go_num,by omega,Below.trans X15 b9,by rw [HS2.out,HS3.out];exact (by have:=HG0.out;show (0:Int) < _;omega),by rw [HWS.out,HS2.out,HS3.out];exact o9⟩
       simp [intOf]<;>omega
     have he3:(K == 3)=false:=beq_false_of_ne h3
     have HNW:Hid (¬ 0 < wds ls z):=NotW.no HBD.out fun h=>by have hk:=HKE.out;rcases wdt_cases h with ⟨h,-⟩ | ⟨h,-⟩ | ⟨h,-⟩ <;> omega
     rw [if_neg HNW.out] at hR
     clear h1 h2 h3
     go_wp2_with fail
     exact hR.out _ _ (Gives.mk (eT b1 X14.out) ⟨_,_,_,rfl,fun h=>absurd h (by have:=HNW.out;omega)⟩)
    obtain rfl:i=ls.length:=by omega
    have hd:=dF ((ls.length:Int) < (ls.length:Int))
    rw [List.take_length] at hPO ⊢
    rw [if_pos hPO.out] at hR
    generalize wds ls z=s at*
    go_wp2_with fail
    exact hR.out _ _ (Gives.mk (eT b1 hX.out) ⟨_,_,_,rfl,fun _=>by rw [HOL.out];exact hO.out.mono (Nat.zero_le _)⟩)
open Go.RowKit Go.Att

abbrev QyT (w:World) (v:Value) (q:Nt Rat × Pr (Rat × Rat) AT):Prop:=RdQy TnN TnS OwnB9 w v q
theorem r19check_any {w:World} {v:Value} {q:Nt Rat × Pr (Rat × Rat) AT} (hv:QyT w v q) (hl:lit q.1) (hs:∀ s∈q.2.1,Sb 50000 s.1∧Sb 50000 s.2) (hn:q.2.1.length≤1000∧q.2.2.1.length≤1000) (ht:∀ a∈q.2.2.1,a.1.1.length≤1000):
  Calls Tryz.prog 10 #[v] w (Gives w fun v' _=>∃ z:Int,v'=.int .i64 z∧(z=0→0 < wds q.1.2 q.1.1∧PrOk q.2 q.1.1 (wds q.1.2 q.1.1))):=by
 refine via fun R hR=>?_
 obtain ⟨a0,c0,a,c,a',c',x,k,rfl,hN,hP⟩:=hv.op2
 obtain ⟨w1,hw1,b1,c1,-,-⟩:=bx1 w [.int .i64 q.1.1,.slice a0 q.1.2.length c0,.slice a q.2.1.length c,.slice a' q.2.2.1.length c',.int .i64 q.2.2.2.k,.int .i64 q.2.2.2.a,.slice x q.2.2.2.sub.length k] 69
 have HW:=qH hw1
 have C1:=qH c1
 have HWD:=qH (r15widthsL_any (hN.ext tnn_ext b1) hl)
 have HPC:Hid (0 < wds q.1.2 q.1.1→∀ w',Ext w w'→Calls Tryz.prog 31 #[.agg #[.slice a q.2.1.length c,.slice a' q.2.2.1.length c',.int .i64 q.2.2.2.k,.int .i64 q.2.2.2.a,.slice x q.2.2.2.sub.length k],.int .i64 q.1.1,.int .i64 (wds q.1.2 q.1.1)] w' (Gives w' fun v' _=>∃ z:Int,v'=.int .i64 z∧(z=0→PrOk q.2 q.1.1 (wds q.1.2 q.1.1)))):=fun h w' xx=>by
  have h1:=wds_pos h 0 (Nat.zero_le _)
  rw [List.take_zero,wds] at h1
  have h2:=wds_le h hl.1 hl.2.2 q.1.2.length (Nat.le_refl _)
  rw [List.take_length] at h2
  have h3:=hl.1
  exact r16check_any (hP.ext tns_ext OwnBt.ext xx) hs hn ht ⟨by omega,by omega,by omega,by omega⟩
 have HK3:Hid (q.1.2.length≤3):=hl.2.1
 obtain ⟨j0,j1,j2,j3,j4,j5,j6⟩:=c1.c7
 have hRR:Hid (∀ w' (z:Int),Ext w w'→(z=0→0 < wds q.1.2 q.1.1∧PrOk q.2 q.1.1 (wds q.1.2 q.1.1))→R (.returned (.int .i64 z)) w'):=fun w' z h1 h2=>hR.out _ _ (Gives.mk h1 ⟨z,rfl,h2⟩)
 clear hw1 c1 hv hN hP hR hl hs hn ht
 generalize hpk:PrOk q.2 q.1.1 (wds q.1.2 q.1.1)=PK at*
 clear hpk
 obtain ⟨⟨z,ls⟩,bx,ats,fm⟩:=q
 dsimp only at*
 generalize bx.length=nb at*
 generalize ats.length=na at*
 generalize fm.k=fk at*
 generalize fm.a=fa at*
 generalize fm.sub.length=fn at*
 go_enter Tryz.func10,Tryz.ntmps10
 go_upto_region 1 with (fail)
 rw [← HW.out]
 clear HW
 go_wp2_with fail
 refine HWD.out.mono ?_
 rintro e w2 ⟨_,rfl,b2,aw,mw,cw,rfl,hO⟩
 by_cases h0:0 < wds ls z
 ·rw [if_pos h0]
  have hO:=hO h0
  obtain ⟨aw',kw,he,-,-⟩:=hO.rd.shape
  simp only [Value.slice.injEq] at he
  obtain ⟨rfl,hm,rfl⟩:=he
  rw [wlL_len] at hm
  subst hm
  obtain ⟨bW,oW,rfl,e0⟩:=IntT.row hO.rd 0 (by rw [wlL_len];omega)
  obtain ⟨bW',oW',he,e1⟩:=IntT.row hO.rd ls.length (by rw [wlL_len];omega)
  simp only [Option.some.injEq,Addr.mk.injEq,and_true] at he
  obtain ⟨rfl,rfl⟩:=he
  rw [wlL_get,List.take_zero,wds,Nat.add_zero] at e0
  rw [wlL_get,List.take_length] at e1
  have CA:Hid (Bo w2 bW oW [.int .i64 z]):=Bo.one e0
  have CB:Hid (Bo w2 bW (oW+ls.length) [.int .i64 (wds ls z)]):=Bo.one e1
  have C2:=qH (C1.out.ext b2)
  have X2:=qH (eT b1 b2)
  have HPC2:=qH (HPC.out h0)
  have H0:=qH h0
  have hk1:IntKind.i64.wrap ((ls.length:Int)+1 - 1)=(ls.length:Int):=by have:=HK3.out;rw [IntKind.wrap_i64];omega
  have hk2:IntKind.i64.wrap (ls.length:Int)=(ls.length:Int):=by have:=HK3.out;rw [IntKind.wrap_i64];omega
  have hi0:(0:Int)≤0∧(0:Int) < (ls.length:Int)+1:=⟨by omega,by omega⟩
  have hi1:(0:Int)≤(ls.length:Int)∧(ls.length:Int) < (ls.length:Int)+1:=⟨by omega,by omega⟩
  clear h0 hO HPC
  generalize wds ls z=oz at*
  generalize ls.length=nl at*
  clear e0 e1 HWD j0 j1 j2 j3 j4 j5 j6
  go_upto_region 4 with (fail)
  have b3:=drew_ext w2
  have XE:=b3
  refine wp_region_noPanic ?_
  refine wp_region_held_drew (S:=fun w'=>(w'.cell? ⟨w.heap.size,0,none⟩=some (.int .i64 z)∧w'.cell? ⟨w.heap.size,1,none⟩=some (.slice a0 nl c0)∧w'.cell? ⟨w.heap.size,2,none⟩=some (.slice a nb c)∧w'.cell? ⟨w.heap.size,3,none⟩=some (.slice a' na c')∧w'.cell? ⟨w.heap.size,4,none⟩=some (.int .i64 fk)∧w'.cell? ⟨w.heap.size,5,none⟩=some (.int .i64 fa)∧w'.cell? ⟨w.heap.size,6,none⟩=some (.slice x fn k))∧(w'.cell? ⟨bW,oW,none⟩=some (.int .i64 z))∧(w'.cell? ⟨bW,oW+nl,none⟩=some (.int .i64 oz))) kR (⟨(C2.out.ext XE).c7,(CA.out.ext XE).c1,(CB.out.ext XE).c1⟩) (fun hHeld=>?_)
  refine tkH 0 hHeld ?_
  simp only [jP,jJ]
  refine tkH 1 hHeld ?_
  simp only [jP,jJ]
  refine tkH 2 hHeld ?_
  simp only [jP,jJ]
  refine tkH 3 hHeld ?_
  simp only [jP,jJ]
  refine tkH 4 hHeld ?_
  simp only [jP,jJ]
  refine tkH 5 hHeld ?_
  simp only [jP,jJ]
  refine tkH 6 hHeld ?_
  simp only [jP,jJ]
  refine tkH 7 hHeld ?_
  simp only [jP,jJ]
  refine tkH 8 hHeld ?_
  simp only [jP,jJ]
  refine tkH 9 hHeld ?_
  simp only [jP,jJ]
  refine tkH 10 hHeld ?_
  simp only [jP,jJ]
  refine rdH 11 kR rfl (fun K hK=>?_)
  go_simp
  go_at_call 31;refine (HPC2.out _ (eT X2.out XE)).mono ?_;rintro e w4 ⟨v4,rfl,b4,o4⟩;have O4:=qH o4;clear o4;(first | have XE:=eT XE b4 | have XE:=eT (eT XE (Ext.alloc _ _)) b4);obtain ⟨zz,rfl,hzz⟩:=O4.out
  go_wp2_with fail
  refine hK.out _ _ (⟨(C2.out.ext XE).c7,(CA.out.ext XE).c1,(CB.out.ext XE).c1⟩) (fun hHeld=>?_)
  clear hK K
  try simp only [jP,jJ]
  refine tkH 12 hHeld ?_
  simp only [jP,jJ]
  refine dnH kR ?_
  go_wp2_with fail
  exact hRR.out _ _ (eT X2.out XE) fun h=>⟨H0.out,hzz h⟩
 rw [if_neg h0]
 clear h0 hO
 go_wp2_with fail
 exact hRR.out _ _ (eT b1 b2) fun h=>by omega
end Go.Proofs.YtmlhccajicmpfaaGreat

namespace Go.Att
theorem ovr_leL:∀ (l:List Fm) (n d:Int),n≤20000→ovrL l n d≤20000
 | [],n,d,h=>by unfold ovrL;exact h
 | f :: l,n,d,h=>by
  unfold ovrL
  by_cases hb:ovrF f d < 0∨20000 < n+ovrF f d
  ·rw [if_pos hb];omega
  rw [if_neg hb]
  exact ovr_leL l _ d oM
theorem ovr_le (f:Fm) (d:Int):ovrF f d≤20000:=by
 obtain ⟨k,a,l⟩:=f
 unfold ovrF
 by_cases hd:200 < d
 ·rw [if_pos hd];omega
 rw [if_neg hd]
 exact ovr_leL l 1 (d+1) oM
end Go.Att
namespace Go.Proofs.YtmlhccajicmpfaaGreat
open Go.RowKit Go.Att

theorem chkF_zero {f:Fm} {k:Int} (h:chkF f k=0):0≤ovrF f 1∧frmF f k=true∧szF f≤20000:=by
 rw [chk_same] at h
 unfold chkG at h
 by_cases h1:ovrF f 1 < 0
 ·rw [if_pos h1] at h;omega
 rw [if_neg h1] at h
 by_cases h2:frmF f k=true
 ·exact ⟨by omega,h2,by rw [← ovr_sz f 1 oM];exact ovr_le f 1⟩
 rw [if_neg h2] at h;omega
theorem r19small_any {w:World} {v:Value} {q:Nt Rat × Pr (Rat × Rat) AT} (hv:QyT w v q) (hl:lit q.1) (hf:szF q.2.2.2≤20000) (hna:q.2.2.1.length≤1000):
  Calls Tryz.prog 13 #[v] w (Gives w fun v' _=>∃ b:Bool,v'=.bool b∧(b=true→q.2.2.1.length≤10∧szF q.2.2.2≤60)):=by
 refine via fun R hR=>?_
 obtain ⟨a0,c0,a,c,a',c',x,k,rfl,hN0,hB,hA,hF⟩:=hv.op
 have hN:=hN0.mono (S:=fun _ _ _=>True) fun _ _ _=>trivial
 obtain ⟨_,_,hve,-,-,hr⟩:=hN.op
 simp only [Value.agg.injEq,Array.mk.injEq,List.cons.injEq,Value.slice.injEq,and_true] at hve
 obtain ⟨-,rfl,-,rfl⟩:=hve
 have HV:=qH hr
 have HZ:Hid (q.1.2.length≤3):=hl.2.1
 have HLT:Hid (∀ l∈q.1.2,litL l):=hl.2.2
 obtain ⟨w1,hw1,b1,c1,-,-⟩:=bx1 w [.int .i64 q.1.1,.slice a0 q.1.2.length c0,.slice a q.2.1.length c,.slice a' q.2.2.1.length c',.int .i64 q.2.2.2.k,.int .i64 q.2.2.2.a,.slice x q.2.2.2.sub.length k] 69
 have HW:=qH hw1
 have C1:=qH c1
 have HND:Hid (∀ w',Ext w w'→Calls Tryz.prog 35 #[.agg #[.int .i64 q.2.2.2.k,.int .i64 q.2.2.2.a,.slice x q.2.2.2.sub.length k],.int .i64 60] w' (Gives w' fun v' _=>v'=.int .i64 (ndsF q.2.2.2 60))):=fun w' xx=>by
  obtain ⟨n,hn⟩:=hF
  exact nodes_any n (hn.ext xx) hf
 have HSM:Hid (ndsF q.2.2.2 60≤60→szF q.2.2.2≤60):=fun h=>by rw [nds_sz _ _ h];exact h
 obtain ⟨j0,j1,j2,j3,j4,j5,j6⟩:=c1.c7
 have HNA:=qH hna
 clear hw1 c1 hv hN hN0 hB hA hF hr hl hf hna
 obtain ⟨⟨z,ls⟩,bx,ats,fm⟩:=q
 dsimp only at*
 generalize bx.length=nb at*
 generalize ats.length=na at*
 generalize (szF fm≤60)=SF at*
 generalize ndsF fm 60=nd at*
 generalize fm.k=fk at*
 generalize fm.a=fa at*
 generalize fm.sub.length=fn at*
 go_enter Tryz.func13,Tryz.ntmps13
 go_upto_region 1 with (fail)
 rw [← HW.out]
 clear HW
 go_wp2_with fail
 go_loopw [3,12] (fun s t wr=>∃ (i:Nat) (y:Int),t=.int .i64 i∧i≤ls.length∧s=.int .i64 y∧Hid (Ext w1 wr)) (fun _ t _=>ls.length - (intOf t).toNat)
 case atStart=>exact ⟨0,0,rfl,Nat.zero_le _,rfl,Ext.refl _⟩
 case round=>
  clear j0 j1 j2 j3 j4 j5 j6
  obtain ⟨i,y,rfl,hi,rfl,hX⟩:=hrel
  obtain ⟨wo,hwo⟩:∃ w0:World,w0=wr:=⟨_,rfl⟩
  subst hwo
  by_cases hlt:i < ls.length
  ·have HUS:Hid True:=trivial
   have hd:=dT ((i:Int) < (ls.length:Int))
   have HJ1:IntKind.i64.wrap ((i:Int)+1)=((i+1:Nat):Int):=by have:=HZ.out;rw [IntKind.wrap_i64];omega
   have HI2:(0:Int)≤(i:Int)∧(i:Int) < (ls.length:Int):=⟨by omega,by omega⟩
   have hxw:=eT b1 hX.out
   obtain ⟨bL,oL,ax,mx',ay,my,az,mz,hae,hbo,hRW,hRB,hRG⟩:=(HV.out.ext (fun h x=>RdLay.ext h (fun _ _=>trivial) x) hxw).lay i hlt
   subst hae
   have HLL:Hid (litL ls[i]):=HLT.out _ (List.getElem_mem hlt)
   obtain ⟨l,hl⟩:∃ l,ls[i]=l:=⟨_,rfl⟩
   rw [hl] at hbo hRW hRB hRG HLL
   clear hl
   obtain ⟨u0,u1,u2,u3⟩:=hbo.c4
   obtain ⟨w4,hw4,b4,c4,-,-⟩:=bx1 wo [.int .i64 l.K,.slice ax l.W.length mx',.slice ay l.B.length my,.slice az l.G.length mz] 124
   have HW:=qH hw4
   have C4:=qH c4
   have HRG:=qH (hRG.ext (fun h x=>RowT.ext h IntT.ext x) b4)
   clear hw4 c4 hRW hRB hRG hbo
   go_upto_region 5 with (fail)
   rw [← HW.out]
   clear HW u0 u1 u2 u3
   obtain ⟨u0,u1,u2,u3⟩:=C4.out.c4
   go_wp2_with fail
   clear u0 u1 u2 u3
   have HGL:Hid (l.G.length≤100):=by have:=HLL.out.1;exact qH oM
   go_loopw [3,25] (fun s t wr=>∃ (j:Nat) (y:Int),t=.int .i64 j∧j≤l.G.length∧s=.int .i64 y∧Hid (Ext w4 wr)) (fun _ t _=>l.G.length - (intOf t).toNat)
   case atStart=>exact ⟨0,_,rfl,Nat.zero_le _,rfl,Ext.refl _⟩
   case round=>
    obtain ⟨j,y,rfl,hj,rfl,hX5⟩:=hrel
    obtain ⟨w5,hw5⟩:∃ w0:World,w0=wr:=⟨_,rfl⟩
    subst hw5
    by_cases hjl:j < l.G.length
    ·have hd1:=dT ((j:Int) < (l.G.length:Int))
     have HK1:IntKind.i64.wrap ((j:Int)+1)=((j+1:Nat):Int):=by have:=HGL.out;rw [IntKind.wrap_i64];omega
     have HK2:(0:Int)≤(j:Int)∧(j:Int) < (l.G.length:Int):=⟨by omega,by omega⟩
     obtain ⟨bW,oW,xr,mr,hxe,hcell,-⟩:=HRG.out.row j hjl
     subst hxe
     replace hcell:=Ext.cell hX5.out hcell
     generalize l.G[j].length=q at*
     go_wp2_with fail
     go_roundw
     case rel=>exact ⟨j+1,_,by go_num,by omega,rfl,hX5⟩
     simp [intOf]<;>omega
    obtain rfl:j=l.G.length:=by omega
    have hd1:=dF ((l.G.length:Int) < (l.G.length:Int))
    go_wp2_with fail
    go_roundw
    case rel=>exact ⟨i+1,_,by go_num,by omega,rfl,eT hX.out (eT b4 hX5.out)⟩
    simp [intOf]<;>omega
  obtain rfl:i=ls.length:=by omega
  have hd:=dF ((ls.length:Int) < (ls.length:Int))
  obtain ⟨j0,j1,j2,j3,j4,j5,j6⟩:=(C1.out.ext hX.out).c7
  have b1o:=eT b1 hX.out
  by_cases h1:z≤6
  ·have e1:decide (z≤6)=true:=decide_eq_true h1
   by_cases h2:y≤60
   ·have e2:decide (y≤60)=true:=decide_eq_true h2
    by_cases h3:na≤10
    ·have e3:decide ((na:Int)≤10)=true:=decide_eq_true oM
     have H3:=qH h3
     have HND2:=qH (HND.out _ b1o)
     clear h1 h2 h3
     go_wp2_with fail
     refine HND2.out.mono ?_
     rintro e w6 ⟨_,rfl,b6,rfl⟩
     go_wp2_with fail
     exact hR.out _ _ (Gives.mk (eT b1o b6) ⟨_,rfl,fun h=>⟨H3.out,HSM.out (by simpa using h)⟩⟩)
    have e3:decide ((na:Int)≤10)=false:=decide_eq_false oM
    clear h1 h2 h3
    go_wp2_with fail
    exact hR.out _ _ (Gives.mk b1o ⟨_,rfl,fun h=>by cases h⟩)
   have e2:decide (y≤60)=false:=decide_eq_false h2
   clear h1 h2
   go_wp2_with fail
   exact hR.out _ _ (Gives.mk b1o ⟨_,rfl,fun h=>by cases h⟩)
  have e1:decide (z≤6)=false:=decide_eq_false h1
  clear h1
  go_wp2_with fail
  exact hR.out _ _ (Gives.mk b1o ⟨_,rfl,fun h=>by cases h⟩)
end Go.Proofs.YtmlhccajicmpfaaGreat
