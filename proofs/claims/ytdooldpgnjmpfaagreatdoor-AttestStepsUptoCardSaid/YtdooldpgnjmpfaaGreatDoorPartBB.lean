/- A group of texts: PResolve, PChain -/
import Derived.Test.YtdooldpgnjmpfaaGreatDoorPartBA
import Derived.Test.YtdooldpgnjmpfaaGreatDoorPartAI
namespace Go.Proofs.YtdooldpgnjmpfaaGreatDoor
open Go.RowKit Go.Att

theorem etKi:ElemT Tryz.prog 44 3 (.int .i64 0) 1 8:=ElemT.mk' Tryz.underlying44 (by kernel_rfl) rfl (by decide)
def flt (p:Int→Bool) (l:List Int) (j:Nat):List Int:=(l.take j).filter p
theorem flt_yes {p:Int→Bool} {l:List Int} {j:Nat} (h:j < l.length) (hp:p l[j]=true):flt p l (j+1)=flt p l j ++ [l[j]]:=by
 unfold flt
 rw [← List.take_append_getElem h,List.filter_append]
 simp [hp]
theorem flt_no {p:Int→Bool} {l:List Int} {j:Nat} (h:j < l.length) (hp:p l[j]=false):flt p l (j+1)=flt p l j:=by
 unfold flt
 rw [← List.take_append_getElem h,List.filter_append]
 simp [hp]
theorem flt_len (p:Int→Bool) (l:List Int) (j:Nat):(flt p l j).length≤l.length:=Nat.le_trans (List.length_filter_le ..) (by simp;omega)
theorem flt_all (p:Int→Bool) (l:List Int) {j:Nat} (h:j=l.length):flt p l j=l.filter p:=by subst h;unfold flt;rw [List.take_length]
theorem mem_rsl {a b:List Int} {on z:Int} (h:z∈rsl a b on):z∈a∨z∈b:=by
 unfold rsl at h
 rw [mem_cnL] at h
 rcases List.mem_append.1 h with h | h
 ·exact .inl (mem_cnL.1 (List.mem_filter.1 h).1)
 ·exact .inr (mem_cnL.1 (List.mem_filter.1 h).1)
theorem rsl_len (a b:List Int) (on:Int):(rsl a b on).length≤a.length+b.length:=by
 unfold rsl
 refine Nat.le_trans (cnL_len _) ?_
 rw [List.length_append]
 have h1:=cnL_len a
 have h2:=cnL_len b
 have h3:=List.length_filter_le (fun l=>l != on) (cnL a)
 have h4:=List.length_filter_le (fun l=>l != -on) (cnL b)
 omega
def ResR (a b:List Int) (v':Value) (w':World):Prop:=
 ∃ p n c on e,v'=.tuple #[.slice p n c,.int .i64 on,.int .i64 e]∧(e≠0∨e=0∧on≠0∧n=(rsl a b on).length∧TyRow 1 IntT 3 w' (.slice p n c) (rsl a b on))
set_option maxRecDepth 100000 in
set_option linter.unusedSimpArgs false in
set_option maxHeartbeats 8000000 in
theorem resolve_any {w:World} {va vb:Value} {a b:List Int} (ha:RdRow 1 IntT w va a) (hb:RdRow 1 IntT w vb b) (la:∀ z∈a,In64 z) (lb:∀ z∈b,In64 z) (na:a.length≤1000000) (nb:b.length≤1000000):
  Calls Tryz.prog 70 #[va,vb] w (Gives w (ResR a b)):=by
 refine via fun R hR=>?_
 have H1:=Lib.hid (cboth_any ha hb la lb (by omega) (by omega))
 have HLA:Hid (∀ z∈cnL a,In64 z):=fun z hz=>la z (mem_cnL.1 hz)
 have HLB:Hid (∀ z∈cnL b,In64 z):=fun z hz=>lb z (mem_cnL.1 hz)
 have HNA:Hid ((cnL a).length≤1000000):=Nat.le_trans (cnL_len a) na
 have HNB:Hid ((cnL b).length≤1000000):=Nat.le_trans (cnL_len b) nb
 clear ha hb la lb na nb
 go_enter Tryz.func70,Tryz.ntmps70
 go_upto_region 2 with (go_at_call 98;refine H1.out.mono ?_;rintro e w1 ⟨v1,rfl,X1,p,n,c,q,m,k,e1,rfl,G1⟩;have G1:=Lib.hid G1;have X1:=Lib.hid X1)
 rcases G1.out with rfl | ⟨rfl,hn,hm,Z1,Z2,T1,T2⟩
 ·go_wp2_with fail
  refine bodyPost_ret (v:=.tuple #[.slice none 0 0,.int .i64 0,.int .i64 4]) (by simp [results,Tryz.results70,go_sem]) rfl ?_
  exact hR.out _ _ (Gives.mk X1.out ⟨_,_,_,_,4,rfl,.inl (by decide)⟩)
 ·have HX:=Lib.hid T1.1
  have HY:=Lib.hid T2.1
  have HRS:Hid (∀ on,rsl a b on=cnL ((cnL a).filter (fun l=>l != on) ++ (cnL b).filter fun l=>l != -on)):=fun on=>rfl
  have HIA:Hid (∀ z∈cnL a,InL z):=fun z hz=>by
   have h1:=Z1 z (mem_cnL.1 hz)
   obtain ⟨h3,h4⟩:=HLA.out z hz
   refine ⟨?_,h4⟩
   rcases Int.lt_or_eq_of_le h3 with h5 | h5
   ·exact h5
   ·exact absurd (by unfold szl;rw [if_pos h5.symm]) h1
  clear G1 T1 T2 Z1 Z2 H1
  generalize cnL a=x at*
  generalize cnL b=y at*
  have HNX:=Lib.hid hn
  have HNY:=Lib.hid hm
  rw [← hn] at HNA
  rw [← hm] at HNB
  clear hn hm
  go_upto_region 5 with fail
  go_wp2_with fail
  go_loopw [10,30] (fun t u wr=>∃ on:Int,∃ j:Nat,t=.int .i64 on∧u=.int .i64 j∧j≤n∧wr=w1∧Hid (on=0∨on∈x)) (fun _ u _=>n - (intOf u).toNat)
  case atStart=>exact ⟨0,0,rfl,rfl,Nat.zero_le _,rfl,.inl rfl⟩
  case round=>
   obtain ⟨on,j,rfl,rfl,hj,hX,hP⟩:=hrel
   subst hX
   by_cases hjn:j < n
   ·have hd:decide ((j:Int) < (n:Int))=true:=decide_eq_true (by omega)
    have HJ2:(0:Int)≤(j:Int)∧(j:Int) < (n:Int):=⟨by omega,by omega⟩
    have HJ1:IntKind.i64.wrap ((j:Int)+1)=((j+1:Nat):Int):=by have:=HNA.out;rw [IntKind.wrap_i64];omega
    have hjl:j < x.length:=by rw [← HNX.out];exact hjn
    have HX':=HX.out
    obtain ⟨bx,ox,he⟩:=HX'.some_atI hjl
    subst he
    have hc:=HX'.int j hjl
    have HM:=Lib.hid (List.getElem_mem hjl)
    obtain ⟨z,hz⟩:∃ z,x[j]=z:=⟨_,rfl⟩
    rw [hz] at hc HM
    clear hz HX' hjl
    obtain ⟨ng,hng⟩:∃ u,IntKind.i64.wrap (-z)=u:=⟨_,rfl⟩
    have HCO:=Lib.hid (contains_ints (x:=ng) HY.out)
    generalize y.contains ng=bb at*
    cases bb with
    | false=>
     go_wp2_with (go_at_call 99;refine HCO.out.mono ?_;rintro e w2 ⟨rfl,rfl⟩)
     go_roundw
     case rel=>exact ⟨on,j+1,rfl,by go_num,by omega,by first | rfl | trivial,hP.out⟩
     case measure=>simp [intOf] <;> omega
    | true=>
     by_cases h0:on=0
     ·subst h0
      go_wp2_with (go_at_call 99;refine HCO.out.mono ?_;rintro e w2 ⟨rfl,rfl⟩)
      go_roundw
      case rel=>exact ⟨z,j+1,rfl,by go_num,by omega,by first | rfl | trivial,.inr HM.out⟩
      case measure=>simp [intOf] <;> omega
     ·have hn0:(on != 0)=true:=by simp [h0]
      go_wp2_with (go_at_call 99;refine HCO.out.mono ?_;rintro e w2 ⟨rfl,rfl⟩)
      refine bodyPost_ret (v:=.tuple #[.slice none 0 0,.int .i64 0,.int .i64 6]) (by simp [results,Tryz.results70,go_sem]) rfl ?_
      exact hR.out _ _ (Gives.mk X1.out ⟨_,_,_,_,6,rfl,.inl (by decide)⟩)
   ·obtain rfl:j=n:=by omega
    have hd:decide ((j:Int) < (j:Int))=false:=decide_eq_false (by omega)
    have HOX:=Lib.hid hP.out
    clear hP
    by_cases h0:on=0
    ·subst h0
     go_wp2_with fail
     refine bodyPost_ret (v:=.tuple #[.slice none 0 0,.int .i64 0,.int .i64 6]) (by simp [results,Tryz.results70,go_sem]) rfl ?_
     exact hR.out _ _ (Gives.mk X1.out ⟨_,_,_,_,6,rfl,.inl (by decide)⟩)
    ·have hn0:(on == 0)=false:=beq_false_of_ne h0
     have hn1:decide (on=0)=false:=decide_eq_false h0
     have HON:Hid (on∈x):=HOX.out.resolve_left h0
     have HOI:=Lib.hid (HIA.out _ HON.out)
     have hneg:IntKind.i64.wrap (-on) = -on:=by obtain ⟨k1,k2⟩:=HOI.out;rw [IntKind.wrap_i64];omega
     have HNG:=Lib.hid hneg
     have H0:=Lib.hid h0
     clear HOX HON HOI hneg
     obtain ⟨w2,hw2⟩:∃ w2:World,w2=wr:=⟨_,rfl⟩
     subst hw2
     go_upto_region 17 with fail
     clear hn0 hn1 hd h0
     go_loopw [13,46] (fun t u wr=>∃ (i:Nat) (a1:Option Addr) (c1:Nat),t=.slice a1 (flt (fun l=>l != on) x i).length c1∧u=.int .i64 i∧i≤j∧Hid (Ext w2 wr)∧Hid (OwnRow 1 IntT 3 w2.heap.size wr (.slice a1 (flt (fun l=>l != on) x i).length c1) (flt (fun l=>l != on) x i))) (fun _ u _=>j - (intOf u).toNat)
     case atStart=>exact ⟨0,none,0,rfl,rfl,Nat.zero_le _,Ext.refl _,OwnRow.nil _ _ _⟩
     case round=>
      obtain ⟨i,a1,c1,rfl,rfl,hi,hX,hO⟩:=hrel
      obtain ⟨w3,hw3⟩:∃ w3:World,w3=wr:=⟨_,rfl⟩
      subst hw3
      by_cases hij:i < j
      ·have hd:decide ((i:Int) < (j:Int))=true:=decide_eq_true (by omega)
       have HJ2:(0:Int)≤(i:Int)∧(i:Int) < (j:Int):=⟨by omega,by omega⟩
       have HJ1:IntKind.i64.wrap ((i:Int)+1)=((i+1:Nat):Int):=by have:=HNA.out;rw [IntKind.wrap_i64];omega
       have hil:i < x.length:=by rw [← HNX.out];exact hij
       have HX':=HX.out.ext (fun h _=>h) hX.out
       obtain ⟨bx,ox,he⟩:=HX'.some_atI hil
       subst he
       have hc:=HX'.int i hil
       have HLN:Hid ((flt (fun l=>l != on) x i).length≤1000000):=Nat.le_trans (flt_len _ _ _) (by rw [← HNX.out];exact HNA.out)
       have HYES:Hid ((x[i] != on)=true→flt (fun l=>l != on) x (i+1)=flt (fun l=>l != on) x i ++ [x[i]]):=fun h=>flt_yes hil h
       have HNO:Hid ((x[i] != on)=false→flt (fun l=>l != on) x (i+1)=flt (fun l=>l != on) x i):=fun h=>flt_no hil h
       obtain ⟨z,hz⟩:∃ z,x[i]=z:=⟨_,rfl⟩
       rw [hz] at hc HYES HNO
       clear hz HX' hil
       obtain ⟨l2,hl2⟩:∃ l2,flt (fun l=>l != on) x (i+1)=l2:=⟨_,rfl⟩
       rw [hl2] at HYES HNO
       have HL2:=Lib.hid hl2
       clear hl2
       obtain ⟨l1,hl1⟩:∃ l1,flt (fun l=>l != on) x i=l1:=⟨_,rfl⟩
       rw [hl1] at HYES HNO hO HLN ⊢
       clear hl1
       cases hb:(z != on) with
       | true=>
        have HE:=Lib.hid (HYES.out hb)
        clear HYES HNO
        go_wp2_with (refine build1W etKi (by rfl) (by rfl) (T:=IntT) IntT.ext (by rfl) [.int .i64 z] (fill_i1 ..) rfl (by decide) (y:=z) rfl ?_;intro g8 w8 x8 _ l8;refine append_rowGL etKi (kdI _) (by rfl) _ _ (by rfl) w2.heap.size (by rfl) (hO.out.ext IntT.ext x8) (by rfl) l8.rd (by have:=HLN.out;omega) (by unfold maxLen;have:=HLN.out;omega) (Nat.le_trans (Below.size hX.out) (Below.size x8)) ?_;intro v9 w9 o9 b9 g9 _;have O9:Hid (OwnRow 1 IntT 3 w2.heap.size w9 v9 l2):=(by rw [HE.out];exact o9);have XW:=Lib.hid (Below.trans (Ext.trans hX.out x8) b9);obtain ⟨a11,k11,he9,-,-⟩:=O9.out.rd.shape;subst he9)
        go_roundw
        case rel=>exact ⟨i+1,a11,k11,by rw [HL2.out],by go_num,by omega,XW.out,by rw [HL2.out];exact O9.out⟩
        case measure=>simp [intOf] <;> omega
       | false=>
        have HE:=Lib.hid (HNO.out hb)
        clear HYES HNO
        go_wp2_with fail
        go_roundw
        case rel=>exact ⟨i+1,a1,c1,by rw [HL2.out,HE.out],by go_num,by omega,hX.out,by rw [HL2.out,HE.out];exact hO.out⟩
        case measure=>simp [intOf] <;> omega
      ·obtain rfl:i=j:=by omega
       have hd:decide ((i:Int) < (i:Int))=false:=decide_eq_false (by omega)
       have HF:=Lib.hid (flt_all (fun l=>l != on) x (j:=i) HNX.out)
       rw [HF.out] at hO ⊢
       obtain ⟨xs,hxs⟩:∃ xs,x.filter (fun l=>l != on)=xs:=⟨_,rfl⟩
       have HXS:=Lib.hid hxs
       have HLX:Hid (xs.length≤1000000):=by
        have h1:=List.length_filter_le (fun l=>l != on) x
        have h2:=HNA.out
        have h3:=HNX.out
        rw [hxs] at h1
        exact Lib.hid (by omega)
       have HMX:Hid (∀ z∈xs,In64 z):=fun z hz=>HLA.out z (by rw [← HXS.out] at hz;exact (List.mem_filter.1 hz).1)
       rw [hxs] at hO ⊢
       have HO:=Lib.hid hO.out
       have X3:=Lib.hid hX.out
       clear hxs hO hX HF HX HLA
       go_upto_region 23 with fail
       clear hd
       go_loopw [13,60] (fun t u wr=>∃ (i:Nat) (a1:Option Addr) (c1:Nat),t=.slice a1 (xs ++ flt (fun l=>l != -on) y i).length c1∧u=.int .i64 i∧i≤m∧Hid (Ext w2 wr)∧Hid (OwnRow 1 IntT 3 w2.heap.size wr (.slice a1 (xs ++ flt (fun l=>l != -on) y i).length c1) (xs ++ flt (fun l=>l != -on) y i))) (fun _ u _=>m - (intOf u).toNat)
       case atStart=>
        have hf:xs ++ flt (fun l=>l != -on) y 0=xs:=by simp [flt]
        exact ⟨0,a1,c1,by rw [hf],rfl,Nat.zero_le _,X3.out,by rw [hf];exact HO.out⟩
       case round=>
        obtain ⟨i',a2,c2,rfl,rfl,hi,hX,hO⟩:=hrel
        obtain ⟨w4,hw4⟩:∃ w4:World,w4=wr:=⟨_,rfl⟩
        subst hw4
        by_cases hij:i' < m
        ·have hd:decide ((i':Int) < (m:Int))=true:=decide_eq_true (by omega)
         have HJ2:(0:Int)≤(i':Int)∧(i':Int) < (m:Int):=⟨by omega,by omega⟩
         have HJ1:IntKind.i64.wrap ((i':Int)+1)=((i'+1:Nat):Int):=by have:=HNB.out;rw [IntKind.wrap_i64];omega
         have hil:i' < y.length:=by rw [← HNY.out];exact hij
         have HX':=HY.out.ext (fun h _=>h) hX.out
         obtain ⟨bx,ox,he⟩:=HX'.some_atI hil
         subst he
         have hc:=HX'.int i' hil
         have HLN:Hid ((xs ++ flt (fun l=>l != -on) y i').length≤2000000):=by
          have h1:=flt_len (fun l=>l != -on) y i'
          have h2:=HNB.out
          have h3:=HNY.out
          have h4:=HLX.out
          rw [List.length_append]
          exact Lib.hid (by omega)
         have HYES:Hid ((y[i'] != -on)=true→xs ++ flt (fun l=>l != -on) y (i'+1)=xs ++ flt (fun l=>l != -on) y i' ++ [y[i']]):=fun h=>by rw [flt_yes hil h,List.append_assoc]
         have HNO:Hid ((y[i'] != -on)=false→xs ++ flt (fun l=>l != -on) y (i'+1)=xs ++ flt (fun l=>l != -on) y i'):=fun h=>by rw [flt_no hil h]
         obtain ⟨z,hz⟩:∃ z,y[i']=z:=⟨_,rfl⟩
         rw [hz] at hc HYES HNO
         clear hz HX' hil
         obtain ⟨l2,hl2⟩:∃ l2,xs ++ flt (fun l=>l != -on) y (i'+1)=l2:=⟨_,rfl⟩
         rw [hl2] at HYES HNO
         have HL2:=Lib.hid hl2
         clear hl2
         obtain ⟨l1,hl1⟩:∃ l1,xs ++ flt (fun l=>l != -on) y i'=l1:=⟨_,rfl⟩
         rw [hl1] at HYES HNO hO HLN ⊢
         clear hl1
         obtain ⟨no,hno⟩:∃ no,-on=no:=⟨_,rfl⟩
         have hneg:IntKind.i64.wrap (-on)=no:=by rw [HNG.out,hno]
         rw [hno] at HYES HNO
         have HNN:=Lib.hid hno
         clear hno
         cases hb:(z != no) with
         | true=>
          have HE:=Lib.hid (HYES.out hb)
          clear HYES HNO
          go_wp2_with (refine build1W etKi (by rfl) (by rfl) (T:=IntT) IntT.ext (by rfl) [.int .i64 z] (fill_i1 ..) rfl (by decide) (y:=z) rfl ?_;intro g8 w8 x8 _ l8;refine append_rowGL etKi (kdI _) (by rfl) _ _ (by rfl) w2.heap.size (by rfl) (hO.out.ext IntT.ext x8) (by rfl) l8.rd (by have:=HLN.out;omega) (by unfold maxLen;have:=HLN.out;omega) (Nat.le_trans (Below.size hX.out) (Below.size x8)) ?_;intro v9 w9 o9 b9 g9 _;have O9:Hid (OwnRow 1 IntT 3 w2.heap.size w9 v9 l2):=(by rw [HE.out];exact o9);have XW:=Lib.hid (Below.trans (Ext.trans hX.out x8) b9);obtain ⟨a11,k11,he9,-,-⟩:=O9.out.rd.shape;subst he9)
          go_roundw
          case rel=>exact ⟨i'+1,a11,k11,by rw [HL2.out],by go_num,by omega,XW.out,by rw [HL2.out];exact O9.out⟩
          case measure=>simp [intOf] <;> omega
         | false=>
          have HE:=Lib.hid (HNO.out hb)
          clear HYES HNO
          go_wp2_with fail
          go_roundw
          case rel=>exact ⟨i'+1,a2,c2,by rw [HL2.out,HE.out],by go_num,by omega,hX.out,by rw [HL2.out,HE.out];exact hO.out⟩
          case measure=>simp [intOf] <;> omega
        ·obtain rfl:i'=m:=by omega
         have hd:decide ((i':Int) < (i':Int))=false:=decide_eq_false (by omega)
         have HF:=Lib.hid (flt_all (fun l=>l != -on) y (j:=i') HNY.out)
         rw [HF.out] at hO ⊢
         have HMY:Hid (∀ z∈y.filter (fun l=>l != -on),In64 z):=fun z hz=>HLB.out z (List.mem_filter.1 hz).1
         have HRE:=Lib.hid (HRS.out on)
         have HLY:Hid ((y.filter (fun l=>l != -on)).length≤1000000):=by
          have h1:=List.length_filter_le (fun l=>l != -on) y
          have h2:=HNB.out
          have h3:=HNY.out
          exact Lib.hid (by omega)
         obtain ⟨ys,hys⟩:∃ ys,y.filter (fun l=>l != -on)=ys:=⟨_,rfl⟩
         rw [hys] at hO HMY HLY ⊢
         have HRF:Hid (rsl a b on=cnL (xs ++ ys)):=by rw [HRE.out,HXS.out,hys];exact Lib.hid rfl
         have HCA:=Lib.hid (ccanon_any hO.out.rd (fun z hz=>(List.mem_append.1 hz).elim (HMX.out z) (HMY.out z)) (by rw [List.length_append];have:=HLX.out;have:=HLY.out;omega))
         have X4:=Lib.hid hX.out
         clear hys HRE HF hX hO HNG
         generalize (xs ++ ys).length=nn at*
         go_upto_region 29 with (go_at_call 34;refine HCA.out.mono ?_;rintro e w5 ⟨v5,rfl,X5,p5,n5,c5,e5,rfl,G5⟩;have G5:=Lib.hid G5;have X5:=Lib.hid X5)
         go_wp2_with fail
         refine bodyPost_ret (v:=.tuple #[.slice p5 n5 c5,.int .i64 on,.int .i64 e5]) (by simp [results,Tryz.results70,go_sem]) rfl ?_
         refine hR.out _ _ (Gives.mk (Ext.trans X1.out (Ext.trans X4.out X5.out)) ⟨_,_,_,on,e5,rfl,?_⟩)
         rcases G5.out with ⟨rfl,-⟩ | ⟨rfl,rfl,-,T5⟩
         ·exact .inl (by decide)
         ·rw [HRF.out]
          exact .inr ⟨rfl,H0.out,rfl,T5⟩
open Go.RowKit Go.Att

def Chn (cs:List (List Int)) (r:List Int):Prop:=∀ V:Int→Bool,(∀ c∈cs,clsT V c=true)→clsT V r=true
def ChainR (cs:List (List Int)) (v':Value) (w':World):Prop:=
 ∃ p n c e,v'=.tuple #[.slice p n c,.int .i64 e]∧(e≠0∨e=0∧∃ r,n=r.length∧TyRow 1 IntT 3 w' (.slice p n c) r∧Chn cs r)
theorem Chn.one {cs:List (List Int)} (h:0 < cs.length):Chn (cs.take 1) (cnL cs[0]):=fun V hV=>by
 rw [clsT_cnL]
 refine hV _ ?_
 cases cs with
 | nil=>simp at h
 | cons a _=>simp
theorem Chn.next {cs:List (List Int)} {r:List Int} {i:Nat} {on:Int} (hi:i < cs.length) (h:Chn (cs.take i) r) (h0:on≠0):Chn (cs.take (i+1)) (rsl r cs[i] on):=fun V hV=>by
 rw [← List.take_append_getElem hi] at hV
 refine rsl_sound h0 (h V fun c hc=>hV c (List.mem_append.2 (.inl hc))) (hV _ (List.mem_append.2 (.inr (List.mem_singleton.2 rfl))))
theorem RdRow.rowI {w:World} {a:Option Addr} {n c:Nat} {l:List (List Int)} (h:RdRow 1 (RowT 1 IntT) w (.slice a n c) l) (i:Nat) (hi:i < l.length):
  ∃ b off x m,a=some ⟨b,off,none⟩∧w.cell? ⟨b,off+i,none⟩=some (.slice x l[i].length m)∧RdRow 1 IntT w (.slice x l[i].length m) l[i]:=by
 obtain ⟨b1,o1,cs,he,hl,hT,hc⟩:=h.at (by decide) i hi
 obtain ⟨x,m,rfl,hr⟩:=cells_RowT hT
 have h0:=hc 0 (by decide)
 exact ⟨b1,o1,x,m,he,by simpa using h0,hr⟩
set_option maxRecDepth 100000 in
set_option linter.unusedSimpArgs false in
set_option maxHeartbeats 8000000 in
theorem chain_any {w:World} {v:Value} {cs:List (List Int)} (h:RdRow 1 (RowT 1 IntT) w v cs) (hl:∀ c∈cs,∀ z∈c,In64 z) (h1:∀ c∈cs,c.length≤100) (h2:cs.length≤100):
  Calls Tryz.prog 40 #[v] w (Gives w (ChainR cs)):=by
 refine via fun R hR=>?_
 obtain ⟨a,k,rfl,hk,-⟩:=h.shape
 have HK:=Lib.hid hk
 have HV:=Lib.hid h
 have HL:=Lib.hid hl
 have H1:=Lib.hid h1
 have H2:=Lib.hid h2
 clear h hl h1 h2 hk
 obtain ⟨n,hn⟩:∃ n,cs.length=n:=⟨_,rfl⟩
 have HN:=Lib.hid hn
 rw [hn] at HV H2 HK ⊢
 clear hn
 go_enter Tryz.func40,Tryz.ntmps40
 by_cases h0:n=0
 ·subst h0
  go_wp2_with fail
  exact hR.out _ _ (Gives.mk (Ext.refl _) ⟨_,_,_,1,rfl,.inl (by decide)⟩)
 ·have hz:(n == 0)=false:=beq_false_of_ne h0
  have hz':decide ((n:Int)=0)=false:=decide_eq_false (by omega)
  have hz2:((n:Int) == 0)=false:=beq_false_of_ne (by omega)
  go_upto_region 4 with fail
  go_loopw [20] (fun t wr=>∃ j:Nat,t=.int .i64 j∧j≤n∧Hid (Ext w wr)∧Hid (∀ i (h:i < cs.length),i < j→∀ z∈cs[i],szl z≠0)) (fun t _=>n - (intOf t).toNat)
  case atStart=>exact ⟨0,rfl,Nat.zero_le _,Ext.refl _,fun i _ h=>absurd h (Nat.not_lt_zero _)⟩
  case round=>
   obtain ⟨j,rfl,hj,hX,hP⟩:=hrel
   obtain ⟨w1,hw1⟩:∃ w1:World,w1=wr:=⟨_,rfl⟩
   subst hw1
   by_cases hjn:j < n
   ·have hd:decide ((j:Int) < (n:Int))=true:=decide_eq_true (by omega)
    have HJ2:(0:Int)≤(j:Int)∧(j:Int) < (n:Int):=⟨by omega,by omega⟩
    have HJ1:IntKind.i64.wrap ((j:Int)+1)=((j+1:Nat):Int):=by have:=H2.out;rw [IntKind.wrap_i64];omega
    have hjl:j < cs.length:=by rw [HN.out];exact hjn
    obtain ⟨b,off,x,m,he,hc,hr⟩:=RdRow.rowI (HV.out.ext (fun h x=>RowT.ext h IntT.ext x) hX.out) j hjl
    subst he
    have HC:=Lib.hid (ccanon_any hr (HL.out _ (List.getElem_mem hjl)) (by have:=H1.out _ (List.getElem_mem hjl);omega))
    have HGO:Hid ((∀ z∈cs[j],szl z≠0)→∀ i (h:i < cs.length),i < j+1→∀ z∈cs[i],szl z≠0):=fun g i h hi=>by
     by_cases he:i=j
     ·subst he;exact g
     ·exact hP.out i h (by omega)
    obtain ⟨cj,hcj⟩:∃ c,cs[j]=c:=⟨_,rfl⟩
    rw [hcj] at hc HC HGO
    clear hjl hr hcj hP
    go_upto_region 7 with (go_at_call 34;refine HC.out.mono ?_;rintro e w5 ⟨v5,rfl,X5,p5,n5,c5,e5,rfl,G5⟩;have G5:=Lib.hid G5;have X5:=Lib.hid X5)
    rcases G5.out with ⟨rfl,-⟩ | ⟨rfl,rfl,Z5,T5⟩
    ·go_wp2_with fail
     exact hR.out _ _ (Gives.mk (Ext.trans hX.out X5.out) ⟨_,_,_,4,rfl,.inl (by decide)⟩)
    ·have HG:=Lib.hid (HGO.out Z5)
     clear T5 G5 Z5 HGO
     go_wp2_with fail
     go_roundw
     case rel=>exact ⟨j+1,by go_num,by omega,Ext.trans hX.out X5.out,HG.out⟩
     case measure=>simp [intOf] <;> omega
   ·obtain rfl:j=n:=by omega
    have hd:decide ((j:Int) < (j:Int))=false:=decide_eq_false (by omega)
    have h0l:0 < cs.length:=by rw [HN.out];omega
    obtain ⟨b,off,x,m,he,hc,hr⟩:=RdRow.rowI (HV.out.ext (fun h x=>RowT.ext h IntT.ext x) hX.out) 0 h0l
    subst he
    have HC:=Lib.hid (ccanon_any hr (HL.out _ (List.getElem_mem h0l)) (by have:=H1.out _ (List.getElem_mem h0l);omega))
    have HCH:=Lib.hid (Chn.one h0l)
    have HM0:=Lib.hid (List.getElem_mem h0l)
    have HZ0:=Lib.hid (hP.out 0 h0l (by omega))
    obtain ⟨c0,hc0⟩:∃ c,cs[0]=c:=⟨_,rfl⟩
    rw [hc0] at hc HC HCH HM0 HZ0
    rw [Nat.add_zero] at hc
    have hj0:(0:Int) < (j:Int):=by omega
    clear h0l hr hc0 hP
    go_upto_region 11 with (go_at_call 34;refine HC.out.mono ?_;rintro e w5 ⟨v5,rfl,X5,p5,n5,c5,e5,rfl,G5⟩;have G5:=Lib.hid G5;have X5:=Lib.hid X5)
    rcases G5.out with ⟨rfl,z,hz,hz0⟩ | ⟨rfl,hn5,-,T5⟩
    ·exact absurd hz0 (HZ0.out z hz)
    ·have HT:=Lib.hid T5.1
     have XW:=Lib.hid (Ext.trans hX.out X5.out)
     have HIN:Hid (∀ z∈cnL c0,In64 z):=fun z hz=>HL.out _ HM0.out z (mem_cnL.1 hz)
     have HLE:Hid ((cnL c0).length≤100):=Nat.le_trans (cnL_len c0) (H1.out _ HM0.out)
     have HTY:=Lib.hid T5
     clear G5 hc HC T5 HZ0 HM0 hX X5
     generalize cnL c0=r0 at*
     have hj1:(1:Int)≤(j:Int):=by omega
     subst hn5
     by_cases hk:k=1
     ·subst hk
      obtain rfl:j=1:=by have:=HK.out;omega
      go_upto_region 12 with fail
      refine wp_loop_rounds 1 ?_
      rw [rounds_succ]
      go_wp2_with fail
      exact hR.out _ _ (Gives.mk XW.out ⟨_,_,_,0,rfl,.inr ⟨rfl,r0,rfl,HTY.out,by have:=HCH.out;rwa [List.take_of_length_le (by rw [HN.out];exact Nat.le_refl _)] at this⟩⟩)
     ·go_upto_region 12 with fail
      clear hz hz' hz2 hd hjn
      go_loopw [8,43] (fun t u wr=>∃ (i:Nat) (r:List Int) (a1:Option Addr) (c1:Nat),t=.slice a1 r.length c1∧u=.int .i64 i∧i+1≤j∧Hid (Ext w wr)∧Hid (TyRow 1 IntT 3 wr (.slice a1 r.length c1) r)∧Hid (∀ z∈r,In64 z)∧Hid (r.length≤100*(i+1))∧Hid (Chn (cs.take (i+1)) r)) (fun _ u _=>j - (intOf u).toNat)
      case atStart=>exact ⟨0,r0,p5,c5,rfl,rfl,by omega,XW.out,HTY.out,HIN.out,HLE.out,HCH.out⟩
      case round=>
       obtain ⟨i,r,a1,c1,rfl,rfl,hi,hX,hO,hI,hLn,hCh⟩:=hrel
       obtain ⟨w6,hw6⟩:∃ w6:World,w6=wr:=⟨_,rfl⟩
       subst hw6
       by_cases hij:i+1 < j
       ·have hd:decide ((i:Int) < (j:Int) - 1)=true:=decide_eq_true (by omega)
        have hd2:decide ((i:Int) < ((j - 1:Nat):Int))=true:=decide_eq_true (by omega)
        have HJ2:(0:Int)≤(i:Int)∧(i:Int) < ((j - 1:Nat):Int):=⟨by omega,by omega⟩
        have HJ1:IntKind.i64.wrap ((i:Int)+1)=((i+1:Nat):Int):=by have:=H2.out;rw [IntKind.wrap_i64];omega
        have hjl:i+1 < cs.length:=by rw [HN.out];exact hij
        obtain ⟨b',off',x',m',he,hc,hr⟩:=RdRow.rowI (HV.out.ext (fun h x=>RowT.ext h IntT.ext x) hX.out) (i+1) hjl
        simp only [Option.some.injEq,Addr.mk.injEq,and_true] at he
        obtain ⟨rfl,rfl⟩:=he
        have HLR:Hid (r.length≤1000000):=by have h1:=hLn.out;have h2:=H2.out;exact Lib.hid (by omega)
        have HC:=Lib.hid (resolve_any hO.out.1 hr hI.out (HL.out _ (List.getElem_mem hjl)) HLR.out (by have:=H1.out _ (List.getElem_mem hjl);omega))
        have HIc:=Lib.hid (HL.out _ (List.getElem_mem hjl))
        have HLc:=Lib.hid (H1.out _ (List.getElem_mem hjl))
        have HNX:Hid (∀ on,on≠0→Chn (cs.take (i+1+1)) (rsl r cs[i+1] on)):=fun on h0=>Chn.next hjl hCh.out h0
        obtain ⟨cj,hcj⟩:∃ c,cs[i+1]=c:=⟨_,rfl⟩
        rw [hcj] at hc HC HIc HLc HNX
        clear hjl hr hcj
        rw [show off+(i+1)=off+1+i by omega] at hc
        go_upto_region 15 with (go_at_call 70;refine HC.out.mono ?_;rintro e w7 ⟨v7,rfl,X7,p7,n7,c7,on,e7,rfl,G7⟩;have G7:=Lib.hid G7;have X7:=Lib.hid X7)
        rcases G7.out with he7 | ⟨rfl,hon,rfl,T7⟩
        ·have hb7:(e7 != 0)=true:=by simp [he7]
         have HE:=Lib.hid he7
         go_wp2_with fail
         exact hR.out _ _ (Gives.mk (Ext.trans hX.out X7.out) ⟨_,_,_,e7,rfl,.inl HE.out⟩)
        ·have HT7:=Lib.hid T7
         have HN7:=Lib.hid (HNX.out on hon)
         have HI7:Hid (∀ z∈rsl r cj on,In64 z):=fun z hz=>(mem_rsl hz).elim (hI.out z) (HIc.out z)
         have HL7:Hid ((rsl r cj on).length≤100*(i+1+1)):=by
          have g1:=rsl_len r cj on
          have g2:=hLn.out
          have g3:=HLc.out
          exact Lib.hid (by omega)
         clear G7 T7 HC hon HNX HLR
         generalize rsl r cj on=r2 at*
         go_wp2_with fail
         go_roundw
         case rel=>exact ⟨i+1,r2,p7,c7,rfl,by go_num,by omega,Ext.trans hX.out X7.out,HT7.out,HI7.out,HL7.out,HN7.out⟩
         case measure=>simp [intOf] <;> omega
       ·obtain rfl:j=i+1:=by omega
        have hd:decide ((i:Int) < ((i+1:Nat):Int) - 1)=false:=decide_eq_false (by omega)
        have hd2:decide ((i:Int) < ((i+1 - 1:Nat):Int))=false:=decide_eq_false (by omega)
        have hd3:decide ((i:Int) < (i:Int))=false:=decide_eq_false (by omega)
        go_wp2_with fail
        exact hR.out _ _ (Gives.mk hX.out ⟨_,_,_,0,rfl,.inr ⟨rfl,r,rfl,hO.out,by have:=hCh.out;rwa [List.take_of_length_le (by rw [HN.out];exact Nat.le_refl _)] at this⟩⟩)
end Go.Proofs.YtdooldpgnjmpfaaGreatDoor
