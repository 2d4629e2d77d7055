/- A group of texts: PChoose, PRatAbs, PHolds, PTabPoint -/
import Derived.Test.YthpaifdfafjlcaaGreatSq
import Derived.Test.YthpaifdfafjlcaaGreatNumsAll
import Derived.Test.YthpaifdfafjlcaaGreatR8All
import Derived.Test.YthpaifdfafjlcaaGreatRatAll
import Derived.Test.YthpaifdfafjlcaaGreatRatPlain
import Derived.Test.YthpaifdfafjlcaaGreatLimbAll
import Derived.Test.YthpaifdfafjlcaaGreatTabAll
import Derived.Test.YthpaifdfafjlcaaGreatSxC
namespace Go.Proofs.YthpaifdfafjlcaaGreat
open Go.RowKit Go.Att

def lst (x y:Rat):Rat:=if (x - y).num.sign≤0 then x else y
def chz:List ((Rat × Rat) × (Rat × Rat))→Rat→Option Rat
 | [],m=>some m
 | z :: r,m=>if 0 < cmpD z.1.1 z.1.2 z.2.1 z.2.2 then none else if (z.1.2 - z.2.2).num.sign≤0 then chz r m else chz r (lst m ((z.2.1 - z.1.1) / (z.1.2 - z.2.2)))
theorem chz_cons (z:(Rat × Rat) × (Rat × Rat)) (r:List ((Rat × Rat) × (Rat × Rat))) (m:Rat):chz (z :: r) m=if 0 < cmpD z.1.1 z.1.2 z.2.1 z.2.2 then none else if (z.1.2 - z.2.2).num.sign≤0 then chz r m else chz r (lst m ((z.2.1 - z.1.1) / (z.1.2 - z.2.2))):=rfl
def cho (A B:List (Rat × Rat)):Option Rat:=if A.length=B.length then chz (A.zip B) 1 else none
def ChR (w:World) (v:Value):Option Rat→Prop
 | some m=>∃ o,v=.tuple #[o,.int .i64 0]∧OwnQ 115 0 w o m∧Sz 250 m
 | none=>v=.tuple #[.agg #[.bool false,.slice none 0 0,.slice none 0 0],.int .i64 4]
def Wq (w:World) (v:Value) (q:Rat):Prop:=∃ o,v=.tuple #[o,.bool true]∧OwnQ 115 0 w o q
theorem Wq.ext {w w':World} {v:Value} {q:Rat} (h:Wq w v q) (x:Ext w w'):Wq w' v q:=by
 obtain ⟨o,rfl,h⟩:=h
 exact ⟨o,rfl,h.ext x⟩
abbrev BQ (w:World) (b:Nat) (q:Rat):Prop:=Bq 115 49 w b q
set_option maxHeartbeats 4000000 in
set_option linter.unusedSimpArgs false in
theorem choose_any {w:World} {v0 v1:Value} {A B:List (Rat × Rat)} (hv0:RdRow 6 (OwnDp 115) w v0 A) (hv1:RdRow 6 (OwnDp 115) w v1 B) (s0:∀ p∈A,Sz 40 p.1∧Sz 40 p.2) (s1:∀ p∈B,Sz 40 p.1∧Sz 40 p.2):
  Calls Tryz.prog 58 #[v0,v1] w (Gives w fun v' w'=>ChR w' v' (cho A B)):=by
 refine via fun R hR=>?_
 have HV0:=Lib.hid hv0
 have HV1:=Lib.hid hv1
 have S0:=Lib.hid s0
 have S1:=Lib.hid s1
 obtain ⟨a0,c0,rfl,hlc0,hcm0⟩:=hv0.shape
 obtain ⟨a1,c1,rfl,hlc1,hcm1⟩:=hv1.shape
 unfold maxLen at hcm0 hcm1
 clear hv0 hv1 s0 s1
 unfold cho at hR
 by_cases hlen:A.length=B.length
 ·rw [if_pos hlen] at hR
  have HLEN:=Lib.hid hlen
  have h1:((A.length:Int) != (B.length:Int))=false:=by rw [hlen];exact bne_self_eq_false _
  clear hlen
  have HLZ:Hid ((A.zip B).length=A.length):=by show _=_;rw [List.length_zip,← HLEN.out];exact Nat.min_self _
  obtain ⟨w1,hw1,b1,-,r1,-⟩:=bx1 w [.bool false,.slice none 0 0,.slice none 0 0] 49
  have HW:=Lib.hid hw1
  have R1:Hid (Rt w1 w.heap.size 3 49):=by show Rt _ _ _ _;rw [hw1];exact Rt.new w [_,_,_] _
  clear hw1 r1
  go_enter Tryz.func58,Tryz.ntmps58
  go_upto_region 3 with (fail)
  rw [← HW.out]
  clear HW h1
  go_wp2_with fail
  refine (rint_any (u:=1) (by omega)).mono ?_
  rintro e w2 ⟨v2,rfl,b2,o2⟩
  obtain ⟨t0,d1,n1,e1,d2,n2,e2,rfl,O2⟩:=o2.op
  clear o2
  go_wp2_with fail
  go_loopw [21] (fun i wr=>∃ (k:Nat) (m:Rat),i=.int .i64 k∧k≤A.length∧Ext w2 wr∧Hid (BQ wr w2.heap.size m)∧Hid (Sz 250 m)∧Hid (chz ((A.zip B).drop k) m=chz (A.zip B) 1)) (fun i _=>A.length - (intOf i).toNat)
  case atStart=>exact ⟨0,1,rfl,Nat.zero_le _,Ext.alloc _ _,Bq.new (O2.out.mono (Nat.zero_le _)),(Sz.int 1 (by omega)).le (by decide),rfl⟩
  case round=>
   obtain ⟨k,m,rfl,hk,hx,hB,hS,hC⟩:=hrel
   have b4:=hx
   have b04:=Ext.trans b1 (Ext.trans b2 b4)
   generalize wr=w4 at*
   by_cases hlt:k < A.length
   ·have hltm:k < B.length:=by have:=HLEN.out;omega
    obtain ⟨b,off,cs,rfl,hcl,hT,hc⟩:=HV0.out.at (by decide) k hlt
    obtain ⟨b',off',cs',rfl,hcl',hT',hc'⟩:=HV1.out.at (by decide) k hltm
    have hz:k < (A.zip B).length:=by rw [HLZ.out];exact hlt
    have hC2:=hC.out
    rw [List.drop_eq_getElem_cons hz,List.getElem_zip,chz_cons] at hC2
    have HC:=Lib.hid hC2
    have S2:=Lib.hid (S0.out _ (List.getElem_mem hlt))
    have S3:=Lib.hid (S1.out _ (List.getElem_mem hltm))
    have HA:Hid (OwnD 115 0 w (.agg cs.toArray) A[k].1 A[k].2):=hT
    have HB:Hid (OwnD 115 0 w (.agg cs'.toArray) B[k].1 B[k].2):=hT'
    have KA:Hid (Bo w b (off+k*6) cs):=Bo.of hc hcl
    have KB:Hid (Bo w b' (off'+k*6) cs'):=Bo.of hc' hcl'
    generalize A[k]=p at*
    generalize B[k]=y at*
    obtain ⟨g0,d3,n3,e3,d4,n4,e4,g1,d5,n5,e5,d6,n6,e6,hsa,-⟩:=RdD.op HA.out.rd
    obtain ⟨g2,d7,n7,e7,d8,n8,e8,g3,d9,n9,e9,d10,n10,e10,hsb,-⟩:=RdD.op HB.out.rd
    obtain rfl:cs=[.bool g0,.slice d3 n3 e3,.slice d4 n4 e4,.bool g1,.slice d5 n5 e5,.slice d6 n6 e6]:=by simpa using hsa
    obtain rfl:cs'=[.bool g2,.slice d7 n7 e7,.slice d8 n8 e8,.bool g3,.slice d9 n9 e9,.slice d10 n10 e10]:=by simpa using hsb
    clear hT hT' hc hc' hcl hcl' hsa hsb hC hC2
    obtain ⟨w5,hw5,b5,c5,d5',-,-,-⟩:=bx2 w4 [.bool g0,.slice d3 n3 e3,.slice d4 n4 e4,.bool g1,.slice d5 n5 e5,.slice d6 n6 e6] [.bool g2,.slice d7 n7 e7,.slice d8 n8 e8,.bool g3,.slice d9 n9 e9,.slice d10 n10 e10] 122 122
    have HW:=Lib.hid hw5
    have C5:=Lib.hid c5
    have D5:=Lib.hid d5'
    obtain ⟨u0,u1,u2,u3,u4,u5⟩:=(Bo.ext KA.out b04).c6
    obtain ⟨q0,q1,q2,q3,q4,q5⟩:=(Bo.ext KB.out (Ext.trans b04 (Ext.alloc w4 (.cells #[.bool g0,.slice d3 n3 e3,.slice d4 n4 e4,.bool g1,.slice d5 n5 e5,.slice d6 n6 e6] 122)))).c6
    clear hw5 c5 d5'
    go_upto_region 8 with (fail)
    rw [← HW.out]
    clear HW u0 u1 u2 u3 u4 u5 q0 q1 q2 q3 q4 q5
    have b05:=Ext.trans b04 b5
    obtain ⟨u0,u1,u2,u3,u4,u5⟩:=C5.out.c6
    obtain ⟨q0,q1,q2,q3,q4,q5⟩:=D5.out.c6
    go_wp2_with fail
    refine (dcmp_any (HA.out.rd.ext b05) (HB.out.rd.ext b05) (S2.out.1.le (by decide)) (S2.out.2.le (by decide)) (S3.out.1.le (by decide)) (S3.out.2.le (by decide))).mono ?_
    rintro e w6 ⟨_,rfl,b6,rfl⟩
    clear u0 u1 u2 u3 u4 u5 q0 q1 q2 q3 q4 q5
    have HSG:Hid (∀ w va vb,RdQ w va p.2→RdQ w vb y.2→Calls Tryz.prog 84 #[va,vb] w (Gives w fun v' _=>v'=.int .i64 (p.2 - y.2).num.sign)):=fun w va vb h1 h2=>rcmp_any h1 h2 (S2.out.2.le (by decide)) (S3.out.2.le (by decide))
    have HNZ:Hid (0 < (p.2 - y.2).num.sign→(p.2 - y.2).num≠0):=fun h h2=>by rw [h2] at h;exact absurd h (by decide)
    generalize cmpD p.1 p.2 y.1 y.2=t at*
    generalize (p.2 - y.2).num.sign=sg at*
    by_cases ht:0 < t
    ·have hC:none=chz (A.zip B) 1:=by have:=HC.out;rwa [if_pos ht] at this
     have htd:decide (0 < t)=true:=decide_eq_true ht
     obtain ⟨_,_,_,j0,j1,j2,i0,i1,i2⟩:=(R1.out.ext (Ext.trans b2 (Ext.trans b4 (Ext.trans b5 b6)))).rm.c3
     clear ht HC
     rw [← hC] at hR
     clear hC
     go_wp2_with fail
     refine bodyPost_ret (v:=.tuple #[.agg #[.bool false,.slice none 0 0,.slice none 0 0],.int .i64 4]) (by simp [results,Tryz.results58,go_sem,j0,j1,j2]) rfl ?_
     exact hR.out _ _ (Gives.mk (put3_below (Ext.trans b05 b6) (Nat.le_refl _) _ _ _) rfl)
    ·have HC1:Hid ((if sg≤0 then chz ((A.zip B).drop (k+1)) m else chz ((A.zip B).drop (k+1)) (lst m ((y.1 - p.1) / (p.2 - y.2))))=chz (A.zip B) 1):=by have:=HC.out;rwa [if_neg ht] at this
     have htd:decide (0 < t)=false:=decide_eq_false ht
     obtain ⟨u0,u1,u2,u3,u4,u5⟩:=(C5.out.ext b6).c6
     obtain ⟨q0,q1,q2,q3,q4,q5⟩:=(D5.out.ext b6).c6
     clear ht HC
     go_wp2_with fail
     clear u0 u1 u2 u3 u4 u5 q0 q1 q2 q3 q4 q5
     refine (HSG.out _ _ _ (RdD.snd3 (HA.out.rd.ext (Ext.trans b05 b6))) (RdD.snd3 (HB.out.rd.ext (Ext.trans b05 b6)))).mono ?_
     rintro e w7 ⟨_,rfl,b7,rfl⟩
     by_cases hs:sg≤0
     ·have HC2:Hid (chz ((A.zip B).drop (k+1)) m=chz (A.zip B) 1):=by have:=HC1.out;rwa [if_pos hs] at this
      have hsd:decide (sg≤0)=true:=decide_eq_true hs
      clear hs
      go_wp2_with fail
      go_roundw
      case rel=>exact ⟨k+1,m,by go_num,by omega,Ext.trans b4 (Ext.trans b5 (Ext.trans b6 b7)),hB.out.ext (Ext.trans b5 (Ext.trans b6 b7)),hS,HC2⟩
      case measure=>simp [intOf] <;> omega
     ·have HC2:Hid (chz ((A.zip B).drop (k+1)) (lst m ((y.1 - p.1) / (p.2 - y.2)))=chz (A.zip B) 1):=by have:=HC1.out;rwa [if_neg hs] at this
      have HN0:=Lib.hid (HNZ.out (Int.not_le.1 hs))
      have hsd:decide (sg≤0)=false:=decide_eq_false hs
      clear hs HC1
      have QA1:Hid (RdQ w7 (.agg #[.bool g0,.slice d3 n3 e3,.slice d4 n4 e4]) p.1):=RdD.fst3 (HA.out.rd.ext (Ext.trans b05 (Ext.trans b6 b7)))
      have QA2:Hid (RdQ w7 (.agg #[.bool g1,.slice d5 n5 e5,.slice d6 n6 e6]) p.2):=RdD.snd3 (HA.out.rd.ext (Ext.trans b05 (Ext.trans b6 b7)))
      have QB1:Hid (RdQ w7 (.agg #[.bool g2,.slice d7 n7 e7,.slice d8 n8 e8]) y.1):=RdD.fst3 (HB.out.rd.ext (Ext.trans b05 (Ext.trans b6 b7)))
      have QB2:Hid (RdQ w7 (.agg #[.bool g3,.slice d9 n9 e9,.slice d10 n10 e10]) y.2):=RdD.snd3 (HB.out.rd.ext (Ext.trans b05 (Ext.trans b6 b7)))
      have C7:=Lib.hid (C5.out.ext (Ext.trans b6 b7))
      have D7:=Lib.hid (D5.out.ext (Ext.trans b6 b7))
      have SZC:Hid (w4.heap.size < w7.heap.size):=World.block_lt_of_cell? _ _ C7.out.c6.1
      have SZD:Hid (w4.heap.size+1 < w7.heap.size):=World.block_lt_of_cell? _ _ D7.out.c6.1
      have HSB1:Hid (∀ w va vb,RdQ w va y.1→RdQ w vb p.1→Calls Tryz.prog 86 #[va,vb] w (Gives w fun v' w'=>OwnQ 115 0 w' v' (y.1 - p.1))):=fun w va vb h1 h2=>(rsub_any h1 h2 (S3.out.1.le (by decide)) (S2.out.1.le (by decide))).mono fun _ _ ⟨v,e,b,o⟩=>⟨v,e,b,o.mono (Nat.zero_le _)⟩
      have HSB2:Hid (∀ w va vb,RdQ w va p.2→RdQ w vb y.2→Calls Tryz.prog 86 #[va,vb] w (Gives w fun v' w'=>OwnQ 115 0 w' v' (p.2 - y.2))):=fun w va vb h1 h2=>(rsub_any h1 h2 (S2.out.2.le (by decide)) (S3.out.2.le (by decide))).mono fun _ _ ⟨v,e,b,o⟩=>⟨v,e,b,o.mono (Nat.zero_le _)⟩
      have z1:Sz 81 (y.1 - p.1):=by rw [Rat.sub_eq_add_neg];exact (S3.out.1.add S2.out.1.neg)
      have z2:Sz 81 (p.2 - y.2):=by rw [Rat.sub_eq_add_neg];exact (S2.out.2.add S3.out.2.neg)
      have HDV:Hid (∀ w va vb,OwnQ 115 0 w va (y.1 - p.1)→OwnQ 115 0 w vb (p.2 - y.2)→Calls Tryz.prog 85 #[va,vb] w (Gives w fun v' w'=>Wq w' v' ((y.1 - p.1) / (p.2 - y.2)))):=fun w va vb h1 h2=>(rdiv_any h1.rd h2.rd (z1.le (by decide)) (z2.le (by decide)) HN0.out).mono fun _ _ ⟨v,e,b,o,e2,h⟩=>⟨v,e,b,o,e2,h.mono (Nat.zero_le _)⟩
      have SQ:Hid (Sz 250 ((y.1 - p.1) / (p.2 - y.2))):=by
       show Sz _ _
       rw [Rat.div_def]
       exact (z1.mul z2.inv).le (by decide)
      generalize (y.1 - p.1) / (p.2 - y.2)=dq at*
      generalize y.1 - p.1=f1 at*
      generalize p.2 - y.2=f2 at*
      clear z1 z2
      go_upto_region 11 with (fail)
      go_cut [10] (fun s10 wx=>∃ E,s10=.pointer (some ⟨E,0,none⟩)∧Ext w7 wx∧Hid (BQ wx E dq))
      case first=>
       refine wp_region_noPanic ?_
       refine wp_region_held_drew (S:=fun w'=>(w'.cell? ⟨w4.heap.size,0,none⟩=some (.bool g0)∧w'.cell? ⟨w4.heap.size,1,none⟩=some (.slice d3 n3 e3)∧w'.cell? ⟨w4.heap.size,2,none⟩=some (.slice d4 n4 e4)∧w'.cell? ⟨w4.heap.size,3,none⟩=some (.bool g1)∧w'.cell? ⟨w4.heap.size,4,none⟩=some (.slice d5 n5 e5)∧w'.cell? ⟨w4.heap.size,5,none⟩=some (.slice d6 n6 e6))∧(w'.cell? ⟨w4.heap.size+1,0,none⟩=some (.bool g2)∧w'.cell? ⟨w4.heap.size+1,1,none⟩=some (.slice d7 n7 e7)∧w'.cell? ⟨w4.heap.size+1,2,none⟩=some (.slice d8 n8 e8)∧w'.cell? ⟨w4.heap.size+1,3,none⟩=some (.bool g3)∧w'.cell? ⟨w4.heap.size+1,4,none⟩=some (.slice d9 n9 e9)∧w'.cell? ⟨w4.heap.size+1,5,none⟩=some (.slice d10 n10 e10))) (by kernel_rfl) (⟨(C7.out.ext (drew_ext w7)).c6,(D7.out.ext (drew_ext w7)).c6⟩) (fun hHeld=>?_)
       refine tkH 0 hHeld ?_
       simp only [jP,jA,jB,jC,jD,jE,jF]
       refine tkH 2 hHeld ?_
       simp only [jP,jA,jB,jC,jD,jE,jF]
       refine tkH 5 hHeld ?_
       simp only [jP,jA,jB,jC,jD,jE,jF]
       refine tkH 7 hHeld ?_
       simp only [jP,jA,jB,jC,jD,jE,jF]
       refine tkH 1 hHeld ?_
       simp only [jP,jA,jB,jC,jD,jE,jF]
       refine tkH 3 hHeld ?_
       simp only [jP,jA,jB,jC,jD,jE,jF]
       refine tkH 6 hHeld ?_
       simp only [jP,jA,jB,jC,jD,jE,jF]
       refine tkH 8 hHeld ?_
       simp only [jP,jA,jB,jC,jD,jE,jF]
       refine anyH_cap fun O Q9 AA hO hQ hA=>?_
       obtain ⟨SS,hSS⟩:∃ SS:World→Prop,Hid (SS=fun w'=>(w'.cell? ⟨w4.heap.size,0,none⟩=some (.bool g0)∧w'.cell? ⟨w4.heap.size,1,none⟩=some (.slice d3 n3 e3)∧w'.cell? ⟨w4.heap.size,2,none⟩=some (.slice d4 n4 e4)∧w'.cell? ⟨w4.heap.size,3,none⟩=some (.bool g1)∧w'.cell? ⟨w4.heap.size,4,none⟩=some (.slice d5 n5 e5)∧w'.cell? ⟨w4.heap.size,5,none⟩=some (.slice d6 n6 e6))∧(w'.cell? ⟨w4.heap.size+1,0,none⟩=some (.bool g2)∧w'.cell? ⟨w4.heap.size+1,1,none⟩=some (.slice d7 n7 e7)∧w'.cell? ⟨w4.heap.size+1,2,none⟩=some (.slice d8 n8 e8)∧w'.cell? ⟨w4.heap.size+1,3,none⟩=some (.bool g3)∧w'.cell? ⟨w4.heap.size+1,4,none⟩=some (.slice d9 n9 e9)∧w'.cell? ⟨w4.heap.size+1,5,none⟩=some (.slice d10 n10 e10))):=⟨_,rfl⟩
       have KP:Hid (∀ wv,Ext w7 wv→SS wv):=fun wv XE=>by rw [hSS.out];exact ⟨(C7.out.ext XE).c6,(D7.out.ext XE).c6⟩
       have L6_14:∀ (wv:World) (v4 v9 v10 v11 v12 v13:Value) (B14:Nat),Hid (Ext w7 wv)→Hid (OwnQ 115 0 wv v4 f1)→Hid (OwnQ 115 0 wv v9 f2)→Hid (Wq wv v10 dq)→Hid (Wq wv v11 dq)→Hid (Wq wv (.tuple #[v12,.bool true]) dq)→Hid (Wq wv (.tuple #[v12,v13]) dq)→Hid (Rt wv B14 3 49)→Hid (w7.heap.size≤B14)→wpAnyH Tryz.prog .any O Q9 SS 2 #[true,true,true,true,true,true,true,true,true,true,true,true,true,true,true,false,false] (((((((AA.put (some 46) v4).put (some 51) v9).put (some 52) v10).put (some 41) v11).put (some 53) v12).put (some 54) v13).put (some 10) (.pointer (some ⟨B14,0,none⟩))) wv:=by
        intro wv v4 v9 v10 v11 v12 v13 B14 hX p4 p9 p10 p11 p12 p13 r14 s14
        have hO1:=hO.out
        have hQ1:=hQ.out
        have hA1:=hA.out
        subst hO1
        subst hQ1
        subst hA1
        have XE:=hX.out
        have hHeld:=KP.out _ XE
        have hS1:=hSS.out
        subst hS1
        try simp only [jP,jA,jB,jC,jD,jE,jF]
        have k0_14:w4.heap.size≠B14:=by have h1:=s14.out;have hz0:=SZC.out;have hz1:=SZD.out;omega
        have k1_14:w4.heap.size+1≠B14:=by have h1:=s14.out;have hz0:=SZC.out;have hz1:=SZD.out;omega
        obtain ⟨_,_,_,i14_0,i14_1,i14_2,f14_0,f14_1,f14_2⟩:=r14.out.rm.c3
        obtain ⟨o7,he7,oo7⟩:=p13.out
        obtain ⟨rfl,rfl⟩:v12=o7∧v13=.bool true:=by simpa using he7
        obtain ⟨_,_,_,_,_,_,_,rfl,OO⟩:=oo7.op
        refine rdH 15 (by kernel_rfl) rfl (fun K hK=>?_)
        go_simp
        refine hK.out _ _ (⟨((C7.out.ext XE).putL k0_14 0 [_,_,_]).c6,((D7.out.ext XE).putL k1_14 0 [_,_,_]).c6⟩) (fun hHeld=>?_)
        clear hK K
        try simp only [jP,jA,jB,jC,jD,jE,jF]
        refine tkH 16 hHeld ?_
        simp only [jP,jA,jB,jC,jD,jE,jF]
        refine wpAnyH_done (by kernel_rfl) ?_ _
        refine NoPanic.normal ?_
        go_wp2_with fail
        go_meet
        exact ⟨B14,rfl,put3_below hX.out s14.out _ _ _,Bq.set r14.out (by decide) OO.out⟩
       have L5_14:∀ (wv:World) (v4 v9 v10 v11 v12:Value) (B14:Nat),Hid (Ext w7 wv)→Hid (OwnQ 115 0 wv v4 f1)→Hid (OwnQ 115 0 wv v9 f2)→Hid (Wq wv v10 dq)→Hid (Wq wv v11 dq)→Hid (Wq wv (.tuple #[v12,.bool true]) dq)→Hid (Rt wv B14 3 49)→Hid (w7.heap.size≤B14)→wpAnyH Tryz.prog .any O Q9 SS 3 #[true,true,true,true,true,true,true,true,true,true,true,true,true,false,true,false,false] ((((((AA.put (some 46) v4).put (some 51) v9).put (some 52) v10).put (some 41) v11).put (some 53) v12).put (some 10) (.pointer (some ⟨B14,0,none⟩))) wv:=by
        intro wv v4 v9 v10 v11 v12 B14 hX p4 p9 p10 p11 p12 r14 s14
        have hO1:=hO.out
        have hQ1:=hQ.out
        have hA1:=hA.out
        subst hO1
        subst hQ1
        subst hA1
        have XE:=hX.out
        have hHeld:=KP.out _ XE
        have hS1:=hSS.out
        subst hS1
        try simp only [jP,jA,jB,jC,jD,jE,jF]
        obtain ⟨o7,rfl,oo7⟩:=p11.out
        refine tkH 13 hHeld ?_
        simp only [jP,jA,jB,jC,jD,jE,jF]
        exact wpAnyH_at (L6_14 wv _ _ _ _ _ _ B14 hX.out p4.out p9.out p10.out p11.out p12.out (p12.out) r14.out s14.out) (by kernel_rfl) (by kernel_rfl) (by kernel_rfl)
       have L6_:∀ (wv:World) (v4 v9 v10 v11 v12 v13:Value),Hid (Ext w7 wv)→Hid (OwnQ 115 0 wv v4 f1)→Hid (OwnQ 115 0 wv v9 f2)→Hid (Wq wv v10 dq)→Hid (Wq wv v11 dq)→Hid (Wq wv (.tuple #[v12,.bool true]) dq)→Hid (Wq wv (.tuple #[v12,v13]) dq)→wpAnyH Tryz.prog .any O Q9 SS 3 #[true,true,true,true,true,true,true,true,true,true,true,true,true,true,false,false,false] ((((((AA.put (some 46) v4).put (some 51) v9).put (some 52) v10).put (some 41) v11).put (some 53) v12).put (some 54) v13) wv:=by
        intro wv v4 v9 v10 v11 v12 v13 hX p4 p9 p10 p11 p12 p13
        have hO1:=hO.out
        have hQ1:=hQ.out
        have hA1:=hA.out
        subst hO1
        subst hQ1
        subst hA1
        have XE:=hX.out
        try simp only [jP,jA,jB,jC,jD,jE,jF]
        refine rdH 14 (by kernel_rfl) rfl (fun K hK=>?_)
        go_simp
        refine hK.out _ _ (KP.out _ (Ext.trans XE (Ext.alloc _ _))) (fun _=>?_)
        clear hK K
        try simp only [jP,jA,jB,jC,jD,jE,jF]
        exact wpAnyH_at (L6_14 _ v4 v9 v10 v11 v12 v13 wv.heap.size (Ext.trans XE (Ext.alloc wv (.cells [.bool false,.slice none 0 0,.slice none 0 0].toArray 49))) (p4.out.ext (Ext.alloc wv (.cells [.bool false,.slice none 0 0,.slice none 0 0].toArray 49))) (p9.out.ext (Ext.alloc wv (.cells [.bool false,.slice none 0 0,.slice none 0 0].toArray 49))) (p10.out.ext (Ext.alloc wv (.cells [.bool false,.slice none 0 0,.slice none 0 0].toArray 49))) (p11.out.ext (Ext.alloc wv (.cells [.bool false,.slice none 0 0,.slice none 0 0].toArray 49))) (p12.out.ext (Ext.alloc wv (.cells [.bool false,.slice none 0 0,.slice none 0 0].toArray 49))) (p13.out.ext (Ext.alloc wv (.cells [.bool false,.slice none 0 0,.slice none 0 0].toArray 49))) (Rt.new wv [.bool false,.slice none 0 0,.slice none 0 0] 49) (Below.size XE)) (by kernel_rfl) (by kernel_rfl) (by kernel_rfl)
       have L4_14:∀ (wv:World) (v4 v9 v10 v11:Value) (B14:Nat),Hid (Ext w7 wv)→Hid (OwnQ 115 0 wv v4 f1)→Hid (OwnQ 115 0 wv v9 f2)→Hid (Wq wv v10 dq)→Hid (Wq wv v11 dq)→Hid (Rt wv B14 3 49)→Hid (w7.heap.size≤B14)→wpAnyH Tryz.prog .any O Q9 SS 4 #[true,true,true,true,true,true,true,true,true,true,true,true,false,false,true,false,false] (((((AA.put (some 46) v4).put (some 51) v9).put (some 52) v10).put (some 41) v11).put (some 10) (.pointer (some ⟨B14,0,none⟩))) wv:=by
        intro wv v4 v9 v10 v11 B14 hX p4 p9 p10 p11 r14 s14
        have hO1:=hO.out
        have hQ1:=hQ.out
        have hA1:=hA.out
        subst hO1
        subst hQ1
        subst hA1
        have XE:=hX.out
        have hHeld:=KP.out _ XE
        have hS1:=hSS.out
        subst hS1
        try simp only [jP,jA,jB,jC,jD,jE,jF]
        obtain ⟨o7,rfl,oo7⟩:=p11.out
        refine tkH 12 hHeld ?_
        simp only [jP,jA,jB,jC,jD,jE,jF]
        exact wpAnyH_at (L5_14 wv _ _ _ _ _ B14 hX.out p4.out p9.out p10.out p11.out (p11.out) r14.out s14.out) (by kernel_rfl) (by kernel_rfl) (by kernel_rfl)
       have L5_:∀ (wv:World) (v4 v9 v10 v11 v12:Value),Hid (Ext w7 wv)→Hid (OwnQ 115 0 wv v4 f1)→Hid (OwnQ 115 0 wv v9 f2)→Hid (Wq wv v10 dq)→Hid (Wq wv v11 dq)→Hid (Wq wv (.tuple #[v12,.bool true]) dq)→wpAnyH Tryz.prog .any O Q9 SS 4 #[true,true,true,true,true,true,true,true,true,true,true,true,true,false,false,false,false] (((((AA.put (some 46) v4).put (some 51) v9).put (some 52) v10).put (some 41) v11).put (some 53) v12) wv:=by
        intro wv v4 v9 v10 v11 v12 hX p4 p9 p10 p11 p12
        have hO1:=hO.out
        have hQ1:=hQ.out
        have hA1:=hA.out
        subst hO1
        subst hQ1
        subst hA1
        have XE:=hX.out
        have hHeld:=KP.out _ XE
        have hS1:=hSS.out
        subst hS1
        try simp only [jP,jA,jB,jC,jD,jE,jF]
        obtain ⟨o7,rfl,oo7⟩:=p11.out
        refine tkH 13 hHeld ?_
        simp only [jP,jA,jB,jC,jD,jE,jF]
        exact wpAnyH_at (L6_ wv _ _ _ _ _ _ hX.out p4.out p9.out p10.out p11.out p12.out (p12.out)) (by kernel_rfl) (by kernel_rfl) (by kernel_rfl)
       have L3_14:∀ (wv:World) (v4 v9 v10:Value) (B14:Nat),Hid (Ext w7 wv)→Hid (OwnQ 115 0 wv v4 f1)→Hid (OwnQ 115 0 wv v9 f2)→Hid (Wq wv v10 dq)→Hid (Rt wv B14 3 49)→Hid (w7.heap.size≤B14)→wpAnyH Tryz.prog .any O Q9 SS 5 #[true,true,true,true,true,true,true,true,true,true,true,false,false,false,true,false,false] ((((AA.put (some 46) v4).put (some 51) v9).put (some 52) v10).put (some 10) (.pointer (some ⟨B14,0,none⟩))) wv:=by
        intro wv v4 v9 v10 B14 hX p4 p9 p10 r14 s14
        have hO1:=hO.out
        have hQ1:=hQ.out
        have hA1:=hA.out
        subst hO1
        subst hQ1
        subst hA1
        have XE:=hX.out
        have hHeld:=KP.out _ XE
        have hS1:=hSS.out
        subst hS1
        try simp only [jP,jA,jB,jC,jD,jE,jF]
        refine tkH 11 hHeld ?_
        simp only [jP,jA,jB,jC,jD,jE,jF]
        exact wpAnyH_at (L4_14 wv _ _ _ _ B14 hX.out p4.out p9.out p10.out (p10.out) r14.out s14.out) (by kernel_rfl) (by kernel_rfl) (by kernel_rfl)
       have L4_:∀ (wv:World) (v4 v9 v10 v11:Value),Hid (Ext w7 wv)→Hid (OwnQ 115 0 wv v4 f1)→Hid (OwnQ 115 0 wv v9 f2)→Hid (Wq wv v10 dq)→Hid (Wq wv v11 dq)→wpAnyH Tryz.prog .any O Q9 SS 5 #[true,true,true,true,true,true,true,true,true,true,true,true,false,false,false,false,false] ((((AA.put (some 46) v4).put (some 51) v9).put (some 52) v10).put (some 41) v11) wv:=by
        intro wv v4 v9 v10 v11 hX p4 p9 p10 p11
        have hO1:=hO.out
        have hQ1:=hQ.out
        have hA1:=hA.out
        subst hO1
        subst hQ1
        subst hA1
        have XE:=hX.out
        have hHeld:=KP.out _ XE
        have hS1:=hSS.out
        subst hS1
        try simp only [jP,jA,jB,jC,jD,jE,jF]
        obtain ⟨o7,rfl,oo7⟩:=p11.out
        refine tkH 12 hHeld ?_
        simp only [jP,jA,jB,jC,jD,jE,jF]
        exact wpAnyH_at (L5_ wv _ _ _ _ _ hX.out p4.out p9.out p10.out p11.out (p11.out)) (by kernel_rfl) (by kernel_rfl) (by kernel_rfl)
       have L2_14:∀ (wv:World) (v4 v9:Value) (B14:Nat),Hid (Ext w7 wv)→Hid (OwnQ 115 0 wv v4 f1)→Hid (OwnQ 115 0 wv v9 f2)→Hid (Rt wv B14 3 49)→Hid (w7.heap.size≤B14)→wpAnyH Tryz.prog .any O Q9 SS 6 #[true,true,true,true,true,true,true,true,true,true,false,false,false,false,true,false,false] (((AA.put (some 46) v4).put (some 51) v9).put (some 10) (.pointer (some ⟨B14,0,none⟩))) wv:=by
        intro wv v4 v9 B14 hX p4 p9 r14 s14
        have hO1:=hO.out
        have hQ1:=hQ.out
        have hA1:=hA.out
        subst hO1
        subst hQ1
        subst hA1
        have XE:=hX.out
        try simp only [jP,jA,jB,jC,jD,jE,jF]
        refine rdH 10 (by kernel_rfl) rfl (fun K hK=>?_)
        go_simp
        go_at_call 85
        refine (HDV.out _ _ _ p4.out p9.out).mono ?_
        rintro e wn ⟨vn,rfl,bn,on⟩
        go_wp2_with fail
        refine hK.out _ _ (KP.out _ (Ext.trans XE bn)) (fun _=>?_)
        clear hK K
        try simp only [jP,jA,jB,jC,jD,jE,jF]
        exact wpAnyH_at (L3_14 wn v4 v9 vn B14 (Ext.trans XE bn) (p4.out.ext bn) (p9.out.ext bn) (on) (r14.out.ext bn) s14) (by kernel_rfl) (by kernel_rfl) (by kernel_rfl)
       have L3_:∀ (wv:World) (v4 v9 v10:Value),Hid (Ext w7 wv)→Hid (OwnQ 115 0 wv v4 f1)→Hid (OwnQ 115 0 wv v9 f2)→Hid (Wq wv v10 dq)→wpAnyH Tryz.prog .any O Q9 SS 6 #[true,true,true,true,true,true,true,true,true,true,true,false,false,false,false,false,false] (((AA.put (some 46) v4).put (some 51) v9).put (some 52) v10) wv:=by
        intro wv v4 v9 v10 hX p4 p9 p10
        have hO1:=hO.out
        have hQ1:=hQ.out
        have hA1:=hA.out
        subst hO1
        subst hQ1
        subst hA1
        have XE:=hX.out
        have hHeld:=KP.out _ XE
        have hS1:=hSS.out
        subst hS1
        try simp only [jP,jA,jB,jC,jD,jE,jF]
        refine tkH 11 hHeld ?_
        simp only [jP,jA,jB,jC,jD,jE,jF]
        exact wpAnyH_at (L4_ wv _ _ _ _ hX.out p4.out p9.out p10.out (p10.out)) (by kernel_rfl) (by kernel_rfl) (by kernel_rfl)
       have L1_14:∀ (wv:World) (v4:Value) (B14:Nat),Hid (Ext w7 wv)→Hid (OwnQ 115 0 wv v4 f1)→Hid (Rt wv B14 3 49)→Hid (w7.heap.size≤B14)→wpAnyH Tryz.prog .any O Q9 SS 7 #[true,true,true,true,true,true,true,true,true,false,false,false,false,false,true,false,false] ((AA.put (some 46) v4).put (some 10) (.pointer (some ⟨B14,0,none⟩))) wv:=by
        intro wv v4 B14 hX p4 r14 s14
        have hO1:=hO.out
        have hQ1:=hQ.out
        have hA1:=hA.out
        subst hO1
        subst hQ1
        subst hA1
        have XE:=hX.out
        try simp only [jP,jA,jB,jC,jD,jE,jF]
        refine rdH 9 (by kernel_rfl) rfl (fun K hK=>?_)
        go_simp
        go_at_call 86
        refine (HSB2.out _ _ _ (QA2.out.ext XE) (QB2.out.ext XE)).mono ?_
        rintro e wn ⟨vn,rfl,bn,on⟩
        go_wp2_with fail
        refine hK.out _ _ (KP.out _ (Ext.trans XE bn)) (fun _=>?_)
        clear hK K
        try simp only [jP,jA,jB,jC,jD,jE,jF]
        exact wpAnyH_at (L2_14 wn v4 vn B14 (Ext.trans XE bn) (p4.out.ext bn) (on) (r14.out.ext bn) s14) (by kernel_rfl) (by kernel_rfl) (by kernel_rfl)
       have L2_:∀ (wv:World) (v4 v9:Value),Hid (Ext w7 wv)→Hid (OwnQ 115 0 wv v4 f1)→Hid (OwnQ 115 0 wv v9 f2)→wpAnyH Tryz.prog .any O Q9 SS 7 #[true,true,true,true,true,true,true,true,true,true,false,false,false,false,false,false,false] ((AA.put (some 46) v4).put (some 51) v9) wv:=by
        intro wv v4 v9 hX p4 p9
        have hO1:=hO.out
        have hQ1:=hQ.out
        have hA1:=hA.out
        subst hO1
        subst hQ1
        subst hA1
        have XE:=hX.out
        try simp only [jP,jA,jB,jC,jD,jE,jF]
        refine wpAnyH_ready (rs:=[10,14]) (by kernel_rfl) (by simp) ?_
        refine AllReadyH.cons (o:=_) rfl (fun K hK=>?_) (AllReadyH.cons (o:=_) rfl (fun K hK=>?_) AllReadyH.nil)
        ·skip
         go_simp
         go_at_call 85
         refine (HDV.out _ _ _ p4.out p9.out).mono ?_
         rintro e wn ⟨vn,rfl,bn,on⟩
         go_wp2_with fail
         refine hK.out _ _ (KP.out _ (Ext.trans XE bn)) (fun _=>?_)
         clear hK K
         try simp only [jP,jA,jB,jC,jD,jE,jF]
         exact wpAnyH_at (L3_ wn v4 v9 vn (Ext.trans XE bn) (p4.out.ext bn) (p9.out.ext bn) (on)) (by kernel_rfl) (by kernel_rfl) (by kernel_rfl)
        ·skip
         go_simp
         refine hK.out _ _ (KP.out _ (Ext.trans XE (Ext.alloc _ _))) (fun _=>?_)
         clear hK K
         try simp only [jP,jA,jB,jC,jD,jE,jF]
         exact wpAnyH_at (L2_14 _ v4 v9 wv.heap.size (Ext.trans XE (Ext.alloc wv (.cells [.bool false,.slice none 0 0,.slice none 0 0].toArray 49))) (p4.out.ext (Ext.alloc wv (.cells [.bool false,.slice none 0 0,.slice none 0 0].toArray 49))) (p9.out.ext (Ext.alloc wv (.cells [.bool false,.slice none 0 0,.slice none 0 0].toArray 49))) (Rt.new wv [.bool false,.slice none 0 0,.slice none 0 0] 49) (Below.size XE)) (by kernel_rfl) (by kernel_rfl) (by kernel_rfl)
       have L0_14:∀ (wv:World) (B14:Nat),Hid (Ext w7 wv)→Hid (Rt wv B14 3 49)→Hid (w7.heap.size≤B14)→wpAnyH Tryz.prog .any O Q9 SS 8 #[true,true,true,true,false,true,true,true,true,false,false,false,false,false,true,false,false] (AA.put (some 10) (.pointer (some ⟨B14,0,none⟩))) wv:=by
        intro wv B14 hX r14 s14
        have hO1:=hO.out
        have hQ1:=hQ.out
        have hA1:=hA.out
        subst hO1
        subst hQ1
        subst hA1
        have XE:=hX.out
        try simp only [jP,jA,jB,jC,jD,jE,jF]
        refine rdH 4 (by kernel_rfl) rfl (fun K hK=>?_)
        go_simp
        go_at_call 86
        refine (HSB1.out _ _ _ (QB1.out.ext XE) (QA1.out.ext XE)).mono ?_
        rintro e wn ⟨vn,rfl,bn,on⟩
        go_wp2_with fail
        refine hK.out _ _ (KP.out _ (Ext.trans XE bn)) (fun _=>?_)
        clear hK K
        try simp only [jP,jA,jB,jC,jD,jE,jF]
        exact wpAnyH_at (L1_14 wn vn B14 (Ext.trans XE bn) (on) (r14.out.ext bn) s14) (by kernel_rfl) (by kernel_rfl) (by kernel_rfl)
       have L1_:∀ (wv:World) (v4:Value),Hid (Ext w7 wv)→Hid (OwnQ 115 0 wv v4 f1)→wpAnyH Tryz.prog .any O Q9 SS 8 #[true,true,true,true,true,true,true,true,true,false,false,false,false,false,false,false,false] (AA.put (some 46) v4) wv:=by
        intro wv v4 hX p4
        have hO1:=hO.out
        have hQ1:=hQ.out
        have hA1:=hA.out
        subst hO1
        subst hQ1
        subst hA1
        have XE:=hX.out
        try simp only [jP,jA,jB,jC,jD,jE,jF]
        refine wpAnyH_ready (rs:=[9,14]) (by kernel_rfl) (by simp) ?_
        refine AllReadyH.cons (o:=_) rfl (fun K hK=>?_) (AllReadyH.cons (o:=_) rfl (fun K hK=>?_) AllReadyH.nil)
        ·skip
         go_simp
         go_at_call 86
         refine (HSB2.out _ _ _ (QA2.out.ext XE) (QB2.out.ext XE)).mono ?_
         rintro e wn ⟨vn,rfl,bn,on⟩
         go_wp2_with fail
         refine hK.out _ _ (KP.out _ (Ext.trans XE bn)) (fun _=>?_)
         clear hK K
         try simp only [jP,jA,jB,jC,jD,jE,jF]
         exact wpAnyH_at (L2_ wn v4 vn (Ext.trans XE bn) (p4.out.ext bn) (on)) (by kernel_rfl) (by kernel_rfl) (by kernel_rfl)
        ·skip
         go_simp
         refine hK.out _ _ (KP.out _ (Ext.trans XE (Ext.alloc _ _))) (fun _=>?_)
         clear hK K
         try simp only [jP,jA,jB,jC,jD,jE,jF]
         exact wpAnyH_at (L1_14 _ v4 wv.heap.size (Ext.trans XE (Ext.alloc wv (.cells [.bool false,.slice none 0 0,.slice none 0 0].toArray 49))) (p4.out.ext (Ext.alloc wv (.cells [.bool false,.slice none 0 0,.slice none 0 0].toArray 49))) (Rt.new wv [.bool false,.slice none 0 0,.slice none 0 0] 49) (Below.size XE)) (by kernel_rfl) (by kernel_rfl) (by kernel_rfl)
       have L0_:∀ (wv:World),Hid (Ext w7 wv)→wpAnyH Tryz.prog .any O Q9 SS 9 #[true,true,true,true,false,true,true,true,true,false,false,false,false,false,false,false,false] AA wv:=by
        intro wv hX
        have hO1:=hO.out
        have hQ1:=hQ.out
        have hA1:=hA.out
        subst hO1
        subst hQ1
        subst hA1
        have XE:=hX.out
        try simp only [jP,jA,jB,jC,jD,jE,jF]
        refine wpAnyH_ready (rs:=[4,14]) (by kernel_rfl) (by simp) ?_
        refine AllReadyH.cons (o:=_) rfl (fun K hK=>?_) (AllReadyH.cons (o:=_) rfl (fun K hK=>?_) AllReadyH.nil)
        ·skip
         go_simp
         go_at_call 86
         refine (HSB1.out _ _ _ (QB1.out.ext XE) (QA1.out.ext XE)).mono ?_
         rintro e wn ⟨vn,rfl,bn,on⟩
         go_wp2_with fail
         refine hK.out _ _ (KP.out _ (Ext.trans XE bn)) (fun _=>?_)
         clear hK K
         try simp only [jP,jA,jB,jC,jD,jE,jF]
         exact wpAnyH_at (L1_ wn vn (Ext.trans XE bn) (on)) (by kernel_rfl) (by kernel_rfl) (by kernel_rfl)
        ·skip
         go_simp
         refine hK.out _ _ (KP.out _ (Ext.trans XE (Ext.alloc _ _))) (fun _=>?_)
         clear hK K
         try simp only [jP,jA,jB,jC,jD,jE,jF]
         exact wpAnyH_at (L0_14 _ wv.heap.size (Ext.trans XE (Ext.alloc wv (.cells [.bool false,.slice none 0 0,.slice none 0 0].toArray 49))) (Rt.new wv [.bool false,.slice none 0 0,.slice none 0 0] 49) (Below.size XE)) (by kernel_rfl) (by kernel_rfl) (by kernel_rfl)
       have hO1:=hO.out
       have hQ1:=hQ.out
       have hA1:=hA.out
       subst hO1
       subst hQ1
       subst hA1
       have hS1:=hSS.out
       subst hS1
       exact wpAnyH_at (L0_ w7.drew (drew_ext w7)) (by kernel_rfl) (by kernel_rfl) (by kernel_rfl)
      case rest=>
       obtain ⟨E,rfl,b8,HE⟩:=hcut
       generalize wc=w8 at*
       obtain ⟨z0,d3,n3,e3,d4,n4,e4,T1,T2,T3⟩:=(hB.out.ext (Ext.trans b5 (Ext.trans b6 (Ext.trans b7 b8)))).op
       obtain ⟨z3,d5,n5,e5,d6,n6,e6,T4,T5,T6⟩:=HE.out.op
       obtain ⟨u0,u1,u2⟩:=T1.out.c3
       obtain ⟨q0,q1,q2⟩:=T4.out.c3
       go_wp2_with fail
       refine (rmin_val T3.out.rd T6.out.rd (hS.out.le (by decide)) (SQ.out.le (by decide))).mono ?_
       rintro e w9 ⟨_,rfl,b9,rfl⟩
       have T9:=Lib.hid (T2.out.ext b9)
       obtain ⟨_,_,_,j0,j1,j2,i0,i1,i2⟩:=T9.out.rm.c3
       clear u0 u1 u2 q0 q1 q2
       have HLS:Hid (lst m dq=if (m - dq).num.sign≤0 then m else dq):=rfl
       generalize (m - dq).num.sign=sm at*
       by_cases hm:sm≤0
       ·rw [if_pos hm]
        have HM:Hid (lst m dq=m):=by show _=_;rw [HLS.out,if_pos hm]
        clear hm HLS
        go_wp2_with fail
        go_roundw
        case rel=>exact ⟨k+1,m,by go_num,by omega,put3_below (Ext.trans b4 (Ext.trans b5 (Ext.trans b6 (Ext.trans b7 (Ext.trans b8 b9))))) (Nat.le_refl _) _ _ _,Bq.set T9.out (by decide) (T3.out.ext b9),hS,by rw [← HC2.out,HM.out];exact rfl⟩
        case measure=>simp [intOf] <;> omega
       ·rw [if_neg hm]
        have HM:Hid (lst m dq=dq):=by show _=_;rw [HLS.out,if_neg hm]
        clear hm HLS
        go_wp2_with fail
        go_roundw
        case rel=>exact ⟨k+1,dq,by go_num,by omega,put3_below (Ext.trans b4 (Ext.trans b5 (Ext.trans b6 (Ext.trans b7 (Ext.trans b8 b9))))) (Nat.le_refl _) _ _ _,Bq.set T9.out (by decide) (T6.out.ext b9),SQ,by rw [← HC2.out,HM.out];exact rfl⟩
        case measure=>simp [intOf] <;> omega
   ·obtain rfl:k=A.length:=by omega
    have hcm:some m=chz (A.zip B) 1:=by
     have:=hC.out
     rw [List.drop_eq_nil_of_le (by rw [HLZ.out];exact Nat.le_refl _)] at this
     exact this
    rw [← hcm] at hR
    clear hcm
    obtain ⟨z0,d3,n3,e3,d4,n4,e4,T1,T2,T3⟩:=hB.out.op
    obtain ⟨u0,u1,u2⟩:=T1.out.c3
    have R4:=Lib.hid (R1.out.ext (Ext.trans b2 b4))
    obtain ⟨_,_,_,j0,j1,j2,i0,i1,i2⟩:=R4.out.rm.c3
    go_wp2_with fail
    refine bodyPost_ret (v:=.tuple #[.agg #[.bool z0,.slice d3 n3 e3,.slice d4 n4 e4],.int .i64 0]) (by simp [results,Tryz.results58,go_sem,j0,j1,j2]) rfl ?_
    exact hR.out _ _ (Gives.mk (put3_below b04 (Nat.le_refl _) _ _ _) ⟨_,rfl,OwnQ.putT T3.out R4.out (by decide) 0 [_,_,_],hS.out⟩)
 ·rw [if_neg hlen] at hR
  have h1:((A.length:Int) != (B.length:Int))=true:=by simp only [bne_iff_ne];omega
  go_enter Tryz.func58,Tryz.ntmps58
  go_wp2_with fail
  refine bodyPost_ret (v:=.tuple #[.agg #[.bool false,.slice none 0 0,.slice none 0 0],.int .i64 4]) (by simp [results,Tryz.results58,go_sem]) rfl ?_
  exact hR.out _ _ (Gives.mk (Ext.alloc _ _) rfl)
end Go.Proofs.YthpaifdfafjlcaaGreat

namespace Go.Att
@[irreducible] def absQ (q:Rat):Rat:=mkQ false q.num.natAbs q.den
theorem absQ_abs (q:Rat):(absQ q).num.natAbs=q.num.natAbs:=by unfold absQ;rw [mkQ_abs _ _ _ q.den_nz,show Nat.gcd q.num.natAbs q.den=1 from q.reduced,Nat.div_one]
theorem absQ_den (q:Rat):(absQ q).den=q.den:=by unfold absQ;rw [mkQ_den _ _ _ q.den_nz,show Nat.gcd q.num.natAbs q.den=1 from q.reduced,Nat.div_one]
theorem Sz.absQ {L:Nat} {q:Rat} (h:Sz L q):Sz L (absQ q):=⟨by rw [absQ_abs];exact h.1,by rw [absQ_den];exact h.2⟩
end Go.Att
namespace Go.Proofs.YthpaifdfafjlcaaGreat
open Go.RowKit Go.Att

open Go.RowKit Go.Att

theorem hsgn_le {a b:Rat}:(a - b).num.sign≤0↔a≤b:=by
 have h1:0≤(b - a).num↔0≤b - a:=Rat.num_nonneg
 rw [Rat.le_iff_sub_nonneg a b,← h1,show (b - a).num = -(a - b).num by rw [← Rat.neg_num,Rat.neg_sub],Int.sign_nonpos_iff]
 omega
theorem hsgn_zero {a b:Rat}:(a - b).num.sign=0↔a=b:=by
 rw [Int.sign_eq_zero_iff_zero,Rat.num_eq_zero]
 constructor
 ·intro h;grind
 ·intro h;grind
def Hz (z:(Rat × Rat) × (Rat × Rat)) (e:Rat):Prop:=z.1.1+z.1.2*e≤z.2.1+z.2.2*e
theorem hz_low {z:(Rat × Rat) × (Rat × Rat)} {e:Rat} (h:¬ 0 < cmpD z.1.1 z.1.2 z.2.1 z.2.2) (h2:z.1.2≤z.2.2) (he:0≤e):Hz z e:=by
 have h1:z.1.1≤z.2.1:=by
  unfold cmpD at h
  split at h
  ·next h3=>exact hsgn_le.1 (by omega)
  ·exact hsgn_le.1 (by omega)
 have:=Rat.mul_le_mul_of_nonneg_right h2 he
 unfold Hz
 grind
theorem hz_high {z:(Rat × Rat) × (Rat × Rat)} {e:Rat} (h2:z.2.2 < z.1.2):Hz z e↔e≤(z.2.1 - z.1.1) / (z.1.2 - z.2.2):=by
 have hd:0 < z.1.2 - z.2.2:=by grind
 rw [← Rat.not_lt,Rat.div_lt_iff hd,Rat.not_lt]
 unfold Hz
 constructor <;> intro h <;> grind
theorem q_pos {z:(Rat × Rat) × (Rat × Rat)} (h:¬ 0 < cmpD z.1.1 z.1.2 z.2.1 z.2.2) (h2:z.2.2 < z.1.2):0 < (z.2.1 - z.1.1) / (z.1.2 - z.2.2):=by
 have h1:z.1.1 < z.2.1:=by
  unfold cmpD at h
  split at h
  ·next h3=>exact absurd (hsgn_le.1 (Int.not_lt.1 h)) (Rat.not_le.2 h2)
  ·next h3=>exact Rat.lt_of_le_of_ne (hsgn_le.1 (Int.not_lt.1 h)) fun h4=>h3 (hsgn_zero.2 h4)
 rw [Rat.lt_div_iff (by grind)]
 grind
theorem lst_le1 {x y:Rat}:lst x y≤x:=by
 unfold lst
 split
 ·exact Rat.le_refl
 ·next h=>exact Rat.le_of_lt (Rat.not_le.1 fun h2=>h (hsgn_le.2 h2))
theorem lst_le2 {x y:Rat}:lst x y≤y:=by
 unfold lst
 split
 ·next h=>exact hsgn_le.1 h
 ·exact Rat.le_refl
theorem lst_or {x y:Rat}:lst x y=x∨lst x y=y:=by
 unfold lst
 split
 ·exact .inl rfl
 ·exact .inr rfl
theorem chz_holds:∀ (l:List ((Rat × Rat) × (Rat × Rat))) (m0 m:Rat),chz l m0=some m→0 < m0→
  0 < m∧m≤m0∧(∀ z∈l,∀ e,0≤e→e≤m→Hz z e)∧(∀ e,m < e→e≤m0→∃ z∈l,¬ Hz z e)
 | [],m0,m,h,h0=>by
  obtain rfl:m0=m:=by simpa [chz] using h
  exact ⟨h0,Rat.le_refl,fun z hz=>absurd hz List.not_mem_nil,fun e h1 h2=>absurd h1 (Rat.not_lt.2 h2)⟩
 | z :: r,m0,m,h,h0=>by
  rw [chz_cons] at h
  split at h
  ·exact nomatch h
  next hc=>
  split at h
  ·next hs=>
   obtain ⟨h1,h2,h3,h4⟩:=chz_holds r m0 m h h0
   refine ⟨h1,h2,fun y hy e he1 he2=>?_,fun e he1 he2=>?_⟩
   ·rcases List.mem_cons.1 hy with rfl | hy
    ·exact hz_low hc (hsgn_le.1 hs) he1
    ·exact h3 y hy e he1 he2
   ·obtain ⟨y,hy,h5⟩:=h4 e he1 he2
    exact ⟨y,List.mem_cons_of_mem _ hy,h5⟩
  ·next hs=>
   have hs2:z.2.2 < z.1.2:=Rat.not_le.1 fun h=>hs (hsgn_le.2 h)
   have hq:=q_pos hc hs2
   have hl:0 < lst m0 ((z.2.1 - z.1.1) / (z.1.2 - z.2.2)):=by
    rcases lst_or (x:=m0) (y:=(z.2.1 - z.1.1) / (z.1.2 - z.2.2)) with h | h <;> rw [h] <;> assumption
   obtain ⟨h1,h2,h3,h4⟩:=chz_holds r _ m h hl
   refine ⟨h1,Rat.le_trans h2 lst_le1,fun y hy e he1 he2=>?_,fun e he1 he2=>?_⟩
   ·rcases List.mem_cons.1 hy with rfl | hy
    ·exact (hz_high hs2).2 (Rat.le_trans he2 (Rat.le_trans h2 lst_le2))
    ·exact h3 y hy e he1 he2
   ·by_cases h6:Hz z e
    ·have h7:=(hz_high hs2).1 h6
     have h8:e≤lst m0 ((z.2.1 - z.1.1) / (z.1.2 - z.2.2)):=by
      rcases lst_or (x:=m0) (y:=(z.2.1 - z.1.1) / (z.1.2 - z.2.2)) with h | h <;> rw [h] <;> assumption
     obtain ⟨y,hy,h5⟩:=h4 e he1 h8
     exact ⟨y,List.mem_cons_of_mem _ hy,h5⟩
    ·exact ⟨z,List.mem_cons_self,h6⟩
def bro (e:Rat):List ((Rat × Rat) × (Rat × Rat))→Bool→Bool
 | [],b=>b
 | z :: r,b=>bro e r (b || decide (0 < (z.1.1+z.1.2*e - (z.2.1+z.2.2*e)).num.sign))
end Go.Proofs.YthpaifdfafjlcaaGreat

namespace Go.Att
open Go.RowKit
theorem Pw.drop {α:Type} {k:Nat} {R:List Value→α→Prop}:∀ {E:List (List Value)} {l:List α} (m:Nat),Pw k R E l→Pw k R (E.drop m) (l.drop m)
 | _,_,0,h=>h
 | [],[],_+1,_=>trivial
 | _ :: E,_ :: l,m+1,h=>Pw.drop (E:=E) (l:=l) m h.2
 | [],_ :: _,_,h=>h.elim
 | _ :: _,[],_,h=>h.elim
theorem Pw.take {α:Type} {k:Nat} {R:List Value→α→Prop}:∀ {E:List (List Value)} {l:List α} (m:Nat),Pw k R E l→Pw k R (E.take m) (l.take m)
 | _,_,0,_=>trivial
 | [],[],_+1,_=>trivial
 | _ :: E,_ :: l,m+1,h=>⟨h.1,Pw.take (E:=E) (l:=l) m h.2⟩
 | [],_ :: _,_,h=>h.elim
 | _ :: _,[],_,h=>h.elim
theorem flat_drop {k:Nat}:∀ {E:List (List Value)} (m:Nat),(∀ c∈E,c.length=k)→(E.drop m).flatten=E.flatten.drop (m*k)
 | E,0,_=>by rw [Nat.zero_mul];rfl
 | [],m+1,_=>by simp
 | c :: E,m+1,h=>by
  rw [List.drop_succ_cons,flat_drop m fun d hd=>h d (List.mem_cons_of_mem _ hd),List.flatten_cons,Nat.succ_mul,Nat.add_comm,← List.drop_drop,← h c List.mem_cons_self,List.drop_left]
theorem flat_take {k:Nat}:∀ {E:List (List Value)} (m:Nat),(∀ c∈E,c.length=k)→(E.take m).flatten=E.flatten.take (m*k)
 | E,0,_=>by rw [Nat.zero_mul];simp
 | [],m+1,_=>by simp
 | c :: E,m+1,h=>by
  have h1:=h c List.mem_cons_self
  rw [List.take_succ_cons,List.flatten_cons,flat_take m fun d hd=>h d (List.mem_cons_of_mem _ hd),List.flatten_cons,Nat.succ_mul,List.take_append,h1,Nat.add_sub_cancel]
  congr 1
  exact (List.take_of_length_le (by omega)).symm
theorem RdRow.from {α:Type} {k:Nat} {T:World→Value→α→Prop} {w:World} {g n c:Nat} {l:List α} (h:RdRow k T w (.slice (some ⟨g,0,none⟩) n c) l) {m:Nat} (hm:m≤n):RdRow k T w (.slice (if c=m then some ⟨g,0,none⟩ else some ⟨g,m*k,none⟩) (n - m) (c - m)) (l.drop m):=by
 obtain ⟨E,⟨h0,a,c',hv,h1,h2,h3,h5⟩,hp⟩:=h
 simp only [Value.slice.injEq] at hv
 obtain ⟨rfl,rfl,rfl⟩:=hv
 have hf:=flat_drop m hp.all
 refine ⟨E.drop m,?_,hp.drop m⟩
 rw [hf]
 refine ⟨by rw [List.length_drop,List.length_drop,h0,Nat.sub_mul],_,_,by rw [List.length_drop],by rw [List.length_drop];omega,by omega,?_,fun i hi=>?_⟩
 ·split <;> intro h <;> cases h
 ·rw [List.length_drop] at hi
  have hne:¬ c=m:=by
   intro e
   have:l.length*k≤m*k:=Nat.mul_le_mul_right k (by omega)
   omega
  rw [if_neg hne]
  obtain ⟨b,off,ha,hc⟩:=h5 (m*k+i) (by omega)
  simp only [Option.some.injEq,Addr.mk.injEq,and_true] at ha
  obtain ⟨rfl,rfl⟩:=ha
  refine ⟨g,m*k,rfl,?_⟩
  rw [List.getElem?_drop,← hc,Nat.zero_add]
theorem RdRow.upto {α:Type} {k:Nat} {T:World→Value→α→Prop} {w:World} {a:Option Addr} {n c:Nat} {l:List α} (h:RdRow k T w (.slice a n c) l) {m:Nat} (hm:m≤n):RdRow k T w (.slice a m c) (l.take m):=by
 obtain ⟨E,⟨h0,a',c',hv,h1,h2,h3,h5⟩,hp⟩:=h
 simp only [Value.slice.injEq] at hv
 obtain ⟨rfl,rfl,rfl⟩:=hv
 have hf:=flat_take m hp.all
 have hl:(l.take m).length=m:=by rw [List.length_take];omega
 refine ⟨E.take m,?_,hp.take m⟩
 rw [hf]
 have hmk:m*k≤l.length*k:=Nat.mul_le_mul_right k hm
 refine ⟨by rw [List.length_take,hl,h0];omega,_,_,by rw [hl],by rw [hl];omega,h2,h3,fun i hi=>?_⟩
 rw [List.length_take] at hi
 obtain ⟨b,off,ha,hc⟩:=h5 i (by omega)
 exact ⟨b,off,ha,by rw [List.getElem?_take,if_pos (by omega)];exact hc⟩
end Go.Att
namespace Go.Proofs.YthpaifdfafjlcaaGreat
open Go.RowKit Go.Att Go.Sx

theorem etQS:ElemT Tryz.prog 33 49 (.agg #[.bool false,.slice none 0 0,.slice none 0 0]) 3 56:=ElemT.mk' Tryz.underlying33 (by kernel_rfl) rfl (by decide)
theorem tab_drop {α:Type} (n m:Nat) (f:Nat→α):(tab (n+m) f).drop n=tab m fun i=>f (n+i):=by
 refine List.ext_getElem (by rw [List.length_drop,tab_len,tab_len];omega) fun i h1 h2=>?_
 rw [List.getElem_drop,tab_get,tab_get]
theorem tab_take {α:Type} (n m:Nat) (f:Nat→α):(tab (n+m) f).take n=tab n f:=by
 refine List.ext_getElem (by rw [List.length_take,tab_len,tab_len];omega) fun i h1 h2=>?_
 rw [List.getElem_take,tab_get,tab_get]
def Wk (w:World) (v:Value) (q:Rat):Prop:=∃ o,v=.tuple #[o,.int .i64 0]∧OwnQ 115 0 w o q∧Sz 250 q
theorem Wk.ext {w w':World} {v:Value} {q:Rat} (h:Wk w v q) (x:Ext w w'):Wk w' v q:=by
 obtain ⟨o,rfl,h,hz⟩:=h
 exact ⟨o,rfl,h.ext x,hz⟩
def ptA (n0:Nat) (L:List AT) (s:Stand):List (Rat × Rat):=tab L.length fun i=>(s.a (n0+i),s.b (n0+i))
def ptB (n0:Nat) (L:List AT):List (Rat × Rat):=tab L.length fun i=>((bnd n0 L).hA (n0+i),(bnd n0 L).hB (n0+i))
def ptE (n0:Nat) (L:List AT) (s:Stand):Rat:=(cho (ptA n0 L s) (ptB n0 L)).getD 1
def pts (n0:Nat) (L:List AT) (s:Stand):List Rat:=tab n0 fun j=>s.a j+s.b j*ptE n0 L s
theorem chz_some:∀ (l:List ((Rat × Rat) × (Rat × Rat))) (m:Rat),(∀ z∈l,¬ 0 < cmpD z.1.1 z.1.2 z.2.1 z.2.2)→∃ q,chz l m=some q
 | [],m,_=>⟨m,rfl⟩
 | z :: r,m,h=>by
  rw [chz_cons,if_neg (h z List.mem_cons_self)]
  split
  ·exact chz_some r m fun y hy=>h y (List.mem_cons_of_mem _ hy)
  ·exact chz_some r _ fun y hy=>h y (List.mem_cons_of_mem _ hy)
theorem not_over {n0:Nat} {L:List AT} {s:Stand} (hok:s.Ok (bnd n0 L)) (hno:∀ r g,¬ Pick (bnd n0 L) s r g):∀ u,n0≤u→u < n0+L.length→¬ Over (bnd n0 L) s u:=by
 have hnb:∀ u,n0≤u→u < n0+L.length→s.D.B u=true→¬ Over (bnd n0 L) s u∧¬ Under (bnd n0 L) s u:=by
  intro u
  induction u using Nat.strongRecOn with
  | _ u ih=>
   intro h1 h2 bu
   have least:∀ y,n0≤y→y < u→s.D.B y=true→¬ Over (bnd n0 L) s y∧¬ Under (bnd n0 L) s y:=fun y a1 a2 a3=>ih y a2 a1 (by omega) a3
   exact ⟨fun h=>hno u true ⟨h1,h2,bu,by rw [if_pos rfl];exact h,least⟩,fun h=>hno u false ⟨h1,h2,bu,by rw [if_neg (by decide)];exact h,least⟩⟩
 intro u h1 h2
 by_cases bu:s.D.B u=true
 ·exact (hnb u h1 h2 bu).1
 ·obtain ⟨e1,e2⟩:=hok.2.2.2 u h1 h2 (by simpa using bu)
  intro h
  have h3:=over_iff.2 h
  rw [cmpD_same e1 e2] at h3
  exact absurd h3 (by decide)
theorem pt_zip {n0:Nat} {L:List AT} {s:Stand} {z:(Rat × Rat) × (Rat × Rat)} (hz:z∈(ptA n0 L s).zip (ptB n0 L)):∃ i,i < L.length∧z=((s.a (n0+i),s.b (n0+i)),((bnd n0 L).hA (n0+i),(bnd n0 L).hB (n0+i))):=by
 obtain ⟨i,hi,rfl⟩:=List.getElem_of_mem hz
 have hi':i < L.length:=by
  rw [List.length_zip] at hi
  unfold ptA ptB at hi
  rw [tab_len,tab_len] at hi
  omega
 exact ⟨i,hi',by rw [List.getElem_zip];unfold ptA ptB;rw [tab_get,tab_get]⟩
theorem pt_cho {n0:Nat} {L:List AT} {s:Stand} (hok:s.Ok (bnd n0 L)) (hno:∀ r g,¬ Pick (bnd n0 L) s r g):cho (ptA n0 L s) (ptB n0 L)=some (ptE n0 L s)∧0 < ptE n0 L s∧
  ∀ i,i < L.length→s.a (n0+i)+ptE n0 L s*s.b (n0+i)≤(bnd n0 L).hA (n0+i)+ptE n0 L s*(bnd n0 L).hB (n0+i):=by
 have hl:(ptA n0 L s).length=(ptB n0 L).length:=by unfold ptA ptB;rw [tab_len,tab_len]
 obtain ⟨q,hq⟩:=chz_some ((ptA n0 L s).zip (ptB n0 L)) 1 fun z hz=>by
  obtain ⟨i,hi,rfl⟩:=pt_zip hz
  intro h
  exact not_over hok hno (n0+i) (by omega) (by omega) (over_iff.1 h)
 have hc:cho (ptA n0 L s) (ptB n0 L)=some q:=by unfold cho;rw [if_pos hl,hq]
 have he:ptE n0 L s=q:=by unfold ptE;rw [hc];rfl
 obtain ⟨h1,h2,h3,-⟩:=chz_holds _ _ _ hq (by decide)
 refine ⟨by rw [hc,he],by rw [he];exact h1,fun i hi=>?_⟩
 have:=h3 ((s.a (n0+i),s.b (n0+i)),((bnd n0 L).hA (n0+i),(bnd n0 L).hB (n0+i))) (by
  have hi2:i < ((ptA n0 L s).zip (ptB n0 L)).length:=by
   rw [List.length_zip];unfold ptA ptB;rw [tab_len,tab_len];omega
  have h5:((ptA n0 L s).zip (ptB n0 L))[i]=((s.a (n0+i),s.b (n0+i)),((bnd n0 L).hA (n0+i),(bnd n0 L).hB (n0+i))):=by
   rw [List.getElem_zip];unfold ptA ptB;rw [tab_get,tab_get]
  rw [← h5];exact List.getElem_mem hi2) q (by grind) Rat.le_refl
 unfold Hz at this
 rw [he]
 grind
set_option linter.unusedSimpArgs false in
set_option maxHeartbeats 8000000 in
set_option maxRecDepth 100000 in
theorem tpoint_any {w:World} {bt n0:Nat} {L:List AT} {s:Stand} {bas:Nat→Nat} {row:Nat→Int} {al ab ar aa ah:Option Addr} {gv:Nat} {kl kb kr ka kv kh:Nat} (h:TabR w bt n0 L (fun i=>s.D.A (bas i)) s.a s.b bas row al ab ar aa (some ⟨gv,0,none⟩) ah kl kb kr ka kv kh)
  (hok:s.Ok (bnd n0 L)) (hno:∀ r g,¬ Pick (bnd n0 L) s r g) (hn:n0+L.length≤100000) (sv:∀ v,v < n0+L.length→Sz 40 (s.a v)∧Sz 40 (s.b v)) (sh:∀ v,n0≤v→v < n0+L.length→Sz 40 ((bnd n0 L).hA v)∧Sz 40 ((bnd n0 L).hB v)):
  Calls Tryz.prog 36 #[.pointer (some ⟨bt,0,none⟩)] w (Gives w fun v' w'=>OwnRow 3 (OwnQp 115) 49 w.heap.size w' v' (pts n0 L s)∧Sz 250 (ptE n0 L s)):=by
 refine via fun R hR=>?_
 obtain ⟨hch,-,-⟩:=pt_cho hok hno
 obtain ⟨N,hN⟩:∃ N,n0+L.length=N:=⟨_,rfl⟩
 obtain ⟨M,hM⟩:∃ M,L.length=M:=⟨_,rfl⟩
 have C1:=Lib.hid (h.cells hN)
 rw [hM] at C1
 have SZT:Hid (bt < w.heap.size):=World.block_lt_of_cell? _ _ h.bx.c7.1
 have hrv:=h.rv
 have hrh:=h.rh
 rw [hN] at hrv
 rw [hM] at hrh
 have hNM:N=n0+M:=by omega
 have HRA:Hid (RdRow 6 (OwnDp 115) w (.slice (if kv=n0 then some ⟨gv,0,none⟩ else some ⟨gv,n0*6,none⟩) (N - n0) (kv - n0)) (ptA n0 L s)):=by
  have:=hrv.from (m:=n0) (by omega)
  rw [hNM,tab_drop] at this
  unfold ptA
  rw [hM,hNM]
  exact this
 have HRB:Hid (RdRow 6 (OwnDp 115) w (.slice ah M kh) (ptB n0 L)):=by unfold ptB;rw [hM];exact hrh
 have HRV:Hid (RdRow 6 (OwnDp 115) w (.slice (some ⟨gv,0,none⟩) n0 kv) (tab n0 fun v=>(s.a v,s.b v))):=by
  have:=hrv.upto (m:=n0) (by omega)
  rw [hNM,tab_take] at this
  exact this
 have SA:Hid (∀ p∈ptA n0 L s,Sz 40 p.1∧Sz 40 p.2):=fun p hp=>by
  unfold ptA at hp
  obtain ⟨i,hi,rfl⟩:=List.mem_map.1 hp
  rw [List.mem_range] at hi
  exact sv _ (by omega)
 have SB:Hid (∀ p∈ptB n0 L,Sz 40 p.1∧Sz 40 p.2):=fun p hp=>by
  unfold ptB at hp
  obtain ⟨i,hi,rfl⟩:=List.mem_map.1 hp
  rw [List.mem_range] at hi
  exact sh _ (by omega) (by omega)
 have SV:Hid (∀ j,j < n0→Sz 40 (s.a j)∧Sz 40 (s.b j)):=fun j hj=>sv j (by omega)
 have HCH:Hid (∀ w',Ext w w'→Calls Tryz.prog 58 #[.slice (if kv=n0 then some ⟨gv,0,none⟩ else some ⟨gv,n0*6,none⟩) (N - n0) (kv - n0),.slice ah M kh] w' (Gives w' fun v' w'=>Wk w' v' (ptE n0 L s))):=fun w' X=>by
  refine (choose_any (HRA.out.ext OwnD.ext X) (HRB.out.ext OwnD.ext X) SA.out SB.out).mono fun _ _ ⟨v,e,b,o⟩=>⟨v,e,b,?_⟩
  rw [hch] at o
  obtain ⟨o',h1,h2,h3⟩:=o
  exact ⟨o',h1,h2,h3⟩
 have hk0:n0≤N:=by omega
 have hkv:n0≤kv:=by
  obtain ⟨a,c,he,hle,-⟩:=hrv.shape
  rw [tab_len] at he hle
  simp only [Value.slice.injEq] at he
  omega
 unfold pts at hR
 generalize ptE n0 L s=q at*
 clear h hrv hrh hNM HRA HRB SA SB hch hno hok sv sh hN hM
 go_enter Tryz.func36,Tryz.ntmps36
 go_upto_region 1 with (fail)
 go_cut [3] (fun s3 wx=>∃ E,s3=.pointer (some ⟨E,0,none⟩)∧Ext w wx∧Hid (Bq 115 49 wx E q)∧Hid (Sz 250 q))
 case first=>
  as_aux_lemma=>
   by_cases hkn:kv=n0
   ·obtain rfl:n0=kv:=hkn.symm
    rw [if_pos rfl,Nat.sub_self] at HCH
    refine wp_region_noPanic ?_
    refine wp_region_held_drew (S:=fun w'=>w'.cell? ⟨bt,0,none⟩=some (.int .i64 n0)∧w'.cell? ⟨bt,1,none⟩=some (.slice al M kl)∧w'.cell? ⟨bt,2,none⟩=some (.slice ab M kb)∧w'.cell? ⟨bt,3,none⟩=some (.slice ar N kr)∧w'.cell? ⟨bt,4,none⟩=some (.slice aa M ka)∧w'.cell? ⟨bt,5,none⟩=some (.slice (some ⟨gv,0,none⟩) N n0)∧w'.cell? ⟨bt,6,none⟩=some (.slice ah M kh)) (by kernel_rfl) ((C1.out.ext (drew_ext w)).c7) (fun hHeld=>?_)
    refine tkH 0 hHeld ?_
    simp only [jP,jA,jB,jC,jD,jE,jF]
    refine tkH 4 hHeld ?_
    simp only [jP,jA,jB,jC,jD,jE,jF]
    refine tkH 9 hHeld ?_
    simp only [jP,jA,jB,jC,jD,jE,jF]
    refine tkH 1 hHeld ?_
    simp only [jP,jA,jB,jC,jD,jE,jF]
    refine tkH 5 hHeld ?_
    simp only [jP,jA,jB,jC,jD,jE,jF]
    refine tkH 10 hHeld ?_
    simp only [jP,jA,jB,jC,jD,jE,jF]
    refine tkH 2 hHeld ?_
    simp only [jP,jA,jB,jC,jD,jE,jF]
    refine tkH 6 hHeld ?_
    simp only [jP,jA,jB,jC,jD,jE,jF]
    refine tkH 11 hHeld ?_
    simp only [jP,jA,jB,jC,jD,jE,jF]
    refine tkH 3 hHeld ?_
    simp only [jP,jA,jB,jC,jD,jE,jF]
    refine tkH 7 hHeld ?_
    simp only [jP,jA,jB,jC,jD,jE,jF]
    refine tkH 12 hHeld ?_
    simp only [jP,jA,jB,jC,jD,jE,jF]
    refine tkH 8 hHeld ?_
    simp only [jP,jA,jB,jC,jD,jE,jF]
    refine anyH_cap fun O Q9 AA hO hQ hA=>?_
    obtain ⟨SS,hSS⟩:∃ SS:World→Prop,Hid (SS=fun w'=>w'.cell? ⟨bt,0,none⟩=some (.int .i64 n0)∧w'.cell? ⟨bt,1,none⟩=some (.slice al M kl)∧w'.cell? ⟨bt,2,none⟩=some (.slice ab M kb)∧w'.cell? ⟨bt,3,none⟩=some (.slice ar N kr)∧w'.cell? ⟨bt,4,none⟩=some (.slice aa M ka)∧w'.cell? ⟨bt,5,none⟩=some (.slice (some ⟨gv,0,none⟩) N n0)∧w'.cell? ⟨bt,6,none⟩=some (.slice ah M kh)):=⟨_,rfl⟩
    have KP:Hid (∀ wv,Ext w wv→SS wv):=fun wv XE=>by rw [hSS.out];exact (C1.out.ext XE).c7
    have L4_17:∀ (wv:World) (v13 v14 v15 v16:Value) (B17:Nat),Hid (Ext w wv)→Hid (Wk wv v13 q)→Hid (Wk wv v14 q)→Hid (Wk wv (.tuple #[v15,.int .i64 0]) q)→Hid (Wk wv (.tuple #[v15,v16]) q)→Hid (Rt wv B17 3 49)→Hid (w.heap.size≤B17)→wpAnyH Tryz.prog .any O Q9 SS 2 #[true,true,true,true,true,true,true,true,true,true,true,true,true,true,true,true,true,true,false,false] (((((AA.put (some 22) v13).put (some 8) v14).put (some 23) v15).put (some 24) v16).put (some 3) (.pointer (some ⟨B17,0,none⟩))) wv:=by
     intro wv v13 v14 v15 v16 B17 hX p13 p14 p15 p16 r17 s17
     have hO1:=hO.out
     have hQ1:=hQ.out
     have hA1:=hA.out
     subst hO1
     subst hQ1
     subst hA1
     have XE:=hX.out
     have hHeld:=KP.out _ XE
     have hS1:=hSS.out
     subst hS1
     try simp only [jP,jA,jB,jC,jD,jE,jF]
     have k0_17:bt≠B17:=by have h1:=s17.out;have hz0:=SZT.out;omega
     obtain ⟨_,_,_,i17_0,i17_1,i17_2,f17_0,f17_1,f17_2⟩:=r17.out.rm.c3
     obtain ⟨o7,he7,oo7,szq⟩:=p16.out
     obtain ⟨rfl,rfl⟩:v15=o7∧v16=.int .i64 0:=by simpa using he7
     obtain ⟨_,_,_,_,_,_,_,rfl,OO⟩:=oo7.op
     refine rdH 18 (by kernel_rfl) rfl (fun K hK=>?_)
     go_simp
     refine hK.out _ _ (((C1.out.ext XE).putL k0_17 0 [_,_,_]).c7) (fun hHeld=>?_)
     clear hK K
     try simp only [jP,jA,jB,jC,jD,jE,jF]
     refine tkH 19 hHeld ?_
     simp only [jP,jA,jB,jC,jD,jE,jF]
     refine wpAnyH_done (by kernel_rfl) ?_ _
     refine NoPanic.normal ?_
     go_wp2_with fail
     go_meet
     exact ⟨B17,rfl,put3_below hX.out s17.out _ _ _,Bq.set r17.out (by decide) OO.out,szq⟩
    have L3_17:∀ (wv:World) (v13 v14 v15:Value) (B17:Nat),Hid (Ext w wv)→Hid (Wk wv v13 q)→Hid (Wk wv v14 q)→Hid (Wk wv (.tuple #[v15,.int .i64 0]) q)→Hid (Rt wv B17 3 49)→Hid (w.heap.size≤B17)→wpAnyH Tryz.prog .any O Q9 SS 3 #[true,true,true,true,true,true,true,true,true,true,true,true,true,true,true,true,false,true,false,false] ((((AA.put (some 22) v13).put (some 8) v14).put (some 23) v15).put (some 3) (.pointer (some ⟨B17,0,none⟩))) wv:=by
     intro wv v13 v14 v15 B17 hX p13 p14 p15 r17 s17
     have hO1:=hO.out
     have hQ1:=hQ.out
     have hA1:=hA.out
     subst hO1
     subst hQ1
     subst hA1
     have XE:=hX.out
     have hHeld:=KP.out _ XE
     have hS1:=hSS.out
     subst hS1
     try simp only [jP,jA,jB,jC,jD,jE,jF]
     obtain ⟨o7,rfl,oo7⟩:=p14.out
     refine tkH 16 hHeld ?_
     simp only [jP,jA,jB,jC,jD,jE,jF]
     exact wpAnyH_at (L4_17 wv _ _ _ _ B17 hX.out p13.out p14.out p15.out (p15.out) r17.out s17.out) (by kernel_rfl) (by kernel_rfl) (by kernel_rfl)
    have L4_:∀ (wv:World) (v13 v14 v15 v16:Value),Hid (Ext w wv)→Hid (Wk wv v13 q)→Hid (Wk wv v14 q)→Hid (Wk wv (.tuple #[v15,.int .i64 0]) q)→Hid (Wk wv (.tuple #[v15,v16]) q)→wpAnyH Tryz.prog .any O Q9 SS 3 #[true,true,true,true,true,true,true,true,true,true,true,true,true,true,true,true,true,false,false,false] ((((AA.put (some 22) v13).put (some 8) v14).put (some 23) v15).put (some 24) v16) wv:=by
     intro wv v13 v14 v15 v16 hX p13 p14 p15 p16
     have hO1:=hO.out
     have hQ1:=hQ.out
     have hA1:=hA.out
     subst hO1
     subst hQ1
     subst hA1
     have XE:=hX.out
     try simp only [jP,jA,jB,jC,jD,jE,jF]
     refine rdH 17 (by kernel_rfl) rfl (fun K hK=>?_)
     go_simp
     refine hK.out _ _ (KP.out _ (Ext.trans XE (Ext.alloc _ _))) (fun _=>?_)
     clear hK K
     try simp only [jP,jA,jB,jC,jD,jE,jF]
     exact wpAnyH_at (L4_17 _ v13 v14 v15 v16 wv.heap.size (Ext.trans XE (Ext.alloc wv (.cells [.bool false,.slice none 0 0,.slice none 0 0].toArray 49))) (p13.out.ext (Ext.alloc wv (.cells [.bool false,.slice none 0 0,.slice none 0 0].toArray 49))) (p14.out.ext (Ext.alloc wv (.cells [.bool false,.slice none 0 0,.slice none 0 0].toArray 49))) (p15.out.ext (Ext.alloc wv (.cells [.bool false,.slice none 0 0,.slice none 0 0].toArray 49))) (p16.out.ext (Ext.alloc wv (.cells [.bool false,.slice none 0 0,.slice none 0 0].toArray 49))) (Rt.new wv [.bool false,.slice none 0 0,.slice none 0 0] 49) (Below.size XE)) (by kernel_rfl) (by kernel_rfl) (by kernel_rfl)
    have L2_17:∀ (wv:World) (v13 v14:Value) (B17:Nat),Hid (Ext w wv)→Hid (Wk wv v13 q)→Hid (Wk wv v14 q)→Hid (Rt wv B17 3 49)→Hid (w.heap.size≤B17)→wpAnyH Tryz.prog .any O Q9 SS 4 #[true,true,true,true,true,true,true,true,true,true,true,true,true,true,true,false,false,true,false,false] (((AA.put (some 22) v13).put (some 8) v14).put (some 3) (.pointer (some ⟨B17,0,none⟩))) wv:=by
     intro wv v13 v14 B17 hX p13 p14 r17 s17
     have hO1:=hO.out
     have hQ1:=hQ.out
     have hA1:=hA.out
     subst hO1
     subst hQ1
     subst hA1
     have XE:=hX.out
     have hHeld:=KP.out _ XE
     have hS1:=hSS.out
     subst hS1
     try simp only [jP,jA,jB,jC,jD,jE,jF]
     obtain ⟨o7,rfl,oo7⟩:=p14.out
     refine tkH 15 hHeld ?_
     simp only [jP,jA,jB,jC,jD,jE,jF]
     exact wpAnyH_at (L3_17 wv _ _ _ B17 hX.out p13.out p14.out (p14.out) r17.out s17.out) (by kernel_rfl) (by kernel_rfl) (by kernel_rfl)
    have L3_:∀ (wv:World) (v13 v14 v15:Value),Hid (Ext w wv)→Hid (Wk wv v13 q)→Hid (Wk wv v14 q)→Hid (Wk wv (.tuple #[v15,.int .i64 0]) q)→wpAnyH Tryz.prog .any O Q9 SS 4 #[true,true,true,true,true,true,true,true,true,true,true,true,true,true,true,true,false,false,false,false] (((AA.put (some 22) v13).put (some 8) v14).put (some 23) v15) wv:=by
     intro wv v13 v14 v15 hX p13 p14 p15
     have hO1:=hO.out
     have hQ1:=hQ.out
     have hA1:=hA.out
     subst hO1
     subst hQ1
     subst hA1
     have XE:=hX.out
     have hHeld:=KP.out _ XE
     have hS1:=hSS.out
     subst hS1
     try simp only [jP,jA,jB,jC,jD,jE,jF]
     obtain ⟨o7,rfl,oo7⟩:=p14.out
     refine tkH 16 hHeld ?_
     simp only [jP,jA,jB,jC,jD,jE,jF]
     exact wpAnyH_at (L4_ wv _ _ _ _ hX.out p13.out p14.out p15.out (p15.out)) (by kernel_rfl) (by kernel_rfl) (by kernel_rfl)
    have L1_17:∀ (wv:World) (v13:Value) (B17:Nat),Hid (Ext w wv)→Hid (Wk wv v13 q)→Hid (Rt wv B17 3 49)→Hid (w.heap.size≤B17)→wpAnyH Tryz.prog .any O Q9 SS 5 #[true,true,true,true,true,true,true,true,true,true,true,true,true,true,false,false,false,true,false,false] ((AA.put (some 22) v13).put (some 3) (.pointer (some ⟨B17,0,none⟩))) wv:=by
     intro wv v13 B17 hX p13 r17 s17
     have hO1:=hO.out
     have hQ1:=hQ.out
     have hA1:=hA.out
     subst hO1
     subst hQ1
     subst hA1
     have XE:=hX.out
     have hHeld:=KP.out _ XE
     have hS1:=hSS.out
     subst hS1
     try simp only [jP,jA,jB,jC,jD,jE,jF]
     refine tkH 14 hHeld ?_
     simp only [jP,jA,jB,jC,jD,jE,jF]
     exact wpAnyH_at (L2_17 wv _ _ B17 hX.out p13.out (p13.out) r17.out s17.out) (by kernel_rfl) (by kernel_rfl) (by kernel_rfl)
    have L2_:∀ (wv:World) (v13 v14:Value),Hid (Ext w wv)→Hid (Wk wv v13 q)→Hid (Wk wv v14 q)→wpAnyH Tryz.prog .any O Q9 SS 5 #[true,true,true,true,true,true,true,true,true,true,true,true,true,true,true,false,false,false,false,false] ((AA.put (some 22) v13).put (some 8) v14) wv:=by
     intro wv v13 v14 hX p13 p14
     have hO1:=hO.out
     have hQ1:=hQ.out
     have hA1:=hA.out
     subst hO1
     subst hQ1
     subst hA1
     have XE:=hX.out
     have hHeld:=KP.out _ XE
     have hS1:=hSS.out
     subst hS1
     try simp only [jP,jA,jB,jC,jD,jE,jF]
     obtain ⟨o7,rfl,oo7⟩:=p14.out
     refine tkH 15 hHeld ?_
     simp only [jP,jA,jB,jC,jD,jE,jF]
     exact wpAnyH_at (L3_ wv _ _ _ hX.out p13.out p14.out (p14.out)) (by kernel_rfl) (by kernel_rfl) (by kernel_rfl)
    have L0_17:∀ (wv:World) (B17:Nat),Hid (Ext w wv)→Hid (Rt wv B17 3 49)→Hid (w.heap.size≤B17)→wpAnyH Tryz.prog .any O Q9 SS 6 #[true,true,true,true,true,true,true,true,true,true,true,true,true,false,false,false,false,true,false,false] (AA.put (some 3) (.pointer (some ⟨B17,0,none⟩))) wv:=by
     intro wv B17 hX r17 s17
     have hO1:=hO.out
     have hQ1:=hQ.out
     have hA1:=hA.out
     subst hO1
     subst hQ1
     subst hA1
     have XE:=hX.out
     try simp only [jP,jA,jB,jC,jD,jE,jF]
     refine rdH 13 (by kernel_rfl) rfl (fun K hK=>?_)
     go_simp
     go_at_call 58
     refine (HCH.out _ XE).mono ?_
     rintro e wn ⟨vn,rfl,bn,on⟩
     go_wp2_with fail
     refine hK.out _ _ (KP.out _ (Ext.trans XE bn)) (fun _=>?_)
     clear hK K
     try simp only [jP,jA,jB,jC,jD,jE,jF]
     exact wpAnyH_at (L1_17 wn vn B17 (Ext.trans XE bn) (on) (r17.out.ext bn) s17) (by kernel_rfl) (by kernel_rfl) (by kernel_rfl)
    have L1_:∀ (wv:World) (v13:Value),Hid (Ext w wv)→Hid (Wk wv v13 q)→wpAnyH Tryz.prog .any O Q9 SS 6 #[true,true,true,true,true,true,true,true,true,true,true,true,true,true,false,false,false,false,false,false] (AA.put (some 22) v13) wv:=by
     intro wv v13 hX p13
     have hO1:=hO.out
     have hQ1:=hQ.out
     have hA1:=hA.out
     subst hO1
     subst hQ1
     subst hA1
     have XE:=hX.out
     have hHeld:=KP.out _ XE
     have hS1:=hSS.out
     subst hS1
     try simp only [jP,jA,jB,jC,jD,jE,jF]
     refine tkH 14 hHeld ?_
     simp only [jP,jA,jB,jC,jD,jE,jF]
     exact wpAnyH_at (L2_ wv _ _ hX.out p13.out (p13.out)) (by kernel_rfl) (by kernel_rfl) (by kernel_rfl)
    have L0_:∀ (wv:World),Hid (Ext w wv)→wpAnyH Tryz.prog .any O Q9 SS 7 #[true,true,true,true,true,true,true,true,true,true,true,true,true,false,false,false,false,false,false,false] AA wv:=by
     intro wv hX
     have hO1:=hO.out
     have hQ1:=hQ.out
     have hA1:=hA.out
     subst hO1
     subst hQ1
     subst hA1
     have XE:=hX.out
     try simp only [jP,jA,jB,jC,jD,jE,jF]
     refine wpAnyH_ready (rs:=[13,17]) (by kernel_rfl) (by simp) ?_
     refine AllReadyH.cons (o:=_) rfl (fun K hK=>?_) (AllReadyH.cons (o:=_) rfl (fun K hK=>?_) AllReadyH.nil)
     ·skip
      go_simp
      go_at_call 58
      refine (HCH.out _ XE).mono ?_
      rintro e wn ⟨vn,rfl,bn,on⟩
      go_wp2_with fail
      refine hK.out _ _ (KP.out _ (Ext.trans XE bn)) (fun _=>?_)
      clear hK K
      try simp only [jP,jA,jB,jC,jD,jE,jF]
      exact wpAnyH_at (L1_ wn vn (Ext.trans XE bn) (on)) (by kernel_rfl) (by kernel_rfl) (by kernel_rfl)
     ·skip
      go_simp
      refine hK.out _ _ (KP.out _ (Ext.trans XE (Ext.alloc _ _))) (fun _=>?_)
      clear hK K
      try simp only [jP,jA,jB,jC,jD,jE,jF]
      exact wpAnyH_at (L0_17 _ wv.heap.size (Ext.trans XE (Ext.alloc wv (.cells [.bool false,.slice none 0 0,.slice none 0 0].toArray 49))) (Rt.new wv [.bool false,.slice none 0 0,.slice none 0 0] 49) (Below.size XE)) (by kernel_rfl) (by kernel_rfl) (by kernel_rfl)
    have hO1:=hO.out
    have hQ1:=hQ.out
    have hA1:=hA.out
    subst hO1
    subst hQ1
    subst hA1
    have hS1:=hSS.out
    subst hS1
    exact wpAnyH_at (L0_ w.drew (drew_ext w)) (by kernel_rfl) (by kernel_rfl) (by kernel_rfl)
   ·rw [if_neg hkn] at HCH
    refine wp_region_noPanic ?_
    refine wp_region_held_drew (S:=fun w'=>w'.cell? ⟨bt,0,none⟩=some (.int .i64 n0)∧w'.cell? ⟨bt,1,none⟩=some (.slice al M kl)∧w'.cell? ⟨bt,2,none⟩=some (.slice ab M kb)∧w'.cell? ⟨bt,3,none⟩=some (.slice ar N kr)∧w'.cell? ⟨bt,4,none⟩=some (.slice aa M ka)∧w'.cell? ⟨bt,5,none⟩=some (.slice (some ⟨gv,0,none⟩) N kv)∧w'.cell? ⟨bt,6,none⟩=some (.slice ah M kh)) (by kernel_rfl) ((C1.out.ext (drew_ext w)).c7) (fun hHeld=>?_)
    refine tkH 0 hHeld ?_
    simp only [jP,jA,jB,jC,jD,jE,jF]
    refine tkH 4 hHeld ?_
    simp only [jP,jA,jB,jC,jD,jE,jF]
    refine tkH 9 hHeld ?_
    simp only [jP,jA,jB,jC,jD,jE,jF]
    refine tkH 1 hHeld ?_
    simp only [jP,jA,jB,jC,jD,jE,jF]
    refine tkH 5 hHeld ?_
    simp only [jP,jA,jB,jC,jD,jE,jF]
    refine tkH 10 hHeld ?_
    simp only [jP,jA,jB,jC,jD,jE,jF]
    refine tkH 2 hHeld ?_
    simp only [jP,jA,jB,jC,jD,jE,jF]
    refine tkH 6 hHeld ?_
    simp only [jP,jA,jB,jC,jD,jE,jF]
    refine tkH 11 hHeld ?_
    simp only [jP,jA,jB,jC,jD,jE,jF]
    refine tkH 3 hHeld ?_
    simp only [jP,jA,jB,jC,jD,jE,jF]
    refine tkH 7 hHeld ?_
    simp only [jP,jA,jB,jC,jD,jE,jF]
    refine tkH 12 hHeld ?_
    simp only [jP,jA,jB,jC,jD,jE,jF]
    refine tkH 8 hHeld ?_
    simp only [jP,jA,jB,jC,jD,jE,jF]
    refine anyH_cap fun O Q9 AA hO hQ hA=>?_
    obtain ⟨SS,hSS⟩:∃ SS:World→Prop,Hid (SS=fun w'=>w'.cell? ⟨bt,0,none⟩=some (.int .i64 n0)∧w'.cell? ⟨bt,1,none⟩=some (.slice al M kl)∧w'.cell? ⟨bt,2,none⟩=some (.slice ab M kb)∧w'.cell? ⟨bt,3,none⟩=some (.slice ar N kr)∧w'.cell? ⟨bt,4,none⟩=some (.slice aa M ka)∧w'.cell? ⟨bt,5,none⟩=some (.slice (some ⟨gv,0,none⟩) N kv)∧w'.cell? ⟨bt,6,none⟩=some (.slice ah M kh)):=⟨_,rfl⟩
    have KP:Hid (∀ wv,Ext w wv→SS wv):=fun wv XE=>by rw [hSS.out];exact (C1.out.ext XE).c7
    have L4_17:∀ (wv:World) (v13 v14 v15 v16:Value) (B17:Nat),Hid (Ext w wv)→Hid (Wk wv v13 q)→Hid (Wk wv v14 q)→Hid (Wk wv (.tuple #[v15,.int .i64 0]) q)→Hid (Wk wv (.tuple #[v15,v16]) q)→Hid (Rt wv B17 3 49)→Hid (w.heap.size≤B17)→wpAnyH Tryz.prog .any O Q9 SS 2 #[true,true,true,true,true,true,true,true,true,true,true,true,true,true,true,true,true,true,false,false] (((((AA.put (some 22) v13).put (some 8) v14).put (some 23) v15).put (some 24) v16).put (some 3) (.pointer (some ⟨B17,0,none⟩))) wv:=by
     intro wv v13 v14 v15 v16 B17 hX p13 p14 p15 p16 r17 s17
     have hO1:=hO.out
     have hQ1:=hQ.out
     have hA1:=hA.out
     subst hO1
     subst hQ1
     subst hA1
     have XE:=hX.out
     have hHeld:=KP.out _ XE
     have hS1:=hSS.out
     subst hS1
     try simp only [jP,jA,jB,jC,jD,jE,jF]
     have k0_17:bt≠B17:=by have h1:=s17.out;have hz0:=SZT.out;omega
     obtain ⟨_,_,_,i17_0,i17_1,i17_2,f17_0,f17_1,f17_2⟩:=r17.out.rm.c3
     obtain ⟨o7,he7,oo7,szq⟩:=p16.out
     obtain ⟨rfl,rfl⟩:v15=o7∧v16=.int .i64 0:=by simpa using he7
     obtain ⟨_,_,_,_,_,_,_,rfl,OO⟩:=oo7.op
     refine rdH 18 (by kernel_rfl) rfl (fun K hK=>?_)
     go_simp
     refine hK.out _ _ (((C1.out.ext XE).putL k0_17 0 [_,_,_]).c7) (fun hHeld=>?_)
     clear hK K
     try simp only [jP,jA,jB,jC,jD,jE,jF]
     refine tkH 19 hHeld ?_
     simp only [jP,jA,jB,jC,jD,jE,jF]
     refine wpAnyH_done (by kernel_rfl) ?_ _
     refine NoPanic.normal ?_
     go_wp2_with fail
     go_meet
     exact ⟨B17,rfl,put3_below hX.out s17.out _ _ _,Bq.set r17.out (by decide) OO.out,szq⟩
    have L3_17:∀ (wv:World) (v13 v14 v15:Value) (B17:Nat),Hid (Ext w wv)→Hid (Wk wv v13 q)→Hid (Wk wv v14 q)→Hid (Wk wv (.tuple #[v15,.int .i64 0]) q)→Hid (Rt wv B17 3 49)→Hid (w.heap.size≤B17)→wpAnyH Tryz.prog .any O Q9 SS 3 #[true,true,true,true,true,true,true,true,true,true,true,true,true,true,true,true,false,true,false,false] ((((AA.put (some 22) v13).put (some 8) v14).put (some 23) v15).put (some 3) (.pointer (some ⟨B17,0,none⟩))) wv:=by
     intro wv v13 v14 v15 B17 hX p13 p14 p15 r17 s17
     have hO1:=hO.out
     have hQ1:=hQ.out
     have hA1:=hA.out
     subst hO1
     subst hQ1
     subst hA1
     have XE:=hX.out
     have hHeld:=KP.out _ XE
     have hS1:=hSS.out
     subst hS1
     try simp only [jP,jA,jB,jC,jD,jE,jF]
     obtain ⟨o7,rfl,oo7⟩:=p14.out
     refine tkH 16 hHeld ?_
     simp only [jP,jA,jB,jC,jD,jE,jF]
     exact wpAnyH_at (L4_17 wv _ _ _ _ B17 hX.out p13.out p14.out p15.out (p15.out) r17.out s17.out) (by kernel_rfl) (by kernel_rfl) (by kernel_rfl)
    have L4_:∀ (wv:World) (v13 v14 v15 v16:Value),Hid (Ext w wv)→Hid (Wk wv v13 q)→Hid (Wk wv v14 q)→Hid (Wk wv (.tuple #[v15,.int .i64 0]) q)→Hid (Wk wv (.tuple #[v15,v16]) q)→wpAnyH Tryz.prog .any O Q9 SS 3 #[true,true,true,true,true,true,true,true,true,true,true,true,true,true,true,true,true,false,false,false] ((((AA.put (some 22) v13).put (some 8) v14).put (some 23) v15).put (some 24) v16) wv:=by
     intro wv v13 v14 v15 v16 hX p13 p14 p15 p16
     have hO1:=hO.out
     have hQ1:=hQ.out
     have hA1:=hA.out
     subst hO1
     subst hQ1
     subst hA1
     have XE:=hX.out
     try simp only [jP,jA,jB,jC,jD,jE,jF]
     refine rdH 17 (by kernel_rfl) rfl (fun K hK=>?_)
     go_simp
     refine hK.out _ _ (KP.out _ (Ext.trans XE (Ext.alloc _ _))) (fun _=>?_)
     clear hK K
     try simp only [jP,jA,jB,jC,jD,jE,jF]
     exact wpAnyH_at (L4_17 _ v13 v14 v15 v16 wv.heap.size (Ext.trans XE (Ext.alloc wv (.cells [.bool false,.slice none 0 0,.slice none 0 0].toArray 49))) (p13.out.ext (Ext.alloc wv (.cells [.bool false,.slice none 0 0,.slice none 0 0].toArray 49))) (p14.out.ext (Ext.alloc wv (.cells [.bool false,.slice none 0 0,.slice none 0 0].toArray 49))) (p15.out.ext (Ext.alloc wv (.cells [.bool false,.slice none 0 0,.slice none 0 0].toArray 49))) (p16.out.ext (Ext.alloc wv (.cells [.bool false,.slice none 0 0,.slice none 0 0].toArray 49))) (Rt.new wv [.bool false,.slice none 0 0,.slice none 0 0] 49) (Below.size XE)) (by kernel_rfl) (by kernel_rfl) (by kernel_rfl)
    have L2_17:∀ (wv:World) (v13 v14:Value) (B17:Nat),Hid (Ext w wv)→Hid (Wk wv v13 q)→Hid (Wk wv v14 q)→Hid (Rt wv B17 3 49)→Hid (w.heap.size≤B17)→wpAnyH Tryz.prog .any O Q9 SS 4 #[true,true,true,true,true,true,true,true,true,true,true,true,true,true,true,false,false,true,false,false] (((AA.put (some 22) v13).put (some 8) v14).put (some 3) (.pointer (some ⟨B17,0,none⟩))) wv:=by
     intro wv v13 v14 B17 hX p13 p14 r17 s17
     have hO1:=hO.out
     have hQ1:=hQ.out
     have hA1:=hA.out
     subst hO1
     subst hQ1
     subst hA1
     have XE:=hX.out
     have hHeld:=KP.out _ XE
     have hS1:=hSS.out
     subst hS1
     try simp only [jP,jA,jB,jC,jD,jE,jF]
     obtain ⟨o7,rfl,oo7⟩:=p14.out
     refine tkH 15 hHeld ?_
     simp only [jP,jA,jB,jC,jD,jE,jF]
     exact wpAnyH_at (L3_17 wv _ _ _ B17 hX.out p13.out p14.out (p14.out) r17.out s17.out) (by kernel_rfl) (by kernel_rfl) (by kernel_rfl)
    have L3_:∀ (wv:World) (v13 v14 v15:Value),Hid (Ext w wv)→Hid (Wk wv v13 q)→Hid (Wk wv v14 q)→Hid (Wk wv (.tuple #[v15,.int .i64 0]) q)→wpAnyH Tryz.prog .any O Q9 SS 4 #[true,true,true,true,true,true,true,true,true,true,true,true,true,true,true,true,false,false,false,false] (((AA.put (some 22) v13).put (some 8) v14).put (some 23) v15) wv:=by
     intro wv v13 v14 v15 hX p13 p14 p15
     have hO1:=hO.out
     have hQ1:=hQ.out
     have hA1:=hA.out
     subst hO1
     subst hQ1
     subst hA1
     have XE:=hX.out
     have hHeld:=KP.out _ XE
     have hS1:=hSS.out
     subst hS1
     try simp only [jP,jA,jB,jC,jD,jE,jF]
     obtain ⟨o7,rfl,oo7⟩:=p14.out
     refine tkH 16 hHeld ?_
     simp only [jP,jA,jB,jC,jD,jE,jF]
     exact wpAnyH_at (L4_ wv _ _ _ _ hX.out p13.out p14.out p15.out (p15.out)) (by kernel_rfl) (by kernel_rfl) (by kernel_rfl)
    have L1_17:∀ (wv:World) (v13:Value) (B17:Nat),Hid (Ext w wv)→Hid (Wk wv v13 q)→Hid (Rt wv B17 3 49)→Hid (w.heap.size≤B17)→wpAnyH Tryz.prog .any O Q9 SS 5 #[true,true,true,true,true,true,true,true,true,true,true,true,true,true,false,false,false,true,false,false] ((AA.put (some 22) v13).put (some 3) (.pointer (some ⟨B17,0,none⟩))) wv:=by
     intro wv v13 B17 hX p13 r17 s17
     have hO1:=hO.out
     have hQ1:=hQ.out
     have hA1:=hA.out
     subst hO1
     subst hQ1
     subst hA1
     have XE:=hX.out
     have hHeld:=KP.out _ XE
     have hS1:=hSS.out
     subst hS1
     try simp only [jP,jA,jB,jC,jD,jE,jF]
     refine tkH 14 hHeld ?_
     simp only [jP,jA,jB,jC,jD,jE,jF]
     exact wpAnyH_at (L2_17 wv _ _ B17 hX.out p13.out (p13.out) r17.out s17.out) (by kernel_rfl) (by kernel_rfl) (by kernel_rfl)
    have L2_:∀ (wv:World) (v13 v14:Value),Hid (Ext w wv)→Hid (Wk wv v13 q)→Hid (Wk wv v14 q)→wpAnyH Tryz.prog .any O Q9 SS 5 #[true,true,true,true,true,true,true,true,true,true,true,true,true,true,true,false,false,false,false,false] ((AA.put (some 22) v13).put (some 8) v14) wv:=by
     intro wv v13 v14 hX p13 p14
     have hO1:=hO.out
     have hQ1:=hQ.out
     have hA1:=hA.out
     subst hO1
     subst hQ1
     subst hA1
     have XE:=hX.out
     have hHeld:=KP.out _ XE
     have hS1:=hSS.out
     subst hS1
     try simp only [jP,jA,jB,jC,jD,jE,jF]
     obtain ⟨o7,rfl,oo7⟩:=p14.out
     refine tkH 15 hHeld ?_
     simp only [jP,jA,jB,jC,jD,jE,jF]
     exact wpAnyH_at (L3_ wv _ _ _ hX.out p13.out p14.out (p14.out)) (by kernel_rfl) (by kernel_rfl) (by kernel_rfl)
    have L0_17:∀ (wv:World) (B17:Nat),Hid (Ext w wv)→Hid (Rt wv B17 3 49)→Hid (w.heap.size≤B17)→wpAnyH Tryz.prog .any O Q9 SS 6 #[true,true,true,true,true,true,true,true,true,true,true,true,true,false,false,false,false,true,false,false] (AA.put (some 3) (.pointer (some ⟨B17,0,none⟩))) wv:=by
     intro wv B17 hX r17 s17
     have hO1:=hO.out
     have hQ1:=hQ.out
     have hA1:=hA.out
     subst hO1
     subst hQ1
     subst hA1
     have XE:=hX.out
     try simp only [jP,jA,jB,jC,jD,jE,jF]
     refine rdH 13 (by kernel_rfl) rfl (fun K hK=>?_)
     go_simp
     go_at_call 58
     refine (HCH.out _ XE).mono ?_
     rintro e wn ⟨vn,rfl,bn,on⟩
     go_wp2_with fail
     refine hK.out _ _ (KP.out _ (Ext.trans XE bn)) (fun _=>?_)
     clear hK K
     try simp only [jP,jA,jB,jC,jD,jE,jF]
     exact wpAnyH_at (L1_17 wn vn B17 (Ext.trans XE bn) (on) (r17.out.ext bn) s17) (by kernel_rfl) (by kernel_rfl) (by kernel_rfl)
    have L1_:∀ (wv:World) (v13:Value),Hid (Ext w wv)→Hid (Wk wv v13 q)→wpAnyH Tryz.prog .any O Q9 SS 6 #[true,true,true,true,true,true,true,true,true,true,true,true,true,true,false,false,false,false,false,false] (AA.put (some 22) v13) wv:=by
     intro wv v13 hX p13
     have hO1:=hO.out
     have hQ1:=hQ.out
     have hA1:=hA.out
     subst hO1
     subst hQ1
     subst hA1
     have XE:=hX.out
     have hHeld:=KP.out _ XE
     have hS1:=hSS.out
     subst hS1
     try simp only [jP,jA,jB,jC,jD,jE,jF]
     refine tkH 14 hHeld ?_
     simp only [jP,jA,jB,jC,jD,jE,jF]
     exact wpAnyH_at (L2_ wv _ _ hX.out p13.out (p13.out)) (by kernel_rfl) (by kernel_rfl) (by kernel_rfl)
    have L0_:∀ (wv:World),Hid (Ext w wv)→wpAnyH Tryz.prog .any O Q9 SS 7 #[true,true,true,true,true,true,true,true,true,true,true,true,true,false,false,false,false,false,false,false] AA wv:=by
     intro wv hX
     have hO1:=hO.out
     have hQ1:=hQ.out
     have hA1:=hA.out
     subst hO1
     subst hQ1
     subst hA1
     have XE:=hX.out
     try simp only [jP,jA,jB,jC,jD,jE,jF]
     refine wpAnyH_ready (rs:=[13,17]) (by kernel_rfl) (by simp) ?_
     refine AllReadyH.cons (o:=_) rfl (fun K hK=>?_) (AllReadyH.cons (o:=_) rfl (fun K hK=>?_) AllReadyH.nil)
     ·skip
      go_simp
      go_at_call 58
      refine (HCH.out _ XE).mono ?_
      rintro e wn ⟨vn,rfl,bn,on⟩
      go_wp2_with fail
      refine hK.out _ _ (KP.out _ (Ext.trans XE bn)) (fun _=>?_)
      clear hK K
      try simp only [jP,jA,jB,jC,jD,jE,jF]
      exact wpAnyH_at (L1_ wn vn (Ext.trans XE bn) (on)) (by kernel_rfl) (by kernel_rfl) (by kernel_rfl)
     ·skip
      go_simp
      refine hK.out _ _ (KP.out _ (Ext.trans XE (Ext.alloc _ _))) (fun _=>?_)
      clear hK K
      try simp only [jP,jA,jB,jC,jD,jE,jF]
      exact wpAnyH_at (L0_17 _ wv.heap.size (Ext.trans XE (Ext.alloc wv (.cells [.bool false,.slice none 0 0,.slice none 0 0].toArray 49))) (Rt.new wv [.bool false,.slice none 0 0,.slice none 0 0] 49) (Below.size XE)) (by kernel_rfl) (by kernel_rfl) (by kernel_rfl)
    have hO1:=hO.out
    have hQ1:=hQ.out
    have hA1:=hA.out
    subst hO1
    subst hQ1
    subst hA1
    have hS1:=hSS.out
    subst hS1
    exact wpAnyH_at (L0_ w.drew (drew_ext w)) (by kernel_rfl) (by kernel_rfl) (by kernel_rfl)
 case rest=>
  as_aux_lemma=>
   obtain ⟨E,rfl,b1,HE,SE⟩:=hcut
   obtain ⟨w1,hw1⟩:∃ w0:World,w0=wc:=⟨_,rfl⟩
   subst hw1
   have D1:=Lib.hid (C1.out.ext b1)
   clear HCH C1 SZT
   obtain ⟨rs,ra,rl,rk,ra',rl',rk',CE,-,QE⟩:=HE.out.op
   clear HE
   go_upto_region 3 with (fail)
   have b2:=drew_ext w1
   have XE:=b2
   refine wp_region_noPanic ?_
   refine wp_region_held_drew (S:=fun w'=>w'.cell? ⟨bt,0,none⟩=some (.int .i64 n0)∧w'.cell? ⟨bt,1,none⟩=some (.slice al M kl)∧w'.cell? ⟨bt,2,none⟩=some (.slice ab M kb)∧w'.cell? ⟨bt,3,none⟩=some (.slice ar N kr)∧w'.cell? ⟨bt,4,none⟩=some (.slice aa M ka)∧w'.cell? ⟨bt,5,none⟩=some (.slice (some ⟨gv,0,none⟩) N kv)∧w'.cell? ⟨bt,6,none⟩=some (.slice ah M kh)) (by kernel_rfl) ((D1.out.ext XE).c7) (fun hHeld=>?_)
   refine tkH 0 hHeld ?_
   simp only [jP,jA,jB,jC,jD,jE,jF]
   refine tkH 1 hHeld ?_
   simp only [jP,jA,jB,jC,jD,jE,jF]
   refine tkH 2 hHeld ?_
   simp only [jP,jA,jB,jC,jD,jE,jF]
   refine tkH 3 hHeld ?_
   simp only [jP,jA,jB,jC,jD,jE,jF]
   refine tkH 4 hHeld ?_
   simp only [jP,jA,jB,jC,jD,jE,jF]
   refine tkH 5 hHeld ?_
   simp only [jP,jA,jB,jC,jD,jE,jF]
   refine tkH 6 hHeld ?_
   simp only [jP,jA,jB,jC,jD,jE,jF]
   refine tkH 7 hHeld ?_
   simp only [jP,jA,jB,jC,jD,jE,jF]
   refine tkH 8 hHeld ?_
   simp only [jP,jA,jB,jC,jD,jE,jF]
   refine tkH 9 hHeld ?_
   simp only [jP,jA,jB,jC,jD,jE,jF]
   refine tkH 10 hHeld ?_
   simp only [jP,jA,jB,jC,jD,jE,jF]
   refine wpAnyH_done (by kernel_rfl) ?_ _
   refine NoPanic.normal ?_
   clear hHeld
   go_wp2_with fail
   clear D1
   go_loopw [5,35] (fun o t wr=>∃ j:Nat,t=.int .i64 j∧j≤n0∧Ext w1 wr∧Hid (OwnRow 3 (OwnQp 115) 49 w1.heap.size wr o (tab j fun j=>s.a j+s.b j*q))) (fun _ t _=>n0 - (intOf t).toNat)
   case atStart=>exact ⟨0,rfl,Nat.zero_le _,XE,OwnRow.nil _ _ _⟩
   case round=>
    clear XE b2
    obtain ⟨j,rfl,hj,hxr,hO⟩:=hrel
    have hC:=Lib.hid (CE.out.ext hxr)
    have hQ:=Lib.hid (QE.out.ext hxr)
    have hx0:=Ext.trans b1 hxr
    by_cases hjl:j < n0
    ·have hd:decide ((j:Int) < (n0:Int))=true:=decide_eq_true (by omega)
     have HJ1:IntKind.i64.wrap ((j:Int)+1)=((j+1:Nat):Int):=by rw [IntKind.wrap_i64];omega
     have hJ2:(0:Int)≤(j:Int)∧(j:Int) < (n0:Int):=⟨by omega,by omega⟩
     obtain ⟨bv,ov,sg,x,k,m,y,k',m',t,x2,k2,m2,y2,k2',m2',hav,hbv,hov⟩:=HRV.out.od j (by rw [tab_len];exact hjl)
     simp only [Option.some.injEq,Addr.mk.injEq,and_true] at hav
     obtain ⟨rfl,rfl⟩:=hav
     rw [tab_gt hjl] at hov
     rw [Nat.zero_add] at hbv
     obtain ⟨u0,u1,u2,u3,u4,u5⟩:=(hbv.ext hx0).c6
     obtain ⟨w4,hw4,b4,c4,-,-⟩:=bx1 wr [.bool sg,.slice x k m,.slice y k' m',.bool t,.slice x2 k2 m2,.slice y2 k2' m2'] 122
     have HW:=Lib.hid hw4
     have C4:=Lib.hid c4
     have HD4:=Lib.hid ((hov.ext hx0).ext b4)
     clear hbv hov hw4 c4
     go_upto_region 6 with (fail)
     rw [← HW.out]
     clear HW u0 u1 u2 u3 u4 u5
     obtain ⟨k0,k1,k2',k3,k4,k5⟩:=C4.out.c6
     obtain ⟨g0,g1,g2⟩:=(hC.out.ext b4).c3
     have SJ:=Lib.hid (SV.out j hjl)
     go_wp2_with fail
     refine (dat_any HD4.out.rd (hQ.out.ext b4).rd (SJ.out.1.le (by decide)) (SJ.out.2.le (by decide)) (SE.out.le (by decide))).mono ?_
     rintro e w5 ⟨_,rfl,b5,o5⟩
     obtain ⟨s6,a6,l6,c6,a7,l7,c7,rfl,O5⟩:=o5.op
     clear o5 k0 k1 k2' k3 k4 k5 g0 g1 g2
     have x5:=Ext.trans hxr (Ext.trans b4 b5)
     have hO5:=Lib.hid (hO.out.ext OwnQ.ext (Ext.trans b4 b5))
     have HTL:Hid ((tab j fun j=>s.a j+s.b j*q).length=j):=tab_len _ _
     go_wp2_with (at_builtin;refine append_rowL (y:=s.a j+s.b j*q) etQS (kdQ (e:=115) (by decide)) (by rfl) _ _ (by rfl) w1.heap.size (by rfl) _ (by rfl) hO5.out rfl (O5.out.mono (Nat.zero_le _)) (Below.size x5) (by rw [HTL.out];omega) (by rw [HTL.out];unfold maxLen;omega) ?_;intro v9 w9 o9 b9 g9)
     go_roundw
     case rel=>exact ⟨j+1,by go_num,by omega,Below.trans x5 b9,by rw [tab_succ];exact o9⟩
     case measure=>simp [intOf] <;> omega
    ·obtain rfl:j=n0:=by omega
     have hd:decide ((j:Int) < (j:Int))=false:=decide_eq_false (by omega)
     go_wp2_with fail
     exact hR.out _ _ (Gives.mk hx0 ⟨hO.out.mono (Below.size b1),SE.out⟩)
end Go.Proofs.YthpaifdfafjlcaaGreat
