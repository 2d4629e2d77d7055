/- A group of texts: FarkLaw, RowSet, PR15Rats -/
import Derived.Test.YtmlhccajicmpfaaGreatSq
import Derived.Test.YtmlhccajicmpfaaGreatPartCH
import Derived.Test.YtmlhccajicmpfaaGreatPartBD
import Derived.Test.YtmlhccajicmpfaaGreatPartBA
set_option maxHeartbeats 40000000
set_option maxRecDepth 100000
set_option linter.unusedSimpArgs false
namespace Go.Proofs.YtmlhccajicmpfaaGreat
open Go.RowKit Go.Att

theorem sgge {q:Rat}:0≤q.num.sign↔0≤q:=by rw [Int.sign_nonneg_iff];exact Rat.num_nonneg
theorem sgle {q:Rat}:q.num.sign≤0↔q≤0:=by
 have h1:0≤(0 - q).num↔0≤0 - q:=Rat.num_nonneg
 rw [Rat.le_iff_sub_nonneg q 0,← h1,show (0 - q).num = -q.num by rw [Rat.sub_eq_add_neg,Rat.zero_add,Rat.neg_num],Int.sign_nonpos_iff]
 omega
theorem sglt {q:Rat}:q.num.sign < 0↔q < 0:=by
 rw [← Rat.not_le,← sgge]
 omega
theorem sggt {q:Rat}:0 < q.num.sign↔0 < q:=by
 rw [← Rat.not_le,← sgle]
 omega
def av (P:List Rat) (a:AT):Rat:=a.1.2+smv (cf a.1.1) P 0
end Go.Proofs.YtmlhccajicmpfaaGreat

namespace Go.Att
open Go.RowKit

theorem Pw.all {α:Type} {k:Nat} {R:List Value→α→Prop}:∀ {E:List (List Value)} {l:List α},Pw k R E l→∀ c∈E,c.length=k
 | _ :: _,_ :: _,h,c,hc=>by
  rcases List.mem_cons.1 hc with rfl | hc
  ·exact h.1.1
  exact Pw.all h.2 c hc
 | [],[],_,_,hc=>by cases hc
 | [],_ :: _,h,_,_=>h.elim
 | _ :: _,[],h,_,_=>h.elim
end Go.Att

namespace Go.Proofs.YtmlhccajicmpfaaGreat
open Go.RowKit Go.Att

theorem r15rats_yes {w:World} {va vb:Value} {P:List Rat} (ha:RdRow 3 (OwnPp 4) w va P) (hb:RdRow 3 (OwnPp 4) w vb P) (hP:∀ p∈P,Sb 50000 p) (hl:P.length≤1000):
  Calls Tryz.prog 21 #[va,vb] w (Gives w fun v' _=>v'=.bool true):=by
 refine via fun R hR=>?_
 have HA:=qH ha
 have HB:=qH hb
 have HP:=qH hP
 obtain ⟨aa,ka,rfl,-,-⟩:=ha.shape
 obtain ⟨ab,kb,rfl,-,-⟩:=hb.shape
 clear ha hb hP
 go_enter Tryz.func21,Tryz.ntmps21
 go_wp2_with fail
 go_loopw [13] (fun t wr=>∃ j:Nat,t=.int .i64 j∧j≤P.length∧Ext w wr) (fun t _=>P.length - (intOf t).toNat)
 case atStart=>exact ⟨0,rfl,Nat.zero_le _,Ext.refl _⟩
 case round=>
  obtain ⟨j,rfl,hj,hx⟩:=hrel
  by_cases hjl:j < P.length
  ·have hd:=dT ((j:Int) < (P.length:Int))
   obtain ⟨bP,oP,ps,pa,pl,pk,pa',pl',pk',hpe,hpo,hpq⟩:=HA.out.op' j hjl
   subst hpe
   obtain ⟨bQ,oQ,qs,qa,ql,qk,qa',ql',qk',hqe,hqo,hqq⟩:=HB.out.op' j hjl
   subst hqe
   have hJ1:IntKind.i64.wrap (j:Int)=(j:Int):=by rw [IntKind.wrap_i64];omega
   have hJ2:(0:Int)≤(j:Int)∧(j:Int) < (P.length:Int):=⟨by omega,by omega⟩
   have HSZ:Hid (Sb 50000 (gt P j)):=HP.out _ (gt_mem' hjl)
   have HZ:Hid ((gt P j - gt P j).num.sign=0):=by show _=_;rw [Rat.sub_self];rfl
   generalize gt P j=q at*
   obtain ⟨w4,hw4⟩:∃ w0:World,w0=wr:=⟨_,rfl⟩
   subst hw4
   have CP:=qH (hpo.ext hx)
   have CQ:=qH (hqo.ext hx)
   have QP:=qH (hpq.ext hx)
   have QQ:=qH (hqq.ext hx)
   clear hpo hqo hpq hqq
   go_upto_region 6 with (fail)
   have b5:=drew_ext w4
   have XE:=b5
   refine wp_region_noPanic ?_
   refine wp_region_held_drew (S:=fun w'=>(w'.cell? ⟨bP,oP+j*3,none⟩=some (.bool ps)∧w'.cell? ⟨bP,oP+j*3+1,none⟩=some (.slice pa pl pk)∧w'.cell? ⟨bP,oP+j*3+2,none⟩=some (.slice pa' pl' pk'))∧(w'.cell? ⟨bQ,oQ+j*3,none⟩=some (.bool qs)∧w'.cell? ⟨bQ,oQ+j*3+1,none⟩=some (.slice qa ql qk)∧w'.cell? ⟨bQ,oQ+j*3+2,none⟩=some (.slice qa' ql' qk'))) kR (⟨(CP.out.ext XE).c3,(CQ.out.ext XE).c3⟩) (fun hHeld=>?_)
   refine tkH 0 hHeld ?_
   simp only [jP,jJ]
   refine tkH 1 hHeld ?_
   simp only [jP,jJ]
   refine tkH 2 hHeld ?_
   simp only [jP,jJ]
   refine tkH 3 hHeld ?_
   simp only [jP,jJ]
   refine tkH 4 hHeld ?_
   simp only [jP,jJ]
   refine tkH 5 hHeld ?_
   simp only [jP,jJ]
   refine tkH 6 hHeld ?_
   simp only [jP,jJ]
   refine tkH 7 hHeld ?_
   simp only [jP,jJ]
   refine rdH 8 kR rfl (fun K hK=>?_)
   go_simp
   go_at_call 49;refine (HZ.out ▸ r5cmp_any (QP.out.rd.ext XE) (QQ.out.rd.ext XE) HSZ.out HSZ.out).mono ?_;rintro e w6 ⟨_,rfl,b6,rfl⟩;(first | have XE:=eT XE b6 | have XE:=eT (eT XE (Ext.alloc _ _)) b6)
   go_wp2_with fail
   refine hK.out _ _ (⟨(CP.out.ext XE).c3,(CQ.out.ext XE).c3⟩) (fun hHeld=>?_)
   clear hK K
   try simp only [jP,jJ]
   refine tkH 9 hHeld ?_
   simp only [jP,jJ]
   refine dnH kR ?_
   go_wp2_with fail
   go_roundw
   case rel=>exact ⟨j+1,by go_num,by omega,eT hx XE⟩
   simp [intOf]<;>omega
  obtain rfl:j=P.length:=by omega
  have hd:=dF ((P.length:Int) < (P.length:Int))
  go_wp2_with fail
  exact hR.out _ _ (Gives.mk hx rfl)
end Go.Proofs.YtmlhccajicmpfaaGreat
