/- A group of texts: PFarkRef, PFarkSumZ -/
import Derived.Test.YtdooldpgnjmpfaaGreatDoorSq
import Derived.Test.YtdooldpgnjmpfaaGreatDoorPartCA
namespace Go.Proofs.YtdooldpgnjmpfaaGreatDoor
open Go.RowKit Go.Att

def RefV (L:List AT) (P:List Rat) (t:Bool) (e:Int):Prop:=
 if L.length≠P.length then t=false∧e=1
 else if (L.zip P).any fbad=true then t=false∧e=4
 else e=0∧(t=true↔(∀ x,fcf (L.zip P) x=0)∧(0 < (fct (L.zip P)).num.sign∨(fct (L.zip P)).num.sign=0∧fst' (L.zip P)=true))
def holdA (p:AT) (P:List Rat):Bool:=says p.2 (p.1.2+smv (cf p.1.1) P 0)
open Go.RowKit Go.Att

def SmK (K:Nat) (a:AT):Prop:=a.1.1.length≤12∧(∀ x,Sz K (cf a.1.1 x))∧(∀ t∈a.1.1,Sz K t.2)∧Sz K a.1.2
theorem fcf_szK {K T:Nat} {l:List AZ} (h:∀ z∈l,SmK K z.1∧Sz T z.2) (x:Int):Sz (l.length*(K+T+1)+1) (fcf l x):=by
 induction l with
 | nil=>exact Sz.zero.le (by omega)
 | cons z l ih=>
  have h1:=h z List.mem_cons_self
  refine ((h1.2.mul (h1.1.2.1 x)).add (ih fun y hy=>h y (List.mem_cons_of_mem _ hy))).le ?_
  simp only [List.length_cons,Nat.add_mul]
  omega
theorem fct_szK {K T:Nat} {l:List AZ} (h:∀ z∈l,SmK K z.1∧Sz T z.2):Sz (l.length*(K+T+1)+1) (fct l):=by
 induction l with
 | nil=>exact Sz.zero.le (by omega)
 | cons z l ih=>
  have h1:=h z List.mem_cons_self
  refine ((h1.2.mul h1.1.2.2.2).add (ih fun y hy=>h y (List.mem_cons_of_mem _ hy))).le ?_
  simp only [List.length_cons,Nat.add_mul]
  omega
theorem zip_inK {K T:Nat} {L:List AT} {P:List Rat} (hL:∀ a∈L,SmK K a) (hP:∀ p∈P,Sz T p) (j:Nat):∀ z∈(L.zip P).take j,SmK K z.1∧Sz T z.2:=fun z hz=>by
 have h:=List.mem_of_mem_take hz
 exact ⟨hL _ (List.of_mem_zip h).1,hP _ (List.of_mem_zip h).2⟩
def SumZ (L:List AT) (P:List Rat) (w:World) (u:Value) (sb:Bool) (e:Int):Prop:=
 if L.length≠P.length then OwnX 0 w u [] 0∧sb=false∧e=1
 else if (L.zip P).any fbad=true then OwnX 0 w u [] 0∧sb=false∧e=4
 else ∃ l,FormT l∧(∀ x,cf l x=fcf (L.zip P) x)∧l.length≤1000∧sb=fst' (L.zip P)∧e=0∧OwnX 0 w u l (fct (L.zip P))
theorem SumZ.putT {L:List AT} {P:List Rat} {w:World} {u:Value} {sb:Bool} {e:Int} (h:SumZ L P w u sb e) {c:Nat} (hc:Rt w c 4 61) (cs:List Value):SumZ L P (Att.putL w c 0 cs) u sb e:=by
 unfold SumZ at*
 split
 ·rename_i h1
  rw [if_pos h1] at h
  exact ⟨h.1.putT hc (by decide) (by decide) 0 cs,h.2⟩
 ·rename_i h1
  rw [if_neg h1] at h
  split
  ·rename_i h2
   rw [if_pos h2] at h
   exact ⟨h.1.putT hc (by decide) (by decide) 0 cs,h.2⟩
  ·rename_i h2
   rw [if_neg h2] at h
   obtain ⟨l,g1,g2,g3,g4,g5,g6⟩:=h
   exact ⟨l,g1,g2,g3,g4,g5,g6.putT hc (by decide) (by decide) 0 cs⟩
set_option linter.unusedSimpArgs false in
set_option maxHeartbeats 20000000 in
set_option maxRecDepth 100000 in
theorem fsum_z (K T N:Nat) {w:World} {va vb:Value} {L:List AT} {P:List Rat} (ha:RdRow 5 OwnA w va L) (hb:RdRow 3 (OwnQp 119) w vb P) (hL:∀ a∈L,SmK K a) (hP:∀ p∈P,Sz T p) (hn:L.length≤N) (hN:N≤60) (hKT:N*(K+T+1)+1≤9900) (h9:K+T≤9000):
  Calls Tryz.prog 68 #[va,vb] w (Gives w fun v' w'=>∃ u sb e,v'=.tuple #[u,.bool sb,.int .i64 e]∧SumZ L P w' u sb e):=by
 refine via fun R hR=>?_
 have HN:=Lib.hid hn
 have HL:=Lib.hid hL
 have HP:=Lib.hid hP
 have HA:=Lib.hid ha
 have HB:=Lib.hid hb
 obtain ⟨aa,ka,rfl,hka,hma⟩:=ha.shape
 obtain ⟨ab,kb,rfl,hkb,hmb⟩:=hb.shape
 unfold maxLen at hmb hma
 clear ha hb hL hP
 obtain ⟨w1,hw1,b1,c1,r1,-⟩:=bx1 w [.slice none 0 0,.bool false,.slice none 0 0,.slice none 0 0] 61
 have HW:=Lib.hid hw1
 have R1:Hid (Rt w1 w.heap.size 4 61):=by
  show Rt _ _ _ _
  rw [hw1]
  exact Rt.new w [.slice none 0 0,.bool false,.slice none 0 0,.slice none 0 0] 61
 clear hw1 c1 r1
 go_enter Tryz.func68,Tryz.ntmps68
 go_upto_region 1 with (fail)
 rw [← HW.out]
 clear HW
 by_cases hlen:L.length=P.length
 ·have hd0:((L.length:Int) != (P.length:Int))=false:=bneF (by omega)
  have HLEN:=Lib.hid hlen
  clear hlen
  obtain ⟨w2,hw2,b2,c2,-,-⟩:=bx1 w1 [.slice none 0 0,.bool false,.slice none 0 0,.slice none 0 0] 61
  have HW:=Lib.hid hw2
  have R2:Hid (Rt w2 w1.heap.size 4 61):=by
   show Rt _ _ _ _
   rw [hw2]
   exact Rt.new w1 [.slice none 0 0,.bool false,.slice none 0 0,.slice none 0 0] 61
  have C2:=Lib.hid c2
  clear hw2 c2
  go_upto_region 4 with (fail)
  rw [← HW.out]
  clear HW hd0
  obtain ⟨BO,hBO⟩:∃ BO,w1.heap.size=BO:=⟨_,rfl⟩
  have hBO1:w1.heap.size≤BO:=Nat.le_of_eq hBO
  rw [hBO] at R2 C2 ⊢
  clear hBO
  go_wp2_with fail
  go_loopw [8,20] (fun st t wr=>∃ (j:Nat) (sb:Bool),t=.int .i64 j∧st=.bool sb∧j≤L.length∧Ext w1 wr∧Hid (SumS L P wr BO j sb)) (fun _ t _=>L.length - (intOf t).toNat)
  case atStart=>exact ⟨0,false,rfl,rfl,Nat.zero_le _,b2,by
   rw [show SumS L P w2 BO 0 false=SumS L P w2 BO 0 false from rfl]
   exact Lib.hid ⟨[],none,0,false,none,0,0,none,0,0,C2.out,R2.out,by rw [List.take_zero];exact ownx_nil _,FormT.nil,fun x=>by rw [List.take_zero];rfl,Nat.zero_le _,by rw [List.take_zero];rfl,fun z hz=>by rw [List.take_zero] at hz;cases hz⟩⟩
  case round=>
   clear C2 R2
   obtain ⟨j,sb,rfl,rfl,hj,hx,hS⟩:=hrel
   by_cases hjl:j < L.length
   ·have hd:decide ((j:Int) < (L.length:Int))=true:=decide_eq_true (by omega)
    have hjP:j < P.length:=by have:=HLEN.out;omega
    have b0r:=Ext.trans b1 hx
    obtain ⟨bA,oA,xa,xk,xs,xb,xm,xd,xb',xm',xd',hae,hbo,hax⟩:=HA.out.atm j hjl
    subst hae
    obtain ⟨bP,oP,ps,pa,pl,pk,pa',pl',pk',hpe,hpo,hpq⟩:=HB.out.oq j hjP
    subst hpe
    obtain ⟨u0,u1,u2,u3,u4⟩:=(hbo.ext b0r).c5
    have hJ1:IntKind.i64.wrap (j:Int)=(j:Int):=by rw [IntKind.wrap_i64];omega
    have hJ2:(0:Int)≤(j:Int)∧(j:Int) < (L.length:Int):=⟨by omega,by omega⟩
    have hJ3:(0:Int)≤(j:Int)∧(j:Int) < (P.length:Int):=⟨by omega,by omega⟩
    have HZS:=Lib.hid (zip_snoc hjl hjP)
    have HSA:=Lib.hid (HL.out L[j] (List.getElem_mem hjl))
    have HSP:Hid (Sz T (gt P j)):=HP.out _ (gt_mem' hjP)
    have HBAD:Hid (fbad (L[j],gt P j)=true→(L.zip P).any fbad=true):=fun h=>List.any_eq_true.2 ⟨_,List.mem_of_mem_take (by rw [HZS.out];exact List.mem_append_right _ List.mem_cons_self:(L[j],gt P j)∈(L.zip P).take (j+1)),h⟩
    have HAX:=Lib.hid (hax.ext b0r)
    have HPQ:=Lib.hid (hpq.ext b0r)
    have CP:=Lib.hid (hpo.ext b0r)
    obtain ⟨q,hq⟩:∃ q,gt P j=q:=⟨_,rfl⟩
    obtain ⟨la,hla⟩:∃ la,L[j].1.1=la:=⟨_,rfl⟩
    obtain ⟨ca,hca⟩:∃ ca,L[j].1.2=ca:=⟨_,rfl⟩
    obtain ⟨op,hop⟩:∃ op,L[j].2=op:=⟨_,rfl⟩
    have hLj:L[j]=((la,ca),op):=by rw [← hla,← hca,← hop]
    rw [hLj,hq] at HZS HBAD
    rw [hLj] at HSA
    
    rw [hq] at HSP HPQ
    rw [hla,hca] at HAX
    rw [hop] at u4
    rw [hla] at u0
    clear hq hla hca hop hLj hbo hax hpo hpq
    obtain ⟨w4,hw4,b4,c4,-,-⟩:=bx1 wr [.slice xa la.length xk,.bool xs,.slice xb xm xd,.slice xb' xm' xd',.int .i64 op] 63
    have HW:=Lib.hid hw4
    have C4:=Lib.hid c4
    clear hw4 c4
    go_upto_region 8 with (fail)
    rw [← HW.out]
    clear HW u0 u1 u2 u3 u4
    have HOA:Hid (OwnA w4 (.agg #[.slice xa la.length xk,.bool xs,.slice xb xm xd,.slice xb' xm' xd',.int .i64 op]) ((la,ca),op)):=⟨_,_,_,_,rfl,HAX.out.ext b4⟩
    have CP4:=Lib.hid (CP.out.ext b4)
    have HPQ4:=Lib.hid (HPQ.out.ext b4)
    have hS4:=Lib.hid (hS.out.ext b4)
    have x4:=Ext.trans hx b4
    obtain ⟨sg,hsg⟩:∃ sg,q.num.sign=sg:=⟨_,rfl⟩
    have HSG:=Lib.hid hsg
    have HSGN:Hid (∀ w',Ext w4 w'→Calls Tryz.prog 69 #[.agg #[.bool ps,.slice pa pl pk,.slice pa' pl' pk']] w' (Gives w' fun v' _=>v'=.int .i64 sg)):=fun w' x=>by rw [← hsg];exact rsign_any (HPQ4.out.rd.ext x)
    have HFB:Hid (fbad (((la,ca),op),q)=(!(decide (1≤op∧op≤3)) || (op != 3 && decide (sg < 0)))):=by show _=_;rw [← hsg];rfl
    clear hsg
    go_cut [40] (fun s40 wx=>s40=.bool (fbad (((la,ca),op),q))∧Ext w4 wx)
    case first=>
     as_aux_lemma=>
      obtain ⟨k0,k1,k2,k3,k4⟩:=C4.out.c5
      go_wp2_with fail
      refine (check9_any HOA.out).mono ?_
      rintro e w5 ⟨_,rfl,b5,rfl⟩
      clear k0 k1 k2 k3 k4
      show _
      obtain ⟨k0,k1,k2,k3,k4⟩:=(C4.out.ext b5).c5
      by_cases hop:1≤op∧op≤3
      ·have hc:chk op=0:=if_pos hop
       have hdp:decide (1≤op∧op≤3)=true:=decide_eq_true hop
       dsimp only
       rw [hc]
       by_cases h3:op=3
       ·have e3:(op != 3)=false:=bneF h3
        have HV:Hid (fbad (((la,ca),op),q)=false):=by show _=_;rw [HFB.out,hdp,e3];rfl
        clear hdp hop h3
        go_wp2_with fail
        go_meet
        exact ⟨by rw [HV.out],b5⟩
       ·have e3:(op != 3)=true:=bneT h3
        have HV:Hid (fbad (((la,ca),op),q)=decide (sg < 0)):=by show _=_;rw [HFB.out,hdp,e3];simp
        clear hdp hop h3
        obtain ⟨t0,t1,t2⟩:=(CP4.out.ext b5).c3
        go_wp2_with fail
        refine (HSGN.out _ b5).mono ?_
        rintro e w6 ⟨_,rfl,b6,rfl⟩
        go_wp2_with fail
        go_meet
        exact ⟨by rw [HV.out],Ext.trans b5 b6⟩
      ·have hc:chk op=4:=if_neg hop
       have hdp:decide (1≤op∧op≤3)=false:=decide_eq_false hop
       have HV:Hid (fbad (((la,ca),op),q)=true):=by show _=_;rw [HFB.out,hdp];rfl
       dsimp only
       rw [hc]
       clear hdp hop
       go_wp2_with fail
       go_meet
       exact ⟨by rw [HV.out],b5⟩
    case rest=>
     as_aux_lemma=>
      obtain ⟨rfl,b5⟩:=hcut
      generalize wc=w5 at*
      by_cases hfb:fbad (((la,ca),op),q)=true
      ·have HSR:Hid (∀ w' u sb e,SumZ L P w' u sb e↔OwnX 0 w' u [] 0∧sb=false∧e=4):=fun w' u sb e=>by unfold SumZ;rw [if_neg (fun h=>h HLEN.out),if_pos (HBAD.out hfb)]
       rw [hfb]
       clear hfb
       obtain ⟨_,_,_,_,j0,j1,j2,j3,i0,i1,i2,i3⟩:=(R1.out.ext (Ext.trans x4 b5)).c4
       go_wp2_with fail
       refine bodyPost_ret (v:=.tuple #[.agg #[.slice none 0 0,.bool false,.slice none 0 0,.slice none 0 0],.bool false,.int .i64 4]) (by simp [results,Tryz.results68,go_sem,j0,j1,j2,j3]) rfl ?_
       exact hR.out _ _ (Gives.mk (put4z_below (Ext.trans b1 (Ext.trans x4 b5)) (Nat.le_refl _) _ _ _ _) ⟨_,_,_,rfl,(HSR.out _ _ _ _).2 ⟨ownx_nil _,rfl,rfl⟩⟩)
      ·have hfb':fbad (((la,ca),op),q)=false:=by simpa using hfb
       have HFF:=Lib.hid hfb'
       rw [hfb']
       clear hfb hfb' HBAD HFB
       go_upto_region 10 with (fail)
       go_cut [8] (fun s8 wx=>s8=.bool (sb || (op == 2 && decide (0 < sg)))∧Ext w5 wx)
       case first=>
        as_aux_lemma=>
         obtain ⟨k0,k1,k2,k3,k4⟩:=(C4.out.ext b5).c5
         cases sb with
         | true=>
          go_wp2_with fail
          go_meet
          exact ⟨rfl,Ext.refl _⟩
         | false=>
          by_cases h2:op=2
          ·have e2:(op == 2)=true:=beqT h2
           have HV:Hid ((false || ((op == 2) && decide (0 < sg)))=decide (0 < sg)):=by show _=_;rw [e2];simp
           clear h2
           obtain ⟨t0,t1,t2⟩:=(CP4.out.ext b5).c3
           go_wp2_with fail
           refine (HSGN.out _ b5).mono ?_
           rintro e w6 ⟨_,rfl,b6,rfl⟩
           go_wp2_with fail
           go_meet
           exact ⟨by rw [HV.out],b6⟩
          ·have e2:(op == 2)=false:=beqF h2
           have HV:Hid ((false || ((op == 2) && decide (0 < sg)))=false):=by show _=_;rw [e2];rfl
           clear h2
           go_wp2_with fail
           go_meet
           exact ⟨by rw [HV.out],Ext.refl _⟩
       case rest=>
        as_aux_lemma=>
         obtain ⟨rfl,b6⟩:=hcut
         generalize wc=w6 at*
         have b46:=Ext.trans b5 b6
         have HSB:Hid (∀ h:sb=fst' ((L.zip P).take j),(sb || (op == 2 && decide (0 < sg)))=fst' ((L.zip P).take (j+1))):=fun h=>by
          rw [HZS.out,fst_app,fst_one,← h,← HSG.out]
         generalize (sb || (op == 2 && decide (0 < sg)))=sb2 at*
         obtain ⟨l,sa,sk,ss,sbb,sm,sd,sb',sm',sd',s1,s2,s3,s4,s5,s6,s7,s8⟩:=hS4.out.ext b46
         have S1:=Lib.hid s1
         have S2:=Lib.hid s2
         have S3:=Lib.hid s3
         have S4:=Lib.hid s4
         have S5:=Lib.hid s5
         have S7:=Lib.hid (HSB.out s7)
         have S8:=Lib.hid s8
         clear s1 s2 s3 s4 s5 s7 s8 hS4 HSB
         have SZF:Hid (∀ t∈l,Sz 9900 t.2):=FormT.szs S4.out fun x=>by
          rw [S5.out]
          refine (fcf_szK (zip_inK HL.out HP.out j) x).le ?_
          have:((L.zip P).take j).length≤N:=by rw [List.length_take];have:=HN.out;omega
          exact Nat.le_trans (Nat.add_le_add_right (Nat.mul_le_mul_right _ this) 1) hKT
         have SZC:Hid (Sz 9900 (fct ((L.zip P).take j))):=(fct_szK (zip_inK HL.out HP.out j)).le (by
          have:((L.zip P).take j).length≤N:=by rw [List.length_take];have:=HN.out;omega
          exact Nat.le_trans (Nat.add_le_add_right (Nat.mul_le_mul_right _ this) 1) hKT)
         have HSCA:Hid (∀ w',Ext w6 w'→Calls Tryz.prog 52 #[.agg #[.bool ps,.slice pa pl pk,.slice pa' pl' pk'],.agg #[.slice xa la.length xk,.bool xs,.slice xb xm xd,.slice xb' xm' xd']] w' (Gives w' fun v' w'=>∃ l',FormT l'∧(∀ x,cf l' x=q*cf la x)∧(∀ t∈l',Sz 9900 t.2)∧l'.length≤12∧OwnX 0 w' v' l' (q*ca))):=fun w' x=>by
          refine (lscale_any T K K (HPQ4.out.ext (Ext.trans b46 x)) (HAX.out.rd.ext (Ext.trans b4 (Ext.trans b46 x))) HSP.out HSA.out.2.2.1 HSA.out.2.2.2 (by have h:la.length≤12:=HSA.out.1;omega) (by omega) (by omega)).mono ?_
          rintro _ _ ⟨v,e,b,l',h1,h2,h3,h4,o⟩
          exact ⟨v,e,b,l',h1,h2,FormT.szs h1 (fun x=>by rw [h2 x];exact (HSP.out.mul (HSA.out.2.1 x)).le (by omega)),Nat.le_trans h4 HSA.out.1,o.mono (Nat.zero_le _)⟩
         have SZQ:Hid (Sz 9900 (q*ca)):=(HSP.out.mul HSA.out.2.2.2).le (by omega)
         have CP6:=Lib.hid (CP4.out.ext b46)
         have C46:=Lib.hid (C4.out.ext b46)
         have x6:=Ext.trans x4 b46
         obtain ⟨cj,hcj⟩:∃ cj,fct ((L.zip P).take j)=cj:=⟨_,rfl⟩
         rw [hcj] at S3 SZC
         have HCJ:=Lib.hid hcj
         clear hcj
         go_upto_region 11 with (fail)
         have b7:=drew_ext w6
         have XE:=b7
         refine wp_region_noPanic ?_
         refine wp_region_last_drew (st:=9) (S:=fun w'=>(w'.cell? ⟨BO,0,none⟩=some (.slice sa l.length sk)∧w'.cell? ⟨BO,1,none⟩=some (.bool ss)∧w'.cell? ⟨BO,2,none⟩=some (.slice sbb sm sd)∧w'.cell? ⟨BO,3,none⟩=some (.slice sb' sm' sd'))∧(w'.cell? ⟨bP,oP+j*3,none⟩=some (.bool ps)∧w'.cell? ⟨bP,oP+j*3+1,none⟩=some (.slice pa pl pk)∧w'.cell? ⟨bP,oP+j*3+2,none⟩=some (.slice pa' pl' pk'))∧(w'.cell? ⟨wr.heap.size,0,none⟩=some (.slice xa la.length xk)∧w'.cell? ⟨wr.heap.size,1,none⟩=some (.bool xs)∧w'.cell? ⟨wr.heap.size,2,none⟩=some (.slice xb xm xd)∧w'.cell? ⟨wr.heap.size,3,none⟩=some (.slice xb' xm' xd')∧w'.cell? ⟨wr.heap.size,4,none⟩=some (.int .i64 op))) (by kernel_rfl) (⟨(S1.out.ext XE).c4,(CP6.out.ext XE).c3,(C46.out.ext XE).c5⟩) (fun hHeld=>?_)
         refine tkL 0 hHeld ?_
         simp only [jP,jA,jB,jC,jD,jE,jF]
         refine tkL 1 hHeld ?_
         simp only [jP,jA,jB,jC,jD,jE,jF]
         refine tkL 2 hHeld ?_
         simp only [jP,jA,jB,jC,jD,jE,jF]
         refine tkL 3 hHeld ?_
         simp only [jP,jA,jB,jC,jD,jE,jF]
         refine tkL 4 hHeld ?_
         simp only [jP,jA,jB,jC,jD,jE,jF]
         refine tkL 5 hHeld ?_
         simp only [jP,jA,jB,jC,jD,jE,jF]
         refine tkL 6 hHeld ?_
         simp only [jP,jA,jB,jC,jD,jE,jF]
         refine rdL 7 (by kernel_rfl) rfl (fun K hK=>?_)
         go_simp
         go_at_call 52;refine (HSCA.out _ XE).mono ?_;rintro e w8 ⟨v8,rfl,b8,o8⟩;have O8:=Lib.hid o8;clear o8;(first | have XE:=Ext.trans XE b8 | have XE:=Ext.trans (Ext.trans XE (Ext.alloc _ _)) b8);obtain ⟨l2,f2,g2,z2,n2,o2⟩:=O8.out;have F2:=Lib.hid f2;have G2:=Lib.hid g2;have Z2:=Lib.hid z2;have O2:=Lib.hid o2;clear f2 g2 z2 o2 O8
         go_wp2_with fail
         refine hK.out _ _ (⟨(S1.out.ext XE).c4,(CP6.out.ext XE).c3,(C46.out.ext XE).c5⟩) (fun hHeld=>?_)
         clear hK K
         try simp only [jP,jA,jB,jC,jD,jE,jF]
         refine rdL 8 (by kernel_rfl) rfl (fun K hK=>?_)
         go_simp
         go_at_call 97;refine (ladd_any 9900 9900 (S3.out.rd.ext XE) O2.out.rd SZF.out Z2.out SZC.out SZQ.out (by have:=HN.out;omega) (by decide) (by decide)).mono ?_;rintro e w9 ⟨v9,rfl,b9,o9⟩;have O9:=Lib.hid o9;clear o9;(first | have XE:=Ext.trans XE b9 | have XE:=Ext.trans (Ext.trans XE (Ext.alloc _ _)) b9);obtain ⟨l3,f3,g3,z3,n3,o3⟩:=O9.out;have F3:=Lib.hid f3;have G3:=Lib.hid g3;clear f3 g3 z3 O9;obtain ⟨ar,kr,sr,br,mr,dr,br',mr',dr',rfl,-,-,HX⟩:=OwnEx.op o3;clear o3
         go_wp2_with fail
         refine hK.out _ _ (⟨(S1.out.ext XE).c4,(CP6.out.ext XE).c3,(C46.out.ext XE).c5⟩) (fun hHeld=>?_)
         clear hK K
         try simp only [jP,jA,jB,jC,jD,jE,jF]
         obtain ⟨_,_,_,_,j0,j1,j2,j3,i0,i1,i2,i3⟩:=(S2.out.ext XE).c4
         refine wpAnyL_ready (rs:=[9]) (by kernel_rfl) (by simp) ?_
         refine AllReadyL.last (o:=_) rfl (fun K hK=>?_)
         go_simp
         refine hK.out _ _ ?_
         clear hK K
         try simp only [jP,jA,jB,jC,jD,jE,jF]
         refine wpAnyL_done (by kernel_rfl) ?_ _
         refine NoPanic.normal ?_
         go_wp2_with fail
         go_roundw
         case rel=>exact ⟨j+1,sb2,by go_num,rfl,by omega,put4z_below (Ext.trans x6 XE) hBO1 _ _ _ _,Lib.hid ⟨l3,ar,kr,sr,br,mr,dr,br',mr',dr',((S2.out.ext XE).putL_at [_,_,_,_] rfl).1,((S2.out.ext XE).putL_at [_,_,_,_] rfl).2,by
          have h:=(HX.out.mono (Nat.zero_le _)).putT (S2.out.ext XE) (by decide) (by decide) 0 [.slice ar l3.length kr,.bool sr,.slice br mr dr,.slice br' mr' dr']
          rw [HZS.out,fct_app,fct_one,HCJ.out]
          exact h,F3.out,fun x=>by rw [G3.out,G2.out,S5.out,HZS.out,fcf_app,fcf_one],by omega,S7.out,fun z hz=>by
          rw [HZS.out] at hz
          rcases List.mem_append.1 hz with hz | hz
          ·exact S8.out z hz
          ·rw [List.mem_singleton.1 hz];exact HFF.out⟩⟩
         case measure=>simp [intOf] <;> omega
   ·obtain rfl:j=L.length:=by omega
    have hd:decide ((L.length:Int) < (L.length:Int))=false:=decide_eq_false (by omega)
    obtain ⟨l,sa,sk,ss,sbb,sm,sd,sb',sm',sd',s1,s2,s3,s4,s5,s6,s7,s8⟩:=hS.out
    have hz:(L.zip P).take L.length=L.zip P:=List.take_of_length_le (by rw [List.length_zip];omega)
    rw [hz] at s3 s5 s7 s8
    have HSR:Hid (SumZ L P wr (.agg #[.slice sa l.length sk,.bool ss,.slice sbb sm sd,.slice sb' sm' sd']) sb 0):=by
     show SumZ _ _ _ _ _ _
     unfold SumZ
     rw [if_neg (fun h=>h HLEN.out),if_neg (fun h=>by
      obtain ⟨z,hz1,hz2⟩:=List.any_eq_true.1 h
      rw [s8 z hz1] at hz2
      cases hz2)]
     exact ⟨l,s4,s5,by have:=HN.out;omega,s7,rfl,s3⟩
    have S1:=Lib.hid s1
    clear s1 s2 s3 s4 s5 s6 s7 s8 hz
    have RR:=Lib.hid (R1.out.ext hx)
    obtain ⟨k0,k1,k2,k3⟩:=S1.out.c4
    obtain ⟨_,_,_,_,j0,j1,j2,j3,i0,i1,i2,i3⟩:=RR.out.c4
    go_wp2_with fail
    refine bodyPost_ret (v:=.tuple #[.agg #[.slice sa l.length sk,.bool ss,.slice sbb sm sd,.slice sb' sm' sd'],.bool sb,.int .i64 0]) (by simp [results,Tryz.results68,go_sem,j0,j1,j2,j3]) rfl ?_
    exact hR.out _ _ (Gives.mk (put4z_below (Ext.trans b1 hx) (Nat.le_refl _) _ _ _ _) ⟨_,_,_,rfl,HSR.out.putT RR.out [_,_,_,_]⟩)
 ·have hd0:((L.length:Int) != (P.length:Int))=true:=bneT (by omega)
  have HSR:Hid (∀ w' u sb e,SumZ L P w' u sb e↔OwnX 0 w' u [] 0∧sb=false∧e=1):=fun w' u sb e=>by unfold SumZ;rw [if_pos hlen]
  clear hlen
  obtain ⟨_,_,_,_,j0,j1,j2,j3,i0,i1,i2,i3⟩:=R1.out.c4
  go_wp2_with fail
  refine bodyPost_ret (v:=.tuple #[.agg #[.slice none 0 0,.bool false,.slice none 0 0,.slice none 0 0],.bool false,.int .i64 1]) (by simp [results,Tryz.results68,go_sem,j0,j1,j2,j3]) rfl ?_
  exact hR.out _ _ (Gives.mk (put4z_below b1 (Nat.le_refl _) _ _ _ _) ⟨_,_,_,rfl,(HSR.out _ _ _ _).2 ⟨ownx_nil _,rfl,rfl⟩⟩)
end Go.Proofs.YtdooldpgnjmpfaaGreatDoor
