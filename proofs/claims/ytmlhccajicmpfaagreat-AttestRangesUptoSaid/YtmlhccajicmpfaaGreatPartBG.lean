/- A group of texts: PRef17b, PSpanMax, PRef17Max, PWeigh, PRef17Weigh, PWeighP -/
import Derived.Test.YtmlhccajicmpfaaGreatSq
import Derived.Test.YtmlhccajicmpfaaGreatPartBF
import Derived.Test.YtmlhccajicmpfaaGreatPartAC
import Derived.Test.YtmlhccajicmpfaaGreatPartAD
import Derived.Test.YtmlhccajicmpfaaGreatPartBD
import Derived.Test.YtmlhccajicmpfaaGreatPartBC
set_option maxHeartbeats 40000000
set_option maxRecDepth 100000
set_option linter.unusedSimpArgs false
namespace Go.Proofs.YtmlhccajicmpfaaGreat
open Go.RowKit Go.Att

open Go.RowKit Go.Att

def mxs (l:List (Rat × Rat)) (p:Rat × Rat):Rat × Rat:=l.foldl (fun m s=>(mx m.1 s.1,mx m.2 s.2)) p
theorem mxs_take {l:List (Rat × Rat)} {k:Nat} (h:k < l.length) (p:Rat × Rat):mxs (l.take (k+1)) p=(mx (mxs (l.take k) p).1 l[k].1,mx (mxs (l.take k) p).2 l[k].2):=by
 unfold mxs
 rw [← List.take_append_getElem h,List.foldl_append]
 rfl
theorem mx_cases (R:Rat→Prop) {p q:Rat} (hp:R p) (hq:R q):R (mx p q):=by
 unfold mx
 split
 ·exact hp
 exact hq
theorem mxs_all (R:Rat→Prop):∀ (l:List (Rat × Rat)) (p:Rat × Rat),(R p.1∧R p.2)→(∀ s∈l,R s.1∧R s.2)→R (mxs l p).1∧R (mxs l p).2
 | [],_,h,_=>h
 | s :: l,_,h,hl=>mxs_all R l _ ⟨mx_cases R h.1 (hl s (List.mem_cons_self ..)).1,mx_cases R h.2 (hl s (List.mem_cons_self ..)).2⟩ fun x hx=>hl x (List.mem_cons_of_mem _ hx)


open Go.RowKit Go.Att

open Go.RowKit Go.Att

theorem mn_cases (R:Rat→Prop) {p q:Rat} (hp:R p) (hq:R q):R (mn p q):=by
 unfold mn
 split
 ·exact hp
 exact hq
def wfold (l:List (Rat × (Rat × Rat))) (s:Rat × Rat):Rat × Rat:=l.foldl (fun s z=>(s.1+mn (z.1*z.2.1) (z.1*z.2.2),s.2+mx (z.1*z.2.1) (z.1*z.2.2))) s
theorem wfold_take {l:List (Rat × (Rat × Rat))} {k:Nat} (h:k < l.length) (s:Rat × Rat):
  wfold (l.take (k+1)) s=((wfold (l.take k) s).1+mn (l[k].1*l[k].2.1) (l[k].1*l[k].2.2),(wfold (l.take k) s).2+mx (l[k].1*l[k].2.1) (l[k].1*l[k].2.2)):=by
 unfold wfold
 rw [← List.take_append_getElem h,List.foldl_append]
 rfl
theorem wfold_sz {C:Nat}:∀ (l:List (Rat × (Rat × Rat))) (s:Rat × Rat) (L:Nat),(∀ z∈l,Sz 8 z.1∧Sz C z.2.1∧Sz C z.2.2)→Sz L s.1∧Sz L s.2→Sz (L+(C+9)*l.length) (wfold l s).1∧Sz (L+(C+9)*l.length) (wfold l s).2
 | [],_,_,_,h=>h
 | z :: l,s,L,hl,h=>by
  obtain ⟨h1,h2,h3⟩:=hl z (List.mem_cons_self ..)
  have h4:=wfold_sz l (s.1+mn (z.1*z.2.1) (z.1*z.2.2),s.2+mx (z.1*z.2.1) (z.1*z.2.2)) (L+(C+9)) (fun x hx=>hl x (List.mem_cons_of_mem _ hx))
   ⟨(h.1.add (mn_cases (Sz (8+C)) (h1.mul h2) (h1.mul h3))).le oM,(h.2.add (mx_cases (Sz (8+C)) (h1.mul h2) (h1.mul h3))).le oM⟩
  have e:L+(C+9)+(C+9)*l.length=L+(C+9)*(z :: l).length:=by rw [List.length_cons,Nat.mul_add];omega
  rw [e] at h4
  exact h4
theorem OwnD.mk2 {e:TypeId} {B:Nat} {w:World} {x y z x' y' z':Value} {a b:Rat} (h1:OwnQ e B w (.agg #[x,y,z]) a) (h2:OwnQ e B w (.agg #[x',y',z']) b):OwnD e B w (.agg #[x,y,z,x',y',z']) a b:=by
 obtain ⟨n,d,e1,on,od⟩:=h1
 obtain ⟨m,c,e2,om,oc⟩:=h2
 obtain ⟨rfl,rfl,rfl⟩:=agg3_inj e1
 obtain ⟨rfl,rfl,rfl⟩:=agg3_inj e2
 exact ⟨_,_,_,_,rfl,on,od,om,oc⟩
theorem OwnD.putS {e t:TypeId} {B c m:Nat} {w:World} {v:Value} {a b:Rat} (h:OwnD e B w v a b) (hc:Rt w c m t) (hne:e≠t) (i:Nat) (l:List Value):OwnD e B (Att.putL w c i l) v a b:=by
 obtain ⟨n,d,m,c,rfl,h1,h2,h3,h4⟩:=h
 exact ⟨_,_,_,_,rfl,h1.putT hc hne i l,h2.putT hc hne i l,h3.putT hc hne i l,h4.putT hc hne i l⟩

theorem sweigh_any {w:World} {v0 v1 v2:Value} {l:List Rat} {m:List (Rat × Rat)} (hv:RdRow 3 RdQ w v0 l) (hx:RdRow 6 RdDp w v2 m) (heq:l.length=m.length) {q:Rat} (hq:OwnQ 156 0 w v1 q)
  (sl:∀ p∈l,Sz 8 p) {C:Nat} (sm:∀ p∈m,Sz C p.1∧Sz C p.2) (sq:Sz 8 q) (hC:C≤1000) (hCL:8+(C+9)*l.length≤1500):
  Calls Tryz.prog 38 #[v0,v1,v2] w (Gives w fun v' w'=>∃ o,v'=.tuple #[o,.int .i64 0]∧OwnD 156 0 w' o (wfold (l.zip m) (q,q)).1 (wfold (l.zip m) (q,q)).2):=by
 refine via fun R hR=>?_
 have HV:=qH hv
 have HX:=qH hx
 have HC:=qH hC
 have HCL:=qH hCL
 have HZ:Hid (∀ z∈l.zip m,Sz 8 z.1∧Sz C z.2.1∧Sz C z.2.2):=fun z hz=>⟨sl z.1 (List.of_mem_zip hz).1,(sm z.2 (List.of_mem_zip hz).2)⟩
 have HLZ:Hid ((l.zip m).length=l.length):=by show _=_;rw [List.length_zip];omega
 have HSQ:=qH sq
 have HEQ:=qH heq
 obtain ⟨a,c,rfl,hlc,hcm⟩:=hv.shape
 obtain ⟨a',c',rfl,hlc',hcm'⟩:=hx.shape
 unfold maxLen at hcm hcm'
 obtain ⟨s0,a1,n1,c1,a2,n2,c2,rfl,HQ⟩:=hq.op
 have h1:((l.length:Int) != (m.length:Int))=false:=by rw [heq];exact bne_self_eq_false _
 obtain ⟨w1,hw1,b1,k1,-,-,-,-⟩:=bx2 w [.bool s0,.slice a1 n1 c1,.slice a2 n2 c2] [.bool false,.slice none 0 0,.slice none 0 0,.bool false,.slice none 0 0,.slice none 0 0] 38 41
 have HW:=qH hw1
 have R1:Hid (Rt w1 (w.heap.size+1) 6 41):=by
  rw [hw1]
  have:=Rt.new (w.alloc (.cells #[.bool s0,.slice a1 n1 c1,.slice a2 n2 c2] 38)) [.bool false,.slice none 0 0,.slice none 0 0,.bool false,.slice none 0 0,.slice none 0 0] 41
  rw [show (w.alloc (.cells #[.bool s0,.slice a1 n1 c1,.slice a2 n2 c2] 38)).heap.size=w.heap.size+1 by simp] at this
  exact this
 obtain ⟨j0,j1,j2⟩:=k1.c3
 clear hv hx sl sm sq hq hw1 k1 heq hC hCL
 go_enter Tryz.func38,Tryz.ntmps38
 go_upto_region 3 with (fail)
 rw [← HW.out]
 clear HW
 go_wp2_with fail
 clear j0 j1 j2
 go_loopw [22] (fun i wr=>∃ (k:Nat) (x0 x1 x2 x3 x4 x5:Value),i=.int .i64 k∧k≤l.length∧Ext w1 wr∧Hid (Bx wr w1.heap.size [x0,x1,x2,x3,x4,x5])∧Hid (Rt wr w1.heap.size 6 41)∧Hid (OwnD 156 0 wr (.agg #[x0,x1,x2,x3,x4,x5]) (wfold ((l.zip m).take k) (q,q)).1 (wfold ((l.zip m).take k) (q,q)).2)) (fun i _=>l.length - (intOf i).toNat)
 case atStart=>exact ⟨0,_,_,_,_,_,_,rfl,Nat.zero_le _,Ext.alloc _ _,Bx.new w1 [_,_,_,_,_,_] _,Rt.new w1 [_,_,_,_,_,_] _,OwnD.mk2 (HQ.out.ext (eT b1 (Ext.alloc _ _))) (HQ.out.ext (eT b1 (Ext.alloc _ _)))⟩
 case round=>
  obtain ⟨k,x0,x1,x2,x3,x4,x5,rfl,hk,hx,hB,hM,hD⟩:=hrel
  have b2:=hx
  generalize wr=w2 at*
  have hsz:=hx.size
  by_cases hlt:k < l.length
  ·have hltm:k < m.length:=by have:=HEQ.out;omega
   obtain ⟨b,off,cs,rfl,hcl,hT,hc⟩:=HV.out.at dC k hlt
   obtain ⟨b',off',cs',rfl,hcl',hT',hc'⟩:=HX.out.at dC k hltm
   obtain ⟨aa,ac,ab,ad,rfl⟩:=cells_Q hT
   obtain ⟨y0,y1,y2,y3,y4,y5,rfl,hy1,hy2⟩:=cells_D hT'
   have hz:k < (l.zip m).length:=by rw [HLZ.out];exact hlt
   obtain ⟨s1,s2,s3⟩:=HZ.out _ (List.getElem_mem hz)
   obtain ⟨r1,r2⟩:=wfold_sz ((l.zip m).take k) (q,q) 8 (fun z h=>HZ.out z (List.mem_of_mem_take h)) ⟨HSQ.out,HSQ.out⟩
   have hle:8+(C+9)*((l.zip m).take k).length≤1500:=Nat.le_trans (Nat.add_le_add_left (Nat.mul_le_mul_left _ (by rw [List.length_take];have:=HLZ.out;omega)) _) HCL.out
   have HK:=qH (wfold_take hz (q,q))
   have S1:=qH s1
   have S2:=qH s2
   have S3:=qH s3
   have R8:=qH (And.intro (r1.le hle) (r2.le hle))
   have hzk:(l.zip m)[k]=(l[k],m[k]):=List.getElem_zip
   rw [hzk] at HK S1 S2 S3
   generalize wfold ((l.zip m).take k) (q,q)=f at*
   have HP:=qH hT
   have HY:Hid (RdD w (.agg #[y0,y1,y2,y3,y4,y5]) m[k].1 m[k].2):=⟨_,_,_,_,_,_,rfl,hy1,hy2⟩
   generalize l[k]=p at*
   generalize m[k]=y at*
   have b02:=eT b1 b2
   have e0:=Ext.cell b02 (hc 0 dC)
   have e1:=Ext.cell b02 (hc 1 dC)
   have e2:=Ext.cell b02 (hc 2 dC)
   have KY:Hid (Bo w b' (off'+k*6) [y0,y1,y2,y3,y4,y5]):=Bo.of hc'
   simp only [List.getElem?_cons_zero,List.getElem?_cons_succ,Nat.add_zero] at e0 e1 e2
   obtain ⟨w3,hw3,b3,c3,-,-⟩:=bx1 w2 [.bool (decide (p.num < 0)),.slice aa (limbs p.num.natAbs).length ac,.slice ab (dens p.den).length ad] 38
   have HW:=qH hw3
   have C3:=qH c3
   have CM:=qH (hB.out.ext b3)
   have CY:=qH (Bo.ext KY.out (eT b02 b3))
   have RM:=qH (hM.out.ext b3)
   clear hT hc hT' hc' hy1 hy2 s1 s2 s3 r1 r2 hw3 c3 hB hM hcl hcl' hzk KY
   go_upto_region 7 with (fail)
   rw [← HW.out]
   clear HW e0 e1 e2
   generalize Value.bool (decide (p.num < 0))=z0 at*
   generalize Value.slice aa (limbs p.num.natAbs).length ac=z1 at*
   generalize Value.slice ab (dens p.den).length ad=z2 at*
   have b4:=drew_ext w3
   have XE:=b4
   refine wp_region_noPanic ?_
   refine wp_region_last_drew (st:=8) (S:=fun w'=>(w'.cell? ⟨w1.heap.size,0,none⟩=some (x0)∧w'.cell? ⟨w1.heap.size,1,none⟩=some (x1)∧w'.cell? ⟨w1.heap.size,2,none⟩=some (x2)∧w'.cell? ⟨w1.heap.size,3,none⟩=some (x3)∧w'.cell? ⟨w1.heap.size,4,none⟩=some (x4)∧w'.cell? ⟨w1.heap.size,5,none⟩=some (x5))∧(w'.cell? ⟨w2.heap.size,0,none⟩=some (z0)∧w'.cell? ⟨w2.heap.size,1,none⟩=some (z1)∧w'.cell? ⟨w2.heap.size,2,none⟩=some (z2))∧(w'.cell? ⟨b',off'+k*6,none⟩=some (y0)∧w'.cell? ⟨b',off'+k*6+1,none⟩=some (y1)∧w'.cell? ⟨b',off'+k*6+2,none⟩=some (y2)∧w'.cell? ⟨b',off'+k*6+3,none⟩=some (y3)∧w'.cell? ⟨b',off'+k*6+4,none⟩=some (y4)∧w'.cell? ⟨b',off'+k*6+5,none⟩=some (y5))) kR (⟨(CM.out.ext XE).c6,(C3.out.ext XE).c3,(CY.out.ext XE).c6⟩) (fun hHeld=>?_)
   refine tkL 0 hHeld ?_
   simp only [jP,jJ]
   refine tkL 1 hHeld ?_
   simp only [jP,jJ]
   refine tkL 2 hHeld ?_
   simp only [jP,jJ]
   refine tkL 3 hHeld ?_
   simp only [jP,jJ]
   refine tkL 4 hHeld ?_
   simp only [jP,jJ]
   refine tkL 5 hHeld ?_
   simp only [jP,jJ]
   refine rdL 6 kR rfl (fun K hK=>?_)
   go_simp
   go_at_call 63;refine (sscale_any (HP.out.ext (eT b02 (eT b3 XE))) (HY.out.ext (eT b02 (eT b3 XE))) (S1.out.le dC) (S2.out.le (by have:=HC.out;omega)) (S3.out.le (by have:=HC.out;omega))).mono ?_;rintro e w5 ⟨v5,rfl,b5,o5⟩;have O5:=qH o5;clear o5;(first | have XE:=eT XE b5 | have XE:=eT (eT XE (Ext.alloc _ _)) b5)
   go_wp2_with fail
   refine hK.out _ _ (⟨(CM.out.ext XE).c6,(C3.out.ext XE).c3,(CY.out.ext XE).c6⟩) (fun hHeld=>?_)
   clear hK K
   try simp only [jP,jJ]
   refine rdL 7 kR rfl (fun K hK=>?_)
   go_simp
   go_at_call 62;refine (sadd_any (hD.out.rd.ext (eT b3 XE)) (O5.out.rd) (R8.out.1.le dC) (R8.out.2.le dC) ((mn_cases (Sz (8+C)) (S1.out.mul S2.out) (S1.out.mul S3.out)).le (by have:=HC.out;omega)) ((mx_cases (Sz (8+C)) (S1.out.mul S2.out) (S1.out.mul S3.out)).le (by have:=HC.out;omega))).mono ?_;rintro e w6 ⟨v6,rfl,b6,o6⟩;have O6:=qH o6;clear o6;(first | have XE:=eT XE b6 | have XE:=eT (eT XE (Ext.alloc _ _)) b6);obtain ⟨_,_,_,_,_,_,_,_,_,_,_,_,_,_,rfl,P6⟩:=O6.out.op
   go_wp2_with fail
   refine hK.out _ _ (⟨(CM.out.ext XE).c6,(C3.out.ext XE).c3,(CY.out.ext XE).c6⟩) (fun hHeld=>?_)
   clear hK K
   try simp only [jP,jJ]
   obtain ⟨_,_,_,_,_,_,j0,j1,j2,j3,j4,j5,g0,g1,g2,g3,g4,g5⟩:=(RM.out.ext XE).rm.c6
   refine wpAnyL_ready (rs:=[8]) kR (by simp) ?_
   refine AllReadyL.last (o:=_) rfl (fun K hK=>?_)
   go_simp
   refine hK.out _ _ ?_
   clear hK K
   try simp only [jP,jJ]
   refine wpAnyL_done kR ?_ _
   refine NoPanic.normal ?_
   go_wp2_with fail
   go_roundw
   case rel=>
    have X:=eT b3 XE
    exact ⟨k+1,_,_,_,_,_,_,by go_num,by omega,put6_below (eT b2 X) (Nat.le_refl _) _ _ _ _ _ _,((RM.out.ext XE).putL_at [_,_,_,_,_,_] rfl).1,((RM.out.ext XE).putL_at [_,_,_,_,_,_] rfl).2,by rw [HK.out];exact (OwnD.putS (P6.out.mono (Nat.zero_le _)) (RM.out.ext XE) dC 0 [_,_,_,_,_,_])⟩
   simp [intOf]<;>omega
  obtain rfl:k=l.length:=by omega
  have HE:Hid (wfold ((l.zip m).take l.length) (q,q)=wfold (l.zip m) (q,q)):=by show _=_;rw [List.take_of_length_le (by rw [HLZ.out];exact Nat.le_refl _)]
  obtain ⟨k0,k1,k2,k3,k4,k5⟩:=hB.out.c6
  obtain ⟨s0,a1,n1,c1,a2,n2,c2,s3,a4,n4,c4,a5,n5,c5,hsh,-⟩:=RdD.op hD.out.rd
  simp only [Value.agg.injEq,Array.mk.injEq,List.cons.injEq,and_true] at hsh
  obtain ⟨rfl,rfl,rfl,rfl,rfl,rfl⟩:=hsh
  obtain ⟨_,_,_,_,_,_,j0,j1,j2,j3,j4,j5,g0,g1,g2,g3,g4,g5⟩:=(R1.out.ext hx).rm.c6
  go_wp2_with fail
  refine bodyPost_ret (v:=.tuple #[.agg #[.bool s0,.slice a1 n1 c1,.slice a2 n2 c2,.bool s3,.slice a4 n4 c4,.slice a5 n5 c5],.int .i64 0]) (by simp [results,Tryz.results38,go_sem,j0,j1,j2,j3,j4,j5]) rfl ?_
  rw [← HE.out] at hR
  refine hR.out _ _ (Gives.mk (put6_below (eT b1 b2) (Nat.le_succ _) _ _ _ _ _ _) ⟨_,rfl,?_⟩)
  exact OwnD.putS hD.out (R1.out.ext hx) dC 0 [_,_,_,_,_,_]
open Go.RowKit Go.Att

theorem OwnE.putS {e t:TypeId} {B c m:Nat} {w:World} {v:Value} {a b:Rat} (h:OwnE e B w v a b) (hc:Rt w c m t) (hne:e≠t) (i:Nat) (l:List Value):OwnE e B (Att.putL w c i l) v a b:=by
 obtain ⟨n,d,m,c,rfl,h1,h2,h3,h4⟩:=h
 exact ⟨_,_,_,_,rfl,h1.putT hc hne i l,h2.putT hc hne i l,h3.putT hc hne i l,h4.putT hc hne i l⟩
open Go.RowKit Go.Att

def Bq (w:World) (b:Nat) (q:Rat):Prop:=∃ x y z,Bx w b [x,y,z]∧Rt w b 3 38∧OwnQ 156 0 w (.agg #[x,y,z]) q
theorem Bq.ext {w w':World} {b:Nat} {q:Rat} (h:Bq w b q) (x:Ext w w'):Bq w' b q:=by
 obtain ⟨_,_,_,h1,h2,h3⟩:=h
 exact ⟨_,_,_,h1.ext x,h2.ext x,h3.ext x⟩
theorem Bq.set {w:World} {c:Nat} {q:Rat} (hc:Rt w c 3 38) {x y z:Value} (h:OwnQ 156 0 w (.agg #[x,y,z]) q):Bq (put3 w c x y z) c q:=
 ⟨_,_,_,(hc.putL_at [x,y,z] rfl).1,(hc.putL_at [x,y,z] rfl).2,h.putT hc dC 0 [x,y,z]⟩
theorem Bq.new {w:World} {x y z:Value} {q:Rat} (h:OwnQ 156 0 w (.agg #[x,y,z]) q):Bq (w.alloc (.cells #[x,y,z] 38)) w.heap.size q:=
 ⟨_,_,_,Bx.new w [x,y,z] _,Rt.new w [x,y,z] _,h.ext (Ext.alloc _ _)⟩
theorem Bq.op {w:World} {b:Nat} {q:Rat} (h:Bq w b q):∃ s a l c a' l' c',Hid (Bx w b [.bool s,.slice a l c,.slice a' l' c'])∧Hid (Rt w b 3 38)∧Hid (OwnQ 156 0 w (.agg #[.bool s,.slice a l c,.slice a' l' c']) q):=by
 obtain ⟨x,y,z,h1,h2,h3⟩:=h
 obtain ⟨_,_,_,_,_,_,_,rfl,rfl,rfl⟩:=RdQ.op3 h3.rd
 exact ⟨_,_,_,_,_,_,_,h1,h2,h3⟩

theorem sign_le {a b:Rat}:(a - b).num.sign≤0↔a≤b:=by
 have h1:0≤(b - a).num↔0≤b - a:=Rat.num_nonneg
 rw [Rat.le_iff_sub_nonneg a b,← h1,show (b - a).num = -(a - b).num by rw [← Rat.neg_num,Rat.neg_sub],Int.sign_nonpos_iff]
 omega
theorem mn_le {x y:Rat} (h:x≤y):mn x y=x:=if_pos (sign_le.2 h)
theorem mn_ge {x y:Rat} (h:y≤x):mn x y=y:=by
 unfold mn
 split
 ·next h1=>exact Rat.le_antisymm (sign_le.1 h1) h
 rfl
theorem nsign {x y:Rat}:0≤(x - y).num.sign↔y≤x:=by
 rw [← sign_le (a:=y) (b:=x),show (y - x).num.sign = -(x - y).num.sign by rw [← Int.sign_neg,← Rat.neg_num,Rat.neg_sub]]
 omega
theorem mx_ge {x y:Rat} (h:y≤x):mx x y=x:=if_pos (nsign.2 h)
theorem mx_le {x y:Rat} (h:x≤y):mx x y=y:=by
 unfold mx
 split
 ·next h1=>exact Rat.le_antisymm h (nsign.1 h1)
 rfl
theorem sgn_neg {p:Rat}:p.num.sign < 0↔p < 0:=by
 rw [Int.sign_neg_iff,← Rat.not_le,← Rat.num_nonneg]
 omega
theorem mul_nonpos {p a b:Rat} (hp:p≤0) (h:a≤b):p*b≤p*a:=by
 have h1:=Rat.mul_le_mul_of_nonneg_left h (show (0:Rat) ≤ -p by have:=Rat.neg_le_neg hp;rwa [show (-0:Rat)=0 from rfl] at this)
 rw [Rat.neg_mul,Rat.neg_mul] at h1
 exact Rat.neg_le_neg_iff.1 h1
theorem ends_hold {p a b v:Rat} (h1:a≤v) (h2:v≤b):mn (p*a) (p*b)≤p*v∧p*v≤mx (p*a) (p*b):=by
 have h:=Rat.le_trans h1 h2
 by_cases hp:p.num.sign < 0
 ·have h3:=Rat.le_of_lt (sgn_neg.1 hp)
  rw [mn_ge (mul_nonpos h3 h),mx_ge (mul_nonpos h3 h)]
  exact ⟨mul_nonpos h3 h2,mul_nonpos h3 h1⟩
 have h3:0≤p:=Rat.not_lt.1 fun h=>hp (sgn_neg.2 h)
 rw [mn_le (Rat.mul_le_mul_of_nonneg_left h h3),mx_le (Rat.mul_le_mul_of_nonneg_left h h3)]
 exact ⟨Rat.mul_le_mul_of_nonneg_left h1 h3,Rat.mul_le_mul_of_nonneg_left h2 h3⟩
theorem add_le_both {a b c d:Rat} (h1:a≤b) (h2:c≤d):a+c≤b+d:=Rat.le_trans (Rat.add_le_add_right.2 h1) (Rat.add_le_add_left.2 h2)
end Go.Proofs.YtmlhccajicmpfaaGreat
