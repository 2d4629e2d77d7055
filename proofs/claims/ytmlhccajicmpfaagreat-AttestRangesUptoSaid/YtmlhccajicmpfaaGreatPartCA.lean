/- A group of texts: PPut, MapZ, Tbl -/
import Derived.Test.YtmlhccajicmpfaaGreatSq
import Derived.Test.YtmlhccajicmpfaaGreatPartBJ
import Derived.Test.YtmlhccajicmpfaaGreatPartBI
import Derived.Test.YtmlhccajicmpfaaGreatPartBB
import Derived.Test.YtmlhccajicmpfaaGreatPartBC
import Derived.Test.YtmlhccajicmpfaaGreatPartAC
import Derived.Maps.OwnOps
import Derived.DeepKeys4
import Derived.Test.YtmlhccajicmpfaaGreatNet
set_option maxHeartbeats 40000000
set_option maxRecDepth 100000
set_option linter.unusedSimpArgs false
namespace Go.Att
open Go.RowKit
theorem szL_len:∀ l:List Fm,(l.length:Int)≤szL l
 | []=>by unfold szL;simp
 | f :: l=>by
  unfold szL
  have:=szF_pos f
  have:=szL_len l
  simp only [List.length_cons]
  omega
theorem szL_mem:∀ {l:List Fm} {f:Fm},f∈l→szF f≤szL l
 | g :: l,f,h=>by
  unfold szL
  have h1:=szL_pos l
  have h2:=szF_pos g
  rcases List.mem_cons.1 h with rfl | h
  ·omega
  have:=szL_mem h;omega
theorem frmL_mem:∀ {l:List Fm} {n:Int} {f:Fm},frmL l n=true→f∈l→frmF f n=true
 | g :: l,n,f,h,hm=>by
  unfold frmL at h
  simp only [Bool.and_eq_true] at h
  rcases List.mem_cons.1 hm with rfl | hm
  ·exact h.1
  exact frmL_mem h.2 hm
theorem RdRow.partS {S:Nat→Prop} {n:Nat} {w:World} {a:Option Addr} {m c:Nat} {l:List Fm} (h:RdRow 3 (RdFs S n) w (.slice a m c) l) (i:Nat) (hi:i < l.length):
  ∃ b off x k,a=some ⟨b,off,none⟩∧Bo w b (off+i*3) [.int .i64 l[i].k,.int .i64 l[i].a,.slice x l[i].sub.length k]∧RdFs S n w (.agg #[.int .i64 l[i].k,.int .i64 l[i].a,.slice x l[i].sub.length k]) l[i]:=by
 obtain ⟨b1,o1,cs,he,hl,hT,hc⟩:=h.at dC i hi
 obtain ⟨x,k,hv⟩:=hT.shape
 have hcs:cs=[.int .i64 l[i].k,.int .i64 l[i].a,.slice x l[i].sub.length k]:=by simpa using hv
 subst hcs
 exact ⟨b1,o1,x,k,he,Bo.of hc,hT⟩
theorem sbtF_lit {f:Fm} {fs:List Fm} (h:f.k=1) (h0:0≤f.a) (h1:f.a < fs.length):sbtF f fs=fs[f.a.toNat]'oM:=by
 cases f with
 | mk k a l=>
  unfold sbtF
  have h:k=1:=h
  have h0:0≤a:=h0
  have h1:a < fs.length:=h1
  rw [if_pos h,List.getElem?_eq_getElem (by omega:a.toNat < fs.length)]
  rfl
theorem sbtF_no {f:Fm} {fs:List Fm} (h:f.k≠1):sbtF f fs=.mk f.k 0 (f.sub.map fun g=>sbtF g fs):=by
 cases f with
 | mk k a l=>
  conv=>lhs;unfold sbtF
  have h:¬ k=1:=h
  rw [if_neg h,sbtL_eq]
  rfl
theorem frmF_sub {f:Fm} {n:Int} (h:frmF f n=true) (hk:f.k≠1):frmL f.sub n=true:=by
 cases f with
 | mk k a l=>
  unfold frmF at h
  have hk:¬ k=1:=hk
  rw [if_neg hk] at h
  show frmL l n=true
  split at h
  ·rw [List.isEmpty_iff] at h
   subst h
   unfold frmL
   rfl
  split at h
  ·simp only [Bool.and_eq_true] at h;exact h.2
  split at h
  ·exact h
  cases h
theorem frmF_one {f:Fm} {n:Int} (h:frmF f n=true) (hk:f.k=1):0≤f.a∧f.a < n:=by
 cases f with
 | mk k a l=>exact ⟨(frmF_lit h hk).1,(frmF_lit h hk).2.1⟩
end Go.Att
namespace Go.Proofs.YtmlhccajicmpfaaGreat
open Go.RowKit Go.Att

theorem etFp:ElemT Tryz.prog 27 29 (.agg #[.int .i64 0,.int .i64 0,.slice none 0 0]) 3 40:=ElemT.mk' Tryz.underlying27 kR rfl dC
theorem put_go (m B0:Nat) (Q:Nat→Prop) (hQ:∀ g,Q g→g < B0) (fs:List Fm):∀ (n:Nat) {w:World} {v vs:Value} {f:Fm},RdFn n w v f→RdRow 3 (RdFs Q m) w vs fs→frmF f fs.length=true→szF f≤20000→B0≤w.heap.size→
  Calls Tryz.prog 71 #[v,vs] w (Gives w fun v' w'=>RdFs (fun g=>Q g∨w.heap.size≤g) (n+m) w' v' (sbtF f fs))
 | 0,_,_,_,_,h,_,_,_,_=>h.elim
 | n+1,w,v,vs,f,hv,hvs,hfr,hsz,hB0=>by
  refine via fun R hR=>?_
  obtain ⟨x,c,rfl,hr⟩:=hv.op
  obtain ⟨ys,cs,rfl,-,-⟩:=hvs.shape
  have HV:=qH hr
  have HVS:=qH hvs
  have HFR:=qH hfr
  have HSZ:=qH hsz
  have HB:=qH hB0
  have HQ:=qH hQ
  have HIH:Hid (∀ {w:World} {v vs:Value} {f:Fm},RdFn n w v f→RdRow 3 (RdFs Q m) w vs fs→frmF f fs.length=true→szF f≤20000→B0≤w.heap.size→
   Calls Tryz.prog 71 #[v,vs] w (Gives w fun v' w'=>RdFs (fun g=>Q g∨w.heap.size≤g) (n+m) w' v' (sbtF f fs))):=@put_go m B0 Q hQ fs n
  obtain ⟨w1,hw1,b1,c1,-,-,-,hs1⟩:=bx2 w [.int .i64 f.k,.int .i64 f.a,.slice x f.sub.length c] [.int .i64 0,.int .i64 0,.slice none 0 0] 29 29
  have HW:=qH hw1
  have C1:=qH c1
  have R1:Hid (Rt w1 (w.heap.size+1) 3 29):=by
   show Rt _ _ _ _
   rw [hw1]
   have:=Rt.new (w.alloc (.cells #[.int .i64 f.k,.int .i64 f.a,.slice x f.sub.length c] 29)) [.int .i64 0,.int .i64 0,.slice none 0 0] 29
   simpa using this
  have SZ1:=qH hs1
  obtain ⟨j0,j1,j2⟩:=c1.c3
  have hlc:Hid (f.sub.length≤maxLen):=by obtain ⟨_,_,he,h1,h2⟩:=HV.out.shape;exact qH (by simp only [Value.slice.injEq] at he;omega)
  have HLE:Hid (f.sub.length≤20000):=by
   have h1:=HSZ.out
   rw [szF_eq,List.drop_zero] at h1
   have h2:=szL_len f.sub
   exact qH oM
  have HMS:Hid (∀ g∈f.sub,szF g≤20000):=fun g hg=>by
   have h1:=HSZ.out
   rw [szF_eq,List.drop_zero] at h1
   have h2:=szL_mem hg
   omega
  clear hw1 c1 hv hr hvs hfr hsz hB0 hs1
  go_enter Tryz.func71,Tryz.ntmps71
  go_upto_region 1 with (fail)
  rw [← HW.out]
  clear HW
  by_cases hk:f.k=1
  ·obtain ⟨ha0,ha1⟩:=frmF_one HFR.out hk
   have HRES:=qH (sbtF_lit hk ha0 ha1)
   have hK2:(0:Int)≤f.a∧f.a < (fs.length:Int):=⟨ha0,ha1⟩
   obtain ⟨bL,oL,y,mm,hae,hbo,hT⟩:=(HVS.out.ext RdFs.ext b1).partS f.a.toNat oM
   subst hae
   obtain ⟨g,hg⟩:∃ g,fs[f.a.toNat]'oM=g:=⟨_,rfl⟩
   rw [hg] at hbo hT HRES
   clear hg
   rw [HRES.out] at hR
   obtain ⟨u0,u1,u2⟩:=hbo.c3
   obtain ⟨_,_,_,r0,r1,r2,g0,g1,g2⟩:=R1.out.rm.c3
   have HT:=qH hT
   clear hbo hT HRES HFR HSZ HLE HMS ha0 ha1 HIH
   rw [hk] at j0
   generalize f.k=fk at*
   generalize f.a=fa at*
   subst hk
   go_wp2_with fail
   refine bodyPost_ret (v:=.agg #[.int .i64 g.k,.int .i64 g.a,.slice y g.sub.length mm]) (by simp [results,Tryz.results71,go_sem,r0,r1,r2]) rfl ?_
   exact hR.out _ _ (Gives.mk (putL_below oM [_,_,_] 0 b1) ((RdFs.to (fun g hg _=>.inl hg) (RdFs.keep (w':=Att.putL w1 (w.heap.size+1) 0 [_,_,_]) (fun g (hg:Q g) _=>putL_block _ (by have:=HQ.out g hg;have:=HB.out;omega) _ _ _) HT.out)).le oM))
  have HK:(f.k == 1)=false:=beq_eq_false_iff_ne.2 hk
  have HRES:=qH (sbtF_no (fs:=fs) hk)
  have HFS:=qH (frmF_sub HFR.out hk)
  rw [HRES.out] at hR
  clear hk HRES HFR HSZ
  generalize f.sub=l at*
  generalize f.k=fk at*
  generalize f.a=fa at*
  go_upto_region 3 with (fail)
  go_cut [5] (fun s5 wx=>∃ E:Nat,s5=.pointer (some ⟨E,0,none⟩)∧w1.heap.size≤E∧Ext w1 wx∧Hid (Bx wx E [.int .i64 fk,.int .i64 0,.slice none 0 0])∧Hid (Rt wx E 3 29))
  case first=>
   go_wp2_with fail
   go_meet
   exact ⟨_,rfl,Nat.le_refl _,Ext.alloc _ _,Bx.new w1 [_,_,_] _,Rt.new w1 [_,_,_] _⟩
  case rest=>
   obtain ⟨E,rfl,hE1,hX2,hC2,hR2⟩:=hcut
   obtain ⟨w2,hw2⟩:∃ w0:World,w0=wc:=⟨_,rfl⟩
   subst hw2
   have HE1:=qH hE1
   clear hE1 j0 j1 j2 HK
   obtain ⟨j0,j1,j2⟩:=(C1.out.ext hX2).c3
   go_wp2_with fail
   go_loopw [22] (fun t wr=>∃ (j:Nat) (ao:Option Addr) (ko:Nat),t=.int .i64 j∧j≤l.length∧Hid (Ext w1 wr)∧Hid (Bx wr E [.int .i64 fk,.int .i64 0,.slice ao j ko])∧Hid (Rt wr E 3 29)∧Hid (GrF (fun g=>Q g∨E < g) (n+m) 29 (E+1) wr (.slice ao j ko) ((l.take j).map fun g=>sbtF g fs))) (fun t _=>l.length - (intOf t).toNat)
   case atStart=>exact ⟨0,none,0,rfl,Nat.zero_le _,hX2,hC2,hR2,GrF.nil _ _ _ _ _⟩
   case round=>
    clear hC2 hR2 j0 j1 j2 hX2
    obtain ⟨j,ao,ko,rfl,hj,hX,hC,hRt,hG⟩:=hrel
    obtain ⟨wo,hwo⟩:∃ w0:World,w0=wr:=⟨_,rfl⟩
    subst hwo
    by_cases hjl:j < l.length
    ·have hd:=dT ((j:Int) < (l.length:Int))
     have HJ2:(0:Int)≤(j:Int)∧(j:Int) < (l.length:Int):=⟨by omega,by omega⟩
     have HJ1:IntKind.i64.wrap ((j:Int)+1)=((j+1:Nat):Int):=by have:=HLE.out;rw [IntKind.wrap_i64];omega
     obtain ⟨bL,oL,y,mm,hae,hbo,hT⟩:=(RdRow.ext HV.out (fun h x=>RdFn.ext h x) (eT b1 hX.out)).part j hjl
     subst hae
     have HSTm:Hid ((l.take (j+1)).map (fun g=>sbtF g fs)=(l.take j).map (fun g=>sbtF g fs) ++ [sbtF l[j] fs]):=by
      show _=_
      rw [← List.take_append_getElem hjl,List.map_append]
      rfl
     have HGF:=qH (frmL_mem HFS.out (List.getElem_mem hjl))
     have HGS:=qH (HMS.out _ (List.getElem_mem hjl))
     obtain ⟨g,hg⟩:∃ g,l[j]=g:=⟨_,rfl⟩
     rw [hg] at hbo hT HSTm HGF HGS
     clear hg
     obtain ⟨u0,u1,u2⟩:=hbo.c3
     obtain ⟨w6,hw6,b6,c6,-,hs6⟩:=bx1 wo [.int .i64 g.k,.int .i64 g.a,.slice y g.sub.length mm] 29
     have HW:=qH hw6
     have C6:=qH c6
     have HT6:=RdFn.ext hT b6
     have HX6:=eT (eT b1 hX.out) b6
     have HC:Hid (∀ w',Ext w6 w'→Calls Tryz.prog 71 #[.agg #[.int .i64 g.k,.int .i64 g.a,.slice y g.sub.length mm],.slice ys fs.length cs] w' (Gives w' fun v' w''=>RdFs (fun g=>Q g∨w'.heap.size≤g) (n+m) w'' v' (sbtF g fs))):=fun w' x=>HIH.out (RdFn.ext HT6 x) (HVS.out.ext RdFs.ext (eT HX6 x)) HGF.out HGS.out (by have:=HB.out;have:=Below.size (eT HX6 x);omega)
     have hEo:E < wo.heap.size:=hRt.out.lt
     have HROW:Hid (∀ g,(Value.slice ao j ko).ownBlock=some g→E+1≤g∧g < wo.heap.size):=GrF.lt hG.out
     have HWE:Hid (E < wo.heap.size∧wo.heap.size < w6.heap.size):=⟨hEo,by omega⟩
     have HNE:Hid ((Value.slice ao j ko).ownBlock≠some E):=fun he=>by have:=(HROW.out E he).1;omega
     have HN6:Hid ((Value.slice ao j ko).ownBlock≠some wo.heap.size):=fun he=>by have:=(HROW.out _ he).2;omega
     have HTO:Hid (∀ g,(Q g∨w6.heap.size≤g)→((Q g∨E < g)∧(Value.slice ao j ko).ownBlock≠some g)):=fun g hg=>by
      have h1:=HE1.out
      have h2:=HB.out
      have h3:=Below.size b1
      have h4:=HWE.out
      refine ⟨hg.elim .inl fun h=>.inr oM,fun he=>?_⟩
      have h5:=HROW.out g he
      rcases hg with hg | hg
      ·have:=HQ.out g hg
       omega
      omega
     have HC6:=qH (hC.out.ext b6)
     have HR6:=qH (hRt.out.ext b6)
     have HG6:=qH (hG.out.ext b6)
     have HX16:=qH (eT hX.out b6)
     clear hw6 c6 hs6 hbo hT HT6 HX6 hEo HROW
     go_upto_region 7 with (fail)
     rw [← HW.out]
     clear HW u0 u1 u2 hd
     obtain ⟨gf,hgf⟩:∃ gf,sbtF g fs=gf:=⟨_,rfl⟩
     rw [hgf] at HC HSTm
     clear hgf HGF HGS
     obtain ⟨lo,hlo⟩:∃ lo,(l.take j).map (fun g=>sbtF g fs)=lo:=⟨_,rfl⟩
     have HLL:Hid (lo.length=j):=by show _=_;rw [← hlo,List.length_map,List.length_take];omega
     rw [hlo] at HSTm HG6
     obtain ⟨lo2,hlo2⟩:∃ lo2,(l.take (j+1)).map (fun g=>sbtF g fs)=lo2:=⟨_,rfl⟩
     have HL2:Hid (lo2.length=j+1):=by show _=_;rw [← hlo2,List.length_map,List.length_take];omega
     have HOE:=qH hlo2
     rw [hlo2] at HSTm
     clear hlo hlo2 hG
     generalize g.k=gk at*
     generalize g.a=ga at*
     generalize g.sub.length=gn at*
     have HJS:Hid (j≤20000):=by have:=HLE.out;exact qH oM
     have b7:=drew_ext w6
     have XE:=b7
     refine wp_region_noPanic ?_
     refine wp_region_cut_drew (st:=8) (S:=fun w'=>(w'.cell? ⟨E,0,none⟩=some (.int .i64 fk)∧w'.cell? ⟨E,1,none⟩=some (.int .i64 0)∧w'.cell? ⟨E,2,none⟩=some (.slice ao j ko))∧(w'.cell? ⟨wo.heap.size,0,none⟩=some (.int .i64 gk)∧w'.cell? ⟨wo.heap.size,1,none⟩=some (.int .i64 ga)∧w'.cell? ⟨wo.heap.size,2,none⟩=some (.slice y gn mm))) kR (⟨(HC6.out.ext XE).c3,(C6.out.ext XE).c3⟩) (fun hHeld=>?_)
     refine tkT 0 [8] hHeld ?_
     simp only [jP,jJ]
     refine tkT 1 [8] hHeld ?_
     simp only [jP,jJ]
     refine tkT 2 [8] hHeld ?_
     simp only [jP,jJ]
     refine tkT 3 [8] hHeld ?_
     simp only [jP,jJ]
     refine rdT 4 kR rfl rF (fun K hK=>?_)
     go_simp
     go_at_call 71;refine (HC.out _ XE).mono ?_;rintro e w8 ⟨v8,rfl,b8,o8⟩;have O8:=qH o8;clear o8;(first | have XE:=eT XE b8 | have XE:=eT (eT XE (Ext.alloc _ _)) b8);have XE7:=XE;obtain ⟨a8,k8,rfl⟩:=O8.out.shape;have HEL:Hid (RdFs (fun g=>(Q g∨E < g)∧(Value.slice ao j ko).ownBlock≠some g) (n+m) w8 (.agg #[.int .i64 gf.k,.int .i64 gf.a,.slice a8 gf.sub.length k8]) gf):=RdFs.to (fun g hg _=>HTO.out g hg) O8.out
     go_wp2_with fail
     refine hK.out _ _ (⟨(HC6.out.ext XE).c3,(C6.out.ext XE).c3⟩) (fun hHeld=>?_)
     clear hK K
     try simp only [jP,jJ]
     refine rdT 5 kR rfl rF (fun K hK=>?_)
     refine if_wantedL rfl ?_
     refine build1K etFp rF (T:=RdFs (fun g=>(Q g∨E < g)∧(Value.slice ao j ko).ownBlock≠some g) (n+m)) (fun h x=>RdFs.ext h x) rF [.int .i64 gf.k,.int .i64 gf.a,.slice a8 gf.sub.length k8] (fill_f1 ..) rfl dC (y:=gf) HEL.out ?_
     intro g20 w20 x20 _ l20
     have XE:=eT XE x20
     have L20:=qH l20.rd
     clear l20
     refine hK.out _ _ ⟨(HC6.out.ext XE).c3,(C6.out.ext XE).c3⟩ (fun hHeld=>?_)
     clear hK K
     try simp only [jP,jJ]
     refine rdT 6 kR rfl rF (fun K hK=>?_)
     refine if_wantedL rfl ?_
     refine append_GrF etFp _ _ rF rF (HG6.out.ext XE) rF L20.out (by have:=HLL.out;have:=HJS.out;omega) (by have:=HLL.out;have:=HJS.out;unfold maxLen;omega) (by have:=HWE.out;have:=Below.size XE;omega) ?_
     intro v9 w9 o9 b9 g9 _
     have RO9:=qH ((HR6.out.ext XE).grow g9 HNE.out)
     have DO9:=qH ((HC6.out.ext XE).grow g9 HNE.out)
     have DC9:=qH ((C6.out.ext XE).grow g9 HN6.out)
     have XW:=qH (Below.trans (eT HX16.out XE) (Below.mono b9 (Nat.le_succ_of_le HE1.out)))
     have O9:Hid (GrF (fun g=>Q g∨E < g) (n+m) 29 (E+1) w9 v9 lo2):=(by rw [HSTm.out];exact o9)
     obtain ⟨a11,k11,he9,o10⟩:=O9.out.shape
     rw [HL2.out] at he9 o10
     subst he9
     refine hK.out _ _ ⟨DO9.out.c3,DC9.out.c3⟩ (fun hHeld=>?_)
     clear hK K o9
     try simp only [jP,jJ]
     refine tkT 7 [8] hHeld ?_
     simp only [jP,jJ]
     obtain ⟨_,_,_,n0,n1,n2,i0,i1,i2⟩:=RO9.out.rm.c3
     refine wpAnyT_ready (rs:=[8]) kR (by simp) ?_
     refine AllReadyT.cut (o:=_) rfl (fun K hK=>?_)
     go_simp
     refine hK.out _ _ ?_
     clear hK K
     try simp only [jP,jJ]
     refine wpAny_done kR ?_ _
     refine NoPanic.normal ?_
     go_wp2_with fail
     have HKE:∀ u,GrF (fun g=>Q g∨E < g) (n+m) 29 (E+1) (Att.putL w9 E 2 [u]) (.slice a11 (j+1) k11) lo2:=fun u=>O9.out.keep (fun g hg hlt=>by
      have hne:g≠E:=by
       rcases hg with (hg | hg) | hg
       ·have:=HQ.out g hg
        have:=HE1.out
        have:=HB.out
        have:=Below.size b1
        omega
       ·omega
       have:=(GrF.lt O9.out g hg).1
       omega
      exact putL_block E hne _ _ _)
     go_roundw
     case rel=>exact ⟨j+1,a11,k11,by go_num,by omega,putL_below HE1.out [_] 2 XW.out,DO9.out.setAt RO9.out 2 dC _,RO9.out.setAt 2 _,by rw [HOE.out];exact HKE _⟩
     simp [intOf]<;>omega
    obtain rfl:j=l.length:=by omega
    have hd:=dF ((l.length:Int) < (l.length:Int))
    have HT:Hid (l.take l.length=l):=by show _=_;rw [List.take_length]
    rw [HT.out] at hG
    obtain ⟨q0,q1,q2⟩:=hC.out.c3
    obtain ⟨_,_,_,r0,r1,r2,g0,g1,g2⟩:=(R1.out.ext hX.out).rm.c3
    obtain ⟨lo,hlo⟩:∃ lo,l.map (fun g=>sbtF g fs)=lo:=⟨_,rfl⟩
    have HLL:Hid (lo.length=l.length):=by show _=_;rw [← hlo,List.length_map]
    rw [hlo] at hG hR
    clear hlo
    go_wp2_with fail
    refine bodyPost_ret (v:=.agg #[.int .i64 fk,.int .i64 0,.slice ao l.length ko]) (by simp [results,Tryz.results71,go_sem,r0,r1,r2]) rfl ?_
    have hs1:=SZ1.out
    have hE:=HE1.out
    have hb:=HB.out
    have hKP:GrF (fun g=>Q g∨E < g) (n+m) 29 (E+1) (Att.putL wo (w.heap.size+1) 0 [.int .i64 fk,.int .i64 0,.slice ao l.length ko]) (.slice ao l.length ko) lo:=hG.out.keep (fun g hg hlt=>by
     have hne:g≠w.heap.size+1:=by
      rcases hg with (hg | hg) | hg
      ·have:=HQ.out g hg
       omega
      ·omega
      have:=(GrF.lt hG.out g hg).1
      omega
     exact putL_block _ hne _ _ _)
    have hRES:RdFs (fun g=>Q g∨w.heap.size≤g) (n+m+1) (Att.putL wo (w.heap.size+1) 0 [.int .i64 fk,.int .i64 0,.slice ao l.length ko]) (.agg #[.int .i64 fk,.int .i64 0,.slice ao l.length ko]) (.mk fk 0 lo):=
     ⟨_,rfl,fun g hg _=>.inr (by have:=(GrF.lt hG.out g hg).1;omega),hKP.rds fun g hg _=>hg.elim .inl fun h=>.inr oM⟩
    exact hR.out _ _ (Gives.mk (putL_below oM [_,_,_] 0 (eT b1 hX.out)) (hRES.le oM))
end Go.Proofs.YtmlhccajicmpfaaGreat

namespace Go.Att
open Go.RowKit

def MapZ (P:Program) (k:TypeId) (m n:Nat) (w:World):Prop:=
 ∃ es clock,w.heap[m]?=some (.map es clock)∧∀ e∈es.toList,(∃ l,keyOf P k e.key=some l)∧∃ z:Int,e.val=.int .i64 z∧0≤z∧z < n
section
variable {P:Program} {k e t:TypeId} {m n:Nat} {w w':World} {key:Value} {kl:Lit}
theorem MapZ.lt (h:MapZ P k m n w):m < w.heap.size:=by
 obtain ⟨es,clock,hb,_⟩:=h
 exact (Array.getElem?_eq_some_iff.1 hb).1
theorem MapZ.mono (h:MapZ P k m n w) {n':Nat} (hn:n≤n'):MapZ P k m n' w:=by
 obtain ⟨es,clock,hb,hF⟩:=h
 exact ⟨es,clock,hb,fun x hx=>⟨(hF x hx).1,by obtain ⟨z,h1,h2,h3⟩:=(hF x hx).2;exact ⟨z,h1,h2,by omega⟩⟩⟩
theorem MapZ.block (h:MapZ P k m n w) (hb:w'.heap[m]?=w.heap[m]?):MapZ P k m n w':=by
 obtain ⟨es,clock,h1,hF⟩:=h
 exact ⟨es,clock,hb.trans h1,hF⟩
theorem MapZ.ext (h:MapZ P k m n w) (x:Ext w w'):MapZ P k m n w':=h.block (x.block m h.lt)
theorem MapZ.made (w:World):MapZ P k w.heap.size 0 (w.alloc (.map #[] 0)):=⟨#[],0,(MapKept.heap_alloc w _).1,fun x hx=>by simp at hx⟩
theorem MapZ.look (h:MapZ P k m n w) (K:WideMaps.KeyLaw P k) (ht:P.underlying t=some (.map k e)) (hz:(zeroValue e).run P w=.ok (.int .i64 0) w) (hkey:keyOf P k key=some kl):
  ∃ (z:Int) (b:Bool),(Instr.lookup t (.map (some m)) key true).run P w=.ok (.tuple #[.int .i64 z,.bool b]) w∧(b=true→0≤z∧z < n):=by
 obtain ⟨es,clock,hb,hF⟩:=h
 rcases K.find w hkey es.toList (fun x hx=>(hF x hx).1) with ⟨h1,h2⟩ | ⟨j,e0,h1,h2,h3⟩
 ·exact ⟨0,false,by simp [Instr.lookup,run_underlying ht,MapKept.run_getObj_map hb,K.check w _ hkey,h1,hz,Result.andThen],fun h=>by cases h⟩
 obtain ⟨z,hv,g1,g2⟩:=(hF e0 (List.mem_of_getElem? h2)).2
 exact ⟨z,true,by simp [Instr.lookup,run_underlying ht,MapKept.run_getObj_map hb,K.check w _ hkey,h1,hv,Result.andThen],fun _=>⟨g1,g2⟩⟩
theorem MapZ.store (h:MapZ P k m n w) (K:WideMaps.KeyLaw P k) (ht:P.underlying t=some (.map k e)) (hkey:keyOf P k key=some kl) {z:Int} (h0:0≤z) (h1:z < n):
  ∃ w',(Instr.mapUpdate t (.map (some m)) key (.int .i64 z)).run P w=.ok () w'∧MapZ P k m n w'∧w.grownBy w' (some m):=by
 obtain ⟨es,clock,hb,hF⟩:=h
 have hown:∀ o,w.grownBy (ChangeMaps.setBlock w m o) (some m):=fun o=>⟨rfl,rfl,rfl,by simp [ChangeMaps.setBlock],fun i _ hi=>ChangeMaps.heap_setBlock_other hb _ (fun e=>hi (by rw [e]))⟩
 rcases K.find w hkey es.toList (fun x hx=>(hF x hx).1) with ⟨g1,g2⟩ | ⟨j,e0,g1,g2,g3⟩
 ·refine ⟨ChangeMaps.setBlock w m (.map (es.push ⟨key,.int .i64 z,clock⟩) (clock+1)),?_,⟨_,_,ChangeMaps.heap_setBlock_same hb _,fun x hx=>?_⟩,hown _⟩
  ·simp [Instr.mapUpdate,run_underlying ht,MapKept.run_getObj_map hb,K.check w false hkey,g1,MapKept.run_setObj_map _ hb,Result.andThen,ChangeMaps.setBlock]
  simp only [Array.toList_push,List.mem_append,List.mem_singleton] at hx
  rcases hx with hx | rfl
  ·exact hF x hx
  exact ⟨⟨_,hkey⟩,z,rfl,h0,h1⟩
 have hj:es[j]?=some e0:=by simpa using g2
 refine ⟨ChangeMaps.setBlock w m (.map (es.modify j (fun e'=>{ e' with key:=key,val:=.int .i64 z })) clock),?_,⟨_,_,ChangeMaps.heap_setBlock_same hb _,fun x hx=>?_⟩,hown _⟩
 ·simp [Instr.mapUpdate,run_underlying ht,MapKept.run_getObj_map hb,K.check w false hkey,g1,hj,g3,K.stays w hkey,MapKept.run_setObj_map _ hb,Result.andThen,ChangeMaps.setBlock]
 rw [Array.toList_modify] at hx
 obtain ⟨i,hi,ex⟩:=List.getElem_of_mem hx
 rw [List.getElem_modify] at ex
 split at ex
 ·subst ex
  exact ⟨⟨_,hkey⟩,z,rfl,h0,h1⟩
 subst ex
 exact hF _ (List.getElem_mem _)
theorem wp_lookupZ {o:Oper} {a:Act} {K:Act→World→Prop} {Q:Exit→Act→World→Prop} (mm x:Operand) (t:TypeId) (hop:o.op=Op.lookup t mm x true) (L:WideMaps.KeyLaw P k) (ht:P.underlying t=some (.map k e)) (hz:(zeroValue e).run P w=.ok (.int .i64 0) w)
  (hm:a.eval mm=.map (some m)) (h:MapZ P k m n w) (hx:a.eval x=key) (hkey:keyOf P k key=some kl) (hK:∀ (z:Int) (b:Bool),(b=true→0≤z∧z < n)→K (a.put o.dst (.tuple #[.int .i64 z,.bool b])) w):o.wp P a w K Q:=by
 obtain ⟨z,b,hrun,hb⟩:=h.look L ht hz hkey
 unfold Oper.wp
 simp [execOp,hop,hm,hx,hrun,Result.andThen]
 exact hK z b hb
theorem wp_storeZ {o:Oper} {a:Act} {K:Act→World→Prop} {Q:Exit→Act→World→Prop} (mm x v:Operand) (t:TypeId) (hop:o.op=Op.mapUpdate t mm x v) (L:WideMaps.KeyLaw P k) (ht:P.underlying t=some (.map k e))
  (hm:a.eval mm=.map (some m)) (h:MapZ P k m n w) (hx:a.eval x=key) (hkey:keyOf P k key=some kl) {z:Int} (hv:a.eval v=.int .i64 z) (h0:0≤z) (h1:z < n) (hK:∀ w',MapZ P k m n w'→w.grownBy w' (some m)→K (a.put o.dst undef) w'):o.wp P a w K Q:=by
 obtain ⟨w',hrun,g1,g2⟩:=h.store L ht hkey h0 h1
 unfold Oper.wp
 simp [execOp,hop,hm,hx,hv,hrun,Result.andThen]
 exact hK w' g1 g2
variable {ops:Array Oper} {rest:List Oper}
end
theorem key3 {P : Program} {k i : TypeId} {f0 f1 f2 : Field} (hu : P.underlying k = some (.struct #[f0, f1, f2])) (hi : P.underlying i = some (.int .i64)) (hf : f0.type = i ∧ f1.type = i ∧ f2.type = i ∧ f0.offset = 0 ∧ f1.offset = 1 ∧ f2.offset = 2 ∧ (#[f0, f1, f2].all (·.name != "_")) = true)
  (hc:P.cellsOf k=3) (hci:P.cellsOf i=1) (hkt:P.keyType k=true) (hs:1≤P.types.size) {a b c:Int} (ha:(Lit.int .i64 a).wf=true) (hb:(Lit.int .i64 b).wf=true) (hc':(Lit.int .i64 c).wf=true):
  ∃ l,keyOf P k (.agg #[.int .i64 a,.int .i64 b,.int .i64 c])=some l:=by
 obtain ⟨h0,h1,h2,o0,o1,o2,hn⟩:=hf
 obtain ⟨d,hd⟩:∃ d,P.types.size=d+1:=⟨P.types.size - 1,by omega⟩
 refine ⟨.string (keyBytes [.int .i64 a,.int .i64 b,.int .i64 c]),?_⟩
 unfold keyOf
 rw [hu]
 simp only [hkt,Value.formed,hu,hc,Bool.true_and]
 rw [hd]
 unfold Program.keyLits
 rw [hu]
 simp only [Value.cells,hn,hc]
 unfold Program.keyLits
 simp [h0,h1,h2,o0,o1,o2,hci,hi,ha,hb,hc',List.mapM_cons]
open Go.RowKit

abbrev Nd:=Int × Int × Int
def NdT (_:World) (v:Value) (n:Nd):Prop:=v=.agg #[.int .i64 n.1,.int .i64 n.2.1,.int .i64 n.2.2]
theorem NdT.ext {w w':World} {v:Value} {n:Nd} (h:NdT w v n) (_:Ext w w'):NdT w' v n:=h
theorem NdT.cells {w:World} {cs:List Value} {n:Nd} (h:NdT w (.agg cs.toArray) n):cs=[.int .i64 n.1,.int .i64 n.2.1,.int .i64 n.2.2]:=by
 have h:Value.agg cs.toArray=.agg #[.int .i64 n.1,.int .i64 n.2.1,.int .i64 n.2.2]:=h
 simpa using h
theorem kdNd (e:TypeId):Kd e NdT:=⟨fun h _=>h,fun h _ _=>h,fun h u hu=>by
 rw [NdT.cells h] at hu
 simp at hu
 rcases hu with rfl | rfl | rfl <;> rfl⟩
def GivB (B:Nat) (w:World) (R:Value→World→Prop):Ending→World→Prop:=fun e w'=>∃ v,e=.returned v∧Below B w w'∧R v w'
theorem GivB.mk {B:Nat} {w w':World} {R:Value→World→Prop} {v:Value} (h:Below B w w') (r:R v w'):GivB B w R (.returned v) w':=⟨v,rfl,h,r⟩
def GdN (at':Int) (m:Nat) (n:Nd):Prop:=0≤n.1∧n.1≤6∧0≤n.2.1∧0≤n.2.2∧n.2.1 < 1000000∧n.2.2 < 1000000∧(n.1=3→n.2.1 < at')∧(n.1≠3→n.2.1 < m∧n.2.2 < m)
theorem GdN.le {a:Int} {m m':Nat} {n:Nd} (h:GdN a m n) (hm:m≤m'):GdN a m' n:=by
 obtain ⟨h0,h6,h1,h2,h3,h4,h5,h7⟩:=h
 exact ⟨h0,h6,h1,h2,h3,h4,h5,fun h=>by have:=h7 h;omega⟩
def GdL (at':Int) (L:List Nd):Prop:=2≤L.length∧L.length≤20000∧∀ n∈L,GdN at' L.length n
theorem GdL.snoc {a:Int} {L:List Nd} {n:Nd} (h:GdL a L) (hn:GdN a L.length n) (hl:L.length < 20000):GdL a (L ++ [n]):=by
 obtain ⟨h1,h2,h3⟩:=h
 have he:(L ++ [n]).length=L.length+1:=by simp
 refine ⟨by omega,by omega,fun x hx=>?_⟩
 rw [he]
 rcases List.mem_append.1 hx with hx | hx
 ·exact (h3 x hx).le oM
 rw [List.mem_singleton.1 hx];exact hn.le oM
theorem OwnRow.ne_map {α:Type} {k B m n:Nat} {T:World→Value→α→Prop} {e kk:TypeId} {P:Program} {w:World} {v:Value} {l:List α} (h:OwnRow k T e B w v l) (hm:MapZ P kk m n w):v.ownBlock≠some m:=fun hv=>by
 obtain ⟨E,⟨_,h2⟩,-⟩:=h
 obtain ⟨es,clock,hb,_⟩:=hm
 rcases h2 with ⟨rfl,_⟩ | ⟨g,cap,cur,rfl,hg,hh,_⟩
 ·simp [Value.ownBlock] at hv
 have he:g=m:=by simpa [Value.ownBlock] using hv
 subst he
 rw [hh] at hb
 cases hb
theorem Rt.ne_map {b k m n:Nat} {t kk:TypeId} {P:Program} {w:World} (h:Rt w b k t) (hm:MapZ P kk m n w):m≠b:=fun he=>by
 obtain ⟨cs,_,h⟩:=h
 obtain ⟨es,clock,hb,_⟩:=hm
 subst he
 rw [h] at hb
 cases hb
theorem OwnRow.keptR {α:Type} {k B:Nat} {T:World→Value→α→Prop} {e:TypeId} {w w':World} {v:Value} {l:List α} {row:Option Nat} (h:OwnRow k T e B w v l) (hg:w.grownBy w' row) (hne:v.ownBlock≠row) (hT:∀ v a,T w v a→T w' v a):OwnRow k T e B w' v l:=by
 obtain ⟨E,hE,hP⟩:=h
 exact ⟨E,hE.kept hg (.inr hne),hP.mono fun _ _ h=>hT _ _ h⟩
theorem Bx.keepC {w w':World} {b:Nat} {cs:List Value} (h:Bx w b cs) (hk:w'.heap[b]?=w.heap[b]?):Bx w' b cs:=fun i v hv=>by
 have h1:=h i v hv
 rw [← h1]
 exact World.cell?_of_block hk
end Go.Att
namespace Go.Proofs.YtmlhccajicmpfaaGreat
open Go.RowKit Go.Att

theorem laidTb:laidOutB Tryz.prog=true:=by kernel_rfl
theorem etNd:ElemT Tryz.prog 189 193 (.agg #[.int .i64 0,.int .i64 0,.int .i64 0]) 3 24:=ElemT.mk' Tryz.underlying189 kR rfl dC
theorem ndLaw:WideMaps.KeyLaw Tryz.prog 193:=deep_law_laid laidTb (m:=2) dC (of_decide_eq_true kR) kR kR
theorem ndKey {a b c:Int} (ha:0≤a∧a≤1000000) (hb:0≤b∧b≤1000000) (hc:0≤c∧c≤1000000):∃ l,keyOf Tryz.prog 193 (.agg #[.int .i64 a,.int .i64 b,.int .i64 c])=some l:=
 key3 Tryz.underlying193 Tryz.underlying3 ⟨rfl,rfl,rfl,rfl,rfl,rfl,by kernel_rfl⟩ kR kR kR (of_decide_eq_true kR) (WalkArith.wf_i64 oM) (WalkArith.wf_i64 oM) (WalkArith.wf_i64 oM)
theorem zeroI (w:World):(zeroValue 3).run Tryz.prog w=.ok (.int .i64 0) w:=by kernel_rfl
def TbR (B b:Nat) (w:World) (L:List Nd):Prop:=
 ∃ a c m,Bx w b [.slice a L.length c,.map (some m)]∧Rt w b 2 259∧OwnRow 3 NdT 193 B w (.slice a L.length c) L∧MapZ Tryz.prog 193 m L.length w∧B≤m∧B≤b
def Tb (B b:Nat) (at':Int) (n:Nat) (w:World):Prop:=∃ L:List Nd,L.length=n∧GdL at' L∧TbR B b w L
theorem TbR.ext {B b:Nat} {w w':World} {L:List Nd} (h:TbR B b w L) (x:Ext w w'):TbR B b w' L:=by
 obtain ⟨a,c,m,h1,h2,h3,h4,h5,h6⟩:=h
 exact ⟨a,c,m,h1.ext x,h2.ext x,h3.ext NdT.ext x,h4.ext x,h5,h6⟩
theorem Tb.ext {B b n:Nat} {a:Int} {w w':World} (h:Tb B b a n w) (x:Ext w w'):Tb B b a n w':=by
 obtain ⟨L,h1,h2,h3⟩:=h
 exact ⟨L,h1,h2,h3.ext x⟩
theorem Tb.bd {B b n:Nat} {a:Int} {w:World} (h:Tb B b a n w):2≤n∧n≤20000∧B≤b∧b < w.heap.size:=by
 obtain ⟨L,rfl,h2,a',c,m,h3,h4,h5,h6,h7,h8⟩:=h
 exact ⟨h2.1,h2.2.1,h8,h4.lt⟩
theorem Tb.op {B b n:Nat} {a:Int} {w:World} (h:Tb B b a n w):∃ (x:Option Addr) (c m:Nat) (L:List Nd),L.length=n∧GdL a L∧Bx w b [.slice x n c,.map (some m)]∧Rt w b 2 259∧OwnRow 3 NdT 193 B w (.slice x n c) L∧MapZ Tryz.prog 193 m n w∧B≤m∧B≤b:=by
 obtain ⟨L,rfl,h2,a',c,m,h3,h4,h5,h6,h7,h8⟩:=h
 exact ⟨a',c,m,L,rfl,h2,h3,h4,h5,h6,h7,h8⟩
theorem row_nd {B n:Nat} {a:Int} {w:World} {x:Option Addr} {c:Nat} {L:List Nd} (hl:L.length=n) (hg:GdL a L) (h:OwnRow 3 NdT 193 B w (.slice x n c) L) {i:Int} (h0:0≤i) (h1:i < n):
  ∃ (b o:Nat) (k y z:Int),x=some ⟨b,o,none⟩∧Bo w b (o+i.toNat*3) [.int .i64 k,.int .i64 y,.int .i64 z]∧GdN a n (k,y,z):=by
 subst hl
 have hi:i.toNat < L.length:=by omega
 obtain ⟨b,o,cs,he,hcl,hT,hc⟩:=(OwnRow.rd h).at dC i.toNat hi
 rw [NdT.cells hT] at hc
 exact ⟨b,o,_,_,_,he,Bo.of hc,hg.2.2 _ (List.getElem_mem hi)⟩
end Go.Proofs.YtmlhccajicmpfaaGreat
