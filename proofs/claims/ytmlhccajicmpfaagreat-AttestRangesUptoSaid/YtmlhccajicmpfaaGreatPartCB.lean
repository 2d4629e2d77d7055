/- A group of texts: PTblPut, PTblGet -/
import Derived.Test.YtmlhccajicmpfaaGreatSq
import Derived.Test.YtmlhccajicmpfaaGreatPartCA
import Derived.Test.YtmlhccajicmpfaaGreatPartBC
import Derived.Test.YtmlhccajicmpfaaGreatPartBD
set_option maxHeartbeats 40000000
set_option maxRecDepth 100000
set_option linter.unusedSimpArgs false
namespace Go.Att
theorem fill_n1 (x0 x1 x2:Value):
  Instr.fill (fun i=>some (i*3,3)) ((Array.range (1*3)).map ((Value.agg #[.int .i64 0,.int .i64 0,.int .i64 0]).cells[· % (Value.agg #[.int .i64 0,.int .i64 0,.int .i64 0]).cells.size]!)) [(0,.agg #[x0,x1,x2])]=some #[x0,x1,x2]:=by kernel_rfl
end Go.Att
namespace Go.Proofs.YtmlhccajicmpfaaGreat
open Go.RowKit Go.Att

theorem tput_any {B b n:Nat} {at':Int} {w:World} {k x y:Int} (h:Tb B b at' n w) (hg:GdN at' n (k,x,y)):
  Calls Tryz.prog 150 #[.pointer (some ⟨b,0,none⟩),.agg #[.int .i64 k,.int .i64 x,.int .i64 y]] w (GivB B w fun v' w'=>∃ (i:Int) (ok:Bool) (n':Nat),v'=.tuple #[.int .i64 i,.bool ok]∧n≤n'∧0≤i∧i < n'∧Tb B b at' n' w'):=by
 refine via fun R hR=>?_
 obtain ⟨hn2,hn20,hBb,hbw⟩:=h.bd
 obtain ⟨ax,ac,m,L,hL,hGL,hC,hR2,hO,hM,hBm,-⟩:=h.op
 have HG:=qH hg
 have HKEY:=qH (ndKey (a:=k) (b:=x) (c:=y) (by have:=hg.1;have:=hg.2.1;dsimp only at *;omega) (by have:=hg.2.2.1;have:=hg.2.2.2.2.1;dsimp only at *;omega) (by have:=hg.2.2.2.1;have:=hg.2.2.2.2.2.1;dsimp only at *;omega))
 obtain ⟨kl,hkl⟩:=HKEY.out
 have HKL:=qH hkl
 obtain ⟨w1,hw1,b1,c1,-,hs1⟩:=bx1 w [.int .i64 k,.int .i64 x,.int .i64 y] 193
 have HW:=qH hw1
 have C1:=qH c1
 have HC1:=qH (hC.ext b1)
 have HR1:=qH (hR2.ext b1)
 have HO1:=qH (hO.ext NdT.ext b1)
 have HM1:=qH (hM.ext b1)
 have HTB1:=qH (h.ext b1)
 have HLN:=qH hL
 have HGL:=qH hGL
 have HMW:Hid (m≠w.heap.size):=by have h1:=hM.lt;exact qH oM
 have HO:=qH hO
 have HBD:Hid (2≤n∧n≤20000∧B≤b∧b < w.heap.size∧B≤m∧w1.heap.size=w.heap.size+1):=⟨hn2,hn20,hBb,hbw,hBm,hs1⟩
 have B1:Hid (Below B w w1):=Below.mono b1 oM
 obtain ⟨j0,j1,j2⟩:=c1.c3
 clear hw1 c1 hs1 hg hkl HKEY hn2 hn20 hBb hbw hL hGL hC hR2 hO hM hBm h
 go_enter Tryz.func150,Tryz.ntmps150
 go_upto_region 1 with (fail)
 rw [← HW.out]
 clear HW j0 j1 j2
 have b2:=drew_ext w1
 have XE:=b2
 refine wp_region_noPanic ?_
 refine wp_region_held_drew (S:=fun w'=>(w'.cell? ⟨b,0,none⟩=some (.slice ax n ac)∧w'.cell? ⟨b,1,none⟩=some (.map (some m)))∧(w'.cell? ⟨w.heap.size,0,none⟩=some (.int .i64 k)∧w'.cell? ⟨w.heap.size,1,none⟩=some (.int .i64 x)∧w'.cell? ⟨w.heap.size,2,none⟩=some (.int .i64 y))) kR (⟨(HC1.out.ext XE).c2,(C1.out.ext XE).c3⟩) (fun hHeld=>?_)
 refine tkH 0 hHeld ?_
 simp only [jP,jJ]
 refine tkH 1 hHeld ?_
 simp only [jP,jJ]
 refine tkH 2 hHeld ?_
 simp only [jP,jJ]
 refine tkH 3 hHeld ?_
 simp only [jP,jJ]
 refine tkH 4 hHeld ?_
 simp only [jP,jJ]
 refine rdH 5 kR rfl (fun K hK=>?_)
 refine if_wantedL rfl ?_
 refine wp_lookupZ _ _ _ rF ndLaw Tryz.underlying257 (zeroI _) rF (HM1.out.ext XE) rF HKL.out ?_
 intro z bb hz
 have HZ:=qH hz
 clear hz
 refine hK.out _ _ ⟨(HC1.out.ext XE).c2,(C1.out.ext XE).c3⟩ (fun hHeld=>?_)
 clear hK K
 try simp only [jP,jJ]
 refine tkH 6 hHeld ?_
 simp only [jP,jJ]
 refine tkH 7 hHeld ?_
 simp only [jP,jJ]
 refine tkH 8 hHeld ?_
 simp only [jP,jJ]
 refine tkH 9 hHeld ?_
 simp only [jP,jJ]
 refine tkH 10 hHeld ?_
 simp only [jP,jJ]
 refine dnH kR ?_
 cases bb with
 | true=>
  have HZ2:=qH (HZ.out rfl)
  go_wp2_with fail
  exact hR.out _ _ (GivB.mk (Below.trans B1.out (Below.mono XE (by have:=HBD.out;omega))) ⟨z,true,n,rfl,Nat.le_refl _,HZ2.out.1,HZ2.out.2,HTB1.out.ext XE⟩)
 | false=>
  clear HZ
  obtain ⟨w2,hw2⟩:∃ W,W=w1.drew:=⟨_,rfl⟩
  rw [← hw2] at XE ⊢
  have HX2:=qH XE
  have HC2:=qH (HC1.out.ext XE)
  have C2:=qH (C1.out.ext XE)
  have HR2:=qH (HR1.out.ext XE)
  have HO2:=qH (HO1.out.ext NdT.ext XE)
  have HM2:=qH (HM1.out.ext XE)
  have HTB2:=qH (HTB1.out.ext XE)
  have B2:Hid (Below B w w2):=Below.trans B1.out (Below.mono XE (by have:=HBD.out;omega))
  have HSZ2:Hid (w1.heap.size≤w2.heap.size):=Below.size XE
  clear XE b2 hw2 HC1 C1 HR1 HM1 HTB1
  by_cases hn:20000≤n
  ·have hd:=dT ((n:Int) ≥ 20000)
   have hd':decide ((20000:Int)≤(n:Int))=true:=decide_eq_true oM
   clear hn
   obtain ⟨q0,q1⟩:=HC2.out.c2
   go_wp2_with fail
   exact hR.out _ _ (GivB.mk B2.out ⟨0,false,n,rfl,Nat.le_refl _,Int.le_refl _,by have:=HBD.out;omega,HTB2.out⟩)
  have hd:=dF ((n:Int) ≥ 20000)
  have hd':decide ((20000:Int)≤(n:Int))=false:=decide_eq_false oM
  have HN:Hid (n < 20000):=qH oM
  clear hn
  obtain ⟨q0,q1⟩:=HC2.out.c2
  go_upto_region 6 with (fail)
  clear hd hd' q0 q1
  have HNB:Hid ((Value.slice ax n ac).ownBlock≠some w.heap.size):=fun he=>by
   have h1:=(OwnRow.lt HO.out _ he).2
   omega
  have HNE:Hid ((Value.slice ax n ac).ownBlock≠some b):=HO2.out.ne_rt HR2.out dC
  have HNM:Hid ((Value.slice ax n ac).ownBlock≠some m):=HO2.out.ne_map HM2.out
  have HMB:Hid (m≠b):=HR2.out.ne_map HM2.out
  obtain ⟨n2,hn2⟩:∃ n2,n+1=n2:=⟨_,rfl⟩
  have HN2:=qH hn2
  obtain ⟨L2,hL2⟩:∃ L2,L ++ [(k,x,y)]=L2:=⟨_,rfl⟩
  have HL2:Hid (L2.length=n2):=by show _=_;rw [← hL2,← hn2,List.length_append,HLN.out];rfl
  have HGL2:Hid (GdL at' L2):=by rw [← hL2];exact qH (GdL.snoc HGL.out (by rw [HLN.out];exact HG.out) (by rw [HLN.out];exact HN.out))
  have HLE:=qH hL2
  clear hn2 hL2
  have b3:=drew_ext w2
  have XE:=b3
  refine wp_region_noPanic ?_
  refine wp_region_cut_drew (st:=10) (S:=fun w'=>(w'.cell? ⟨b,0,none⟩=some (.slice ax n ac)∧w'.cell? ⟨b,1,none⟩=some (.map (some m)))∧(w'.cell? ⟨w.heap.size,0,none⟩=some (.int .i64 k)∧w'.cell? ⟨w.heap.size,1,none⟩=some (.int .i64 x)∧w'.cell? ⟨w.heap.size,2,none⟩=some (.int .i64 y))) kR (⟨(HC2.out.ext XE).c2,(C2.out.ext XE).c3⟩) (fun hHeld=>?_)
  refine tkT 0 [10] hHeld ?_
  simp only [jP,jJ]
  refine tkT 1 [10] hHeld ?_
  simp only [jP,jJ]
  refine tkT 2 [10] hHeld ?_
  simp only [jP,jJ]
  refine tkT 3 [10] hHeld ?_
  simp only [jP,jJ]
  refine tkT 4 [10] hHeld ?_
  simp only [jP,jJ]
  refine tkT 5 [10] hHeld ?_
  simp only [jP,jJ]
  refine rdT 6 kR rfl rF (fun K hK=>?_)
  refine if_wantedL rfl ?_
  refine build1K etNd rF (T:=NdT) NdT.ext rF [.int .i64 k,.int .i64 x,.int .i64 y] (fill_n1 ..) rfl dC (y:=(k,x,y)) rfl ?_
  intro g20 w20 x20 _ l20
  have XE:=eT XE x20
  have L20:=qH l20.rd
  clear l20
  refine hK.out _ _ ⟨(HC2.out.ext XE).c2,(C2.out.ext XE).c3⟩ (fun hHeld=>?_)
  clear hK K
  try simp only [jP,jJ]
  refine rdT 7 kR rfl rF (fun K hK=>?_)
  refine if_wantedL rfl ?_
  refine append_rowG etNd (kdNd _) _ _ rF B rF (HO2.out.ext NdT.ext XE) rF L20.out (by rw [HLN.out];have:=HN.out;omega) (by rw [HLN.out];have:=HN.out;unfold maxLen;omega) (by have:=HBD.out;have:=Below.size XE;have:=HSZ2.out;omega) ?_
  intro v9 w9 o9 b9 g9 _
  have RO9:=qH ((HR2.out.ext XE).grow g9 HNE.out)
  have DO9:=qH ((HC2.out.ext XE).grow g9 HNE.out)
  have DC9:=qH ((C2.out.ext XE).grow g9 HNB.out)
  have M9:=qH ((HM2.out.ext XE).block (g9.block m (HM2.out.ext XE).lt (fun e=>HNM.out e.symm)))
  have XW:=qH (Below.trans (Below.trans B2.out (Below.mono XE (by have:=HBD.out;have:=HSZ2.out;omega))) b9)
  have O9:Hid (OwnRow 3 NdT 193 B w9 v9 L2):=(by rw [← HLE.out];exact o9)
  obtain ⟨a11,k11,he9,-,-⟩:=O9.out.rd.shape
  rw [HL2.out] at he9
  subst he9
  refine hK.out _ _ ⟨DO9.out.c2,DC9.out.c3⟩ (fun hHeld=>?_)
  clear hK K o9
  try simp only [jP,jJ]
  refine tkT 8 [9,10] hHeld ?_
  simp only [jP,jJ]
  refine tkT 9 [10] hHeld ?_
  simp only [jP,jJ]
  obtain ⟨_,_,n0,n1,i0,i1⟩:=RO9.out.c2
  refine wpAnyT_ready (rs:=[10]) kR (by simp) ?_
  refine AllReadyT.cut (o:=_) rfl (fun K hK=>?_)
  go_simp
  refine hK.out _ _ ?_
  clear hK K
  try simp only [jP,jJ]
  refine wpAny_done kR ?_ _
  refine NoPanic.normal ?_
  go_upto_region 7 with (fail)
  obtain ⟨w10,hw10⟩:∃ W,W=Att.putL w9 b 0 [.slice a11 n2 k11]:=⟨_,rfl⟩
  rw [show World.setCell w9 ⟨b,0,none⟩ (.slice a11 n2 k11)=w10 from hw10.symm]
  have HC10:Hid (Bx w10 b [.slice a11 n2 k11,.map (some m)]):=by rw [hw10];exact qH (DO9.out.setAt RO9.out 0 dC _)
  have HR10:Hid (Rt w10 b 2 259):=by rw [hw10];exact qH (RO9.out.setAt 0 _)
  have HO10:Hid (OwnRow 3 NdT 193 B w10 (.slice a11 n2 k11) L2):=by rw [hw10];exact qH (O9.out.putT RO9.out dC 0 [_] fun _ _ h=>h)
  have HM10:Hid (MapZ Tryz.prog 193 m n2 w10):=by rw [hw10];exact qH ((M9.out.block (putL_block b HMB.out _ _ _)).mono (by have:=HN2.out;omega))
  have C10:Hid (Bx w10 w.heap.size [.int .i64 k,.int .i64 x,.int .i64 y]):=by rw [hw10];exact qH (DC9.out.keepC (putL_block b (by have:=HBD.out;omega) _ _ _))
  have B10:Hid (Below B w w10):=by rw [hw10];exact qH (putL_below (by have:=HBD.out;omega) [_] 0 XW.out)
  have HNM10:Hid ((Value.slice a11 n2 k11).ownBlock≠some m):=HO10.out.ne_map HM10.out
  have HWN:IntKind.i64.wrap ((n2:Int) - 1)=(n2:Int) - 1:=by have:=HN.out;have:=HN2.out;rw [IntKind.wrap_i64];omega
  have HBS:Hid (B≤w10.heap.size):=by have h1:=Below.size B10.out;have:=HBD.out;exact qH oM
  clear hw10 RO9 DO9 DC9 M9 XW O9 n0 n1 i0 i1 HC2 C2 HR2 HM2 HO2 HTB2 XE hHeld
  have b11:=drew_ext w10
  have XE:=b11
  refine wp_region_noPanic ?_
  refine wp_region_held_drew (S:=fun w'=>(w'.cell? ⟨b,0,none⟩=some (.slice a11 n2 k11)∧w'.cell? ⟨b,1,none⟩=some (.map (some m)))∧(w'.cell? ⟨w.heap.size,0,none⟩=some (.int .i64 k)∧w'.cell? ⟨w.heap.size,1,none⟩=some (.int .i64 x)∧w'.cell? ⟨w.heap.size,2,none⟩=some (.int .i64 y))) kR (⟨(HC10.out.ext XE).c2,(C10.out.ext XE).c3⟩) (fun hHeld=>?_)
  refine tkH 0 hHeld ?_
  simp only [jP,jJ]
  refine tkH 1 hHeld ?_
  simp only [jP,jJ]
  refine tkH 2 hHeld ?_
  simp only [jP,jJ]
  refine tkH 3 hHeld ?_
  simp only [jP,jJ]
  refine tkH 4 hHeld ?_
  simp only [jP,jJ]
  refine tkH 5 hHeld ?_
  simp only [jP,jJ]
  refine tkH 6 hHeld ?_
  simp only [jP,jJ]
  refine tkH 7 hHeld ?_
  simp only [jP,jJ]
  refine tkH 8 hHeld ?_
  simp only [jP,jJ]
  refine tkH 9 hHeld ?_
  simp only [jP,jJ]
  refine tkH 10 hHeld ?_
  simp only [jP,jJ]
  refine rdH 11 kR rfl (fun K hK=>?_)
  refine if_wantedL rfl ?_
  refine wp_storeZ _ _ _ _ rF ndLaw Tryz.underlying257 rF (HM10.out.ext XE) rF HKL.out (z:=(n2:Int) - 1) rF (by have:=HN2.out;omega) oM ?_
  intro w12 m12 g12
  have DO12:=qH ((HC10.out.ext XE).grow g12 (fun e=>HMB.out (Option.some.inj e)))
  have DC12:=qH ((C10.out.ext XE).grow g12 (fun e=>HMW.out (Option.some.inj e)))
  have M12:=qH m12
  clear m12
  refine hK.out _ _ ⟨DO12.out.c2,DC12.out.c3⟩ (fun hHeld=>?_)
  clear hK K
  try simp only [jP,jJ]
  refine dnH kR ?_
  obtain ⟨q0,q1⟩:=DO12.out.c2
  have HB12:Hid (Below B w w12):=Below.trans B10.out (Below.trans (Below.mono XE HBS.out) ((Below.refl B _).grown g12 (by have:=Below.size XE;have:=HBS.out;omega) (fun j hj=>by cases hj;exact HBD.out.2.2.2.2.1)))
  have HO12:Hid (OwnRow 3 NdT 193 B w12 (.slice a11 n2 k11) L2):=(HO10.out.ext NdT.ext XE).keptR g12 HNM10.out fun _ _ h=>h
  have HR12:Hid (Rt w12 b 2 259):=(HR10.out.ext XE).grow g12 (fun e=>HMB.out (Option.some.inj e))
  go_wp2_with fail
  exact hR.out _ _ (GivB.mk HB12.out ⟨(n2:Int) - 1,true,n2,rfl,by have:=HN2.out;omega,by have:=HN2.out;omega,by omega,L2,HL2.out,HGL2.out,a11,k11,m,by rw [HL2.out];exact DO12.out,HR12.out,by rw [HL2.out];exact HO12.out,by rw [HL2.out];exact M12.out,HBD.out.2.2.2.2.1,HBD.out.2.2.1⟩)
end Go.Proofs.YtmlhccajicmpfaaGreat

namespace Go.Att
open Go.RowKit
theorem Bo.set1 {w:World} {b c o:Nat} {cs:List Value} (h:Bo w b o cs) (hne:b≠c) (i:Nat) (v:Value):Bo (w.setCell ⟨c,i,none⟩ v) b o cs:=fun j u hu=>by
 rw [← h j u hu]
 exact World.cell?_of_block (Below.heap_setCell _ _ _ _ hne)
end Go.Att
namespace Go.Proofs.YtmlhccajicmpfaaGreat
open Go.RowKit Go.Att

theorem twake_any {B b n:Nat} {at':Int} {w:World} (h:Tb B b at' n w):
  Calls Tryz.prog 139 #[.pointer (some ⟨b,0,none⟩)] w (Gives w fun v' _=>v'=.tuple #[]):=by
 refine via fun R hR=>?_
 obtain ⟨ax,ac,m,L,hL,hGL,hC,hR2,hO,hM,hBm,-⟩:=h.op
 obtain ⟨q0,q1⟩:=hC.c2
 have hd:((n:Int) == 0)=false:=beq_eq_false_iff_ne.2 (by have:=h.bd;omega)
 clear hC hR2 hO hM hGL hL
 go_enter Tryz.func139,Tryz.ntmps139
 go_wp2_with fail
 refine bodyPost_end (v:=.tuple #[]) kR rfl ?_
 exact hR.out _ _ (Gives.mk (Ext.refl _) rfl)
theorem tlen_any {B b n:Nat} {at':Int} {w:World} (h:Tb B b at' n w):
  Calls Tryz.prog 111 #[.pointer (some ⟨b,0,none⟩)] w (Gives w fun v' _=>v'=.int .i64 n):=by
 refine via fun R hR=>?_
 have HT:=qH h
 have HK:=qH (twake_any h)
 go_enter Tryz.func111,Tryz.ntmps111
 go_wp2_with fail
 refine HK.out.mono ?_
 rintro e w1 ⟨_,rfl,b1,rfl⟩
 obtain ⟨ax,ac,m,L,hL,hGL,hC,hR2,hO,hM,hBm,-⟩:=(HT.out.ext b1).op
 obtain ⟨q0,q1⟩:=hC.c2
 clear hC hR2 hO hM hGL hL
 go_wp2_with fail
 exact hR.out _ _ (Gives.mk b1 rfl)
theorem tnode_any {B b n:Nat} {at' i:Int} {w:World} (h:Tb B b at' n w) (h0:0≤i) (h1:i < n):
  Calls Tryz.prog 112 #[.pointer (some ⟨b,0,none⟩),.int .i64 i] w (Gives w fun v' _=>∃ k y z:Int,v'=.tuple #[.agg #[.int .i64 k,.int .i64 y,.int .i64 z],.bool true]∧GdN at' n (k,y,z)):=by
 refine via fun R hR=>?_
 have HT:=qH h
 obtain ⟨w1,hw1,b1,-,hrm,hs1⟩:=bx1 w [.int .i64 0,.int .i64 0,.int .i64 0] 193
 have HW:=qH hw1
 have HRM:=qH hrm
 have HK:=qH (tlen_any (h.ext b1))
 have hd1:=dF (i < 0)
 have hd2:=dF (i ≥ (n:Int))
 have hd2':decide ((n:Int)≤i)=false:=decide_eq_false oM
 have HI:Hid (0≤i∧i < n):=⟨h0,h1⟩
 clear hw1 hrm hs1 h h0 h1
 go_enter Tryz.func112,Tryz.ntmps112
 go_upto_region 1 with (fail)
 rw [← HW.out]
 clear HW
 go_wp2_with fail
 refine HK.out.mono ?_
 rintro e w2 ⟨_,rfl,b2,rfl⟩
 obtain ⟨ax,ac,m,L,hL,hGL,hC,hR2,hO,hM,hBm,-⟩:=(HT.out.ext (eT b1 b2)).op
 obtain ⟨q0,q1⟩:=hC.c2
 obtain ⟨bL,oL,k,y,z,rfl,hbo,hg⟩:=row_nd hL hGL hO HI.out.1 HI.out.2
 obtain ⟨u0,u1,u2⟩:=hbo.c3
 obtain ⟨_,_,_,r0,r1,r2,g0,g1,g2⟩:=(HRM.out.ext b2).c3
 have HI2:=HI.out
 have HG:=qH hg
 clear hC hR2 hO hM hGL hL hbo hg
 go_wp2_with fail
 refine bodyPost_ret (v:=.tuple #[.agg #[.int .i64 k,.int .i64 y,.int .i64 z],.bool true]) (by simp [results,Tryz.results112,go_sem,r0,r1,r2]) rfl ?_
 exact hR.out _ _ (Gives.mk (putL_below (Nat.le_refl _) [_,_,_] 0 (eT b1 b2)) ⟨k,y,z,rfl,HG.out⟩)
theorem topp_any {B b n:Nat} {at' i j:Int} {w:World} (h:Tb B b at' n w) (h0:0≤i) (h1:i < n) (h2:0≤j) (h3:j < n):
  Calls Tryz.prog 160 #[.pointer (some ⟨b,0,none⟩),.int .i64 i,.int .i64 j] w (Gives w fun v' _=>∃ ok:Bool,v'=.bool ok):=by
 refine via fun R hR=>?_
 obtain ⟨ax,ac,m,L,hL,hGL,hC,hR2,hO,hM,hBm,-⟩:=h.op
 have C1:=qH hC
 obtain ⟨bL,oL,k,y,z,rfl,hbo,-⟩:=row_nd hL hGL hO h0 h1
 obtain ⟨bL',oL',k',y',z',hae,hbo',-⟩:=row_nd hL hGL hO h2 h3
 simp only [Option.some.injEq,Addr.mk.injEq,and_true] at hae
 obtain ⟨rfl,rfl⟩:=hae
 have CI:=qH hbo
 have CJ:=qH hbo'
 have hI:(0:Int)≤i∧i < (n:Int):=⟨h0,h1⟩
 have hJ:(0:Int)≤j∧j < (n:Int):=⟨h2,h3⟩
 have SB:=qH h.bd
 clear h hL hGL hC hR2 hO hM hBm hbo hbo' h0 h1 h2 h3
 have SL:Hid (bL < w.heap.size):=CI.out.lt
 have SBB:Hid (b < w.heap.size):=SB.out.2.2.2
 go_enter Tryz.func160,Tryz.ntmps160
 go_upto_region 1 with (fail)
 go_cut [7,8] (fun s7 s8 wx=>∃ E F:Nat,s7=.pointer (some ⟨E,0,none⟩)∧s8=.pointer (some ⟨F,0,none⟩)∧Ext w wx∧Hid (Bx wx E [.int .i64 k,.int .i64 y,.int .i64 z])∧Hid (Bx wx F [.int .i64 k',.int .i64 y',.int .i64 z']))
 case first=>
  refine wp_region_noPanic ?_
  refine wp_region_held_drew (S:=fun w'=>(w'.cell? ⟨b,0,none⟩=some (.slice (some ⟨bL,oL,none⟩) n ac)∧w'.cell? ⟨b,1,none⟩=some (.map (some m)))∧(w'.cell? ⟨bL,oL+i.toNat*3,none⟩=some (.int .i64 k)∧w'.cell? ⟨bL,oL+i.toNat*3+1,none⟩=some (.int .i64 y)∧w'.cell? ⟨bL,oL+i.toNat*3+2,none⟩=some (.int .i64 z))∧(w'.cell? ⟨bL,oL+j.toNat*3,none⟩=some (.int .i64 k')∧w'.cell? ⟨bL,oL+j.toNat*3+1,none⟩=some (.int .i64 y')∧w'.cell? ⟨bL,oL+j.toNat*3+2,none⟩=some (.int .i64 z'))) kR (⟨(C1.out.ext (drew_ext w)).c2,(CI.out.ext (drew_ext w)).c3,(CJ.out.ext (drew_ext w)).c3⟩) (fun hHeld=>?_)
  refine tkH 0 hHeld ?_
  simp only [jP,jJ]
  refine tkH 4 hHeld ?_
  simp only [jP,jJ]
  refine tkH 7 hHeld ?_
  simp only [jP,jJ]
  refine tkH 11 hHeld ?_
  simp only [jP,jJ]
  refine tkH 1 hHeld ?_
  simp only [jP,jJ]
  refine tkH 8 hHeld ?_
  simp only [jP,jJ]
  refine tkH 2 hHeld ?_
  simp only [jP,jJ]
  refine tkH 9 hHeld ?_
  simp only [jP,jJ]
  refine tkH 3 hHeld ?_
  simp only [jP,jJ]
  refine tkH 10 hHeld ?_
  simp only [jP,jJ]
  refine tkH 5 hHeld ?_
  simp only [jP,jJ]
  refine tkH 12 hHeld ?_
  simp only [jP,jJ]
  refine tkH 6 hHeld ?_
  simp only [jP,jJ]
  refine tkH 13 hHeld ?_
  simp only [jP,jJ]
  refine anyH_cap fun O Q9 AA hO hQ hA=>?_
  obtain ⟨SS,hSS⟩:∃ SS:World→Prop,Hid (SS=fun w'=>(w'.cell? ⟨b,0,none⟩=some (.slice (some ⟨bL,oL,none⟩) n ac)∧w'.cell? ⟨b,1,none⟩=some (.map (some m)))∧(w'.cell? ⟨bL,oL+i.toNat*3,none⟩=some (.int .i64 k)∧w'.cell? ⟨bL,oL+i.toNat*3+1,none⟩=some (.int .i64 y)∧w'.cell? ⟨bL,oL+i.toNat*3+2,none⟩=some (.int .i64 z))∧(w'.cell? ⟨bL,oL+j.toNat*3,none⟩=some (.int .i64 k')∧w'.cell? ⟨bL,oL+j.toNat*3+1,none⟩=some (.int .i64 y')∧w'.cell? ⟨bL,oL+j.toNat*3+2,none⟩=some (.int .i64 z'))):=⟨_,rfl⟩
  have KP:Hid (∀ wv,Ext w wv→SS wv):=fun wv XE=>by rw [hSS.out];exact ⟨(C1.out.ext XE).c2,(CI.out.ext XE).c3,(CJ.out.ext XE).c3⟩
  have L0_14_15:∀ (wv:World) (B14 B15:Nat),Hid (Ext w wv)→Hid (Rt wv B14 3 193)→Hid (w.heap.size≤B14)→Hid (Rt wv B15 3 193)→Hid (w.heap.size≤B15)→Hid (B14≠B15)→wpAnyH Tryz.prog .any O Q9 SS 2 #[true,true,true,true,true,true,true,true,true,true,true,true,true,true,true,true,false,false] ((AA.put (some 7) (.pointer (some ⟨B14,0,none⟩))).put (some 8) (.pointer (some ⟨B15,0,none⟩))) wv:=by
   intro wv B14 B15 hX r14 s14 r15 s15 ne14_15
   have hO1:=hO.out
   have hQ1:=hQ.out
   have hA1:=hA.out
   subst hO1
   subst hQ1
   subst hA1
   have XE:=hX.out
   have hHeld:=KP.out _ XE
   have hS1:=hSS.out
   subst hS1
   try simp only [jP,jJ]
   have k0_14:b≠B14:=by have h1:=s14.out;have hz0:=SBB.out;have hz1:=SL.out;have hz2:=SL.out;omega
   have k1_14:bL≠B14:=by have h1:=s14.out;have hz0:=SBB.out;have hz1:=SL.out;have hz2:=SL.out;omega
   have k2_14:bL≠B14:=by have h1:=s14.out;have hz0:=SBB.out;have hz1:=SL.out;have hz2:=SL.out;omega
   have k0_15:b≠B15:=by have h1:=s15.out;have hz0:=SBB.out;have hz1:=SL.out;have hz2:=SL.out;omega
   have k1_15:bL≠B15:=by have h1:=s15.out;have hz0:=SBB.out;have hz1:=SL.out;have hz2:=SL.out;omega
   have k2_15:bL≠B15:=by have h1:=s15.out;have hz0:=SBB.out;have hz1:=SL.out;have hz2:=SL.out;omega
   have n14_15:=ne14_15.out
   have n15_14:=Ne.symm n14_15
   skip
   obtain ⟨_,_,_,i14_0,i14_1,i14_2,f14_0,f14_1,f14_2⟩:=r14.out.rm.c3
   refine rdH 16 kR rfl (fun K hK=>?_)
   go_simp
   refine hK.out _ _ (⟨((((C1.out.ext XE).set1 k0_14 _ _).set1 k0_14 _ _).set1 k0_14 _ _).c2,((((CI.out.ext XE).set1 k1_14 _ _).set1 k1_14 _ _).set1 k1_14 _ _).c3,((((CJ.out.ext XE).set1 k2_14 _ _).set1 k2_14 _ _).set1 k2_14 _ _).c3⟩) (fun hHeld=>?_)
   clear hK K
   try simp only [jP,jJ]
   clear hHeld
   refine gen_world (P:=wpAnyH _ _ _ _ _ _ _ _) _ (fun Wg16 hWg16=>?_)
   have CG16_0:Bx Wg16 (b) [.slice (some ⟨bL,oL,none⟩) n ac,.map (some m)]:=by rw [hWg16];exact ((((C1.out.ext XE).set1 k0_14 _ _).set1 k0_14 _ _).set1 k0_14 _ _)
   have CG16_1:Bo Wg16 (bL) (oL+i.toNat*3) [.int .i64 k,.int .i64 y,.int .i64 z]:=by rw [hWg16];exact ((((CI.out.ext XE).set1 k1_14 _ _).set1 k1_14 _ _).set1 k1_14 _ _)
   have CG16_2:Bo Wg16 (bL) (oL+j.toNat*3) [.int .i64 k',.int .i64 y',.int .i64 z']:=by rw [hWg16];exact ((((CJ.out.ext XE).set1 k2_14 _ _).set1 k2_14 _ _).set1 k2_14 _ _)
   have RG16_15:Rt Wg16 B15 3 193:=by rw [hWg16];exact (((r15.out.set1 n15_14 _ _).set1 n15_14 _ _).set1 n15_14 _ _)
   have hHeld:(fun w'=>(w'.cell? ⟨b,0,none⟩=some (.slice (some ⟨bL,oL,none⟩) n ac)∧w'.cell? ⟨b,1,none⟩=some (.map (some m)))∧(w'.cell? ⟨bL,oL+i.toNat*3,none⟩=some (.int .i64 k)∧w'.cell? ⟨bL,oL+i.toNat*3+1,none⟩=some (.int .i64 y)∧w'.cell? ⟨bL,oL+i.toNat*3+2,none⟩=some (.int .i64 z))∧(w'.cell? ⟨bL,oL+j.toNat*3,none⟩=some (.int .i64 k')∧w'.cell? ⟨bL,oL+j.toNat*3+1,none⟩=some (.int .i64 y')∧w'.cell? ⟨bL,oL+j.toNat*3+2,none⟩=some (.int .i64 z'))) Wg16:=⟨CG16_0.c2,CG16_1.c3,CG16_2.c3⟩
   have HWg16:=qH hWg16
   clear hWg16
   clear i14_0 f14_0 i14_1 f14_1 i14_2 f14_2
   obtain ⟨_,_,_,i15_0,i15_1,i15_2,f15_0,f15_1,f15_2⟩:=RG16_15.rm.c3
   refine rdH 17 kR rfl (fun K hK=>?_)
   go_simp
   refine hK.out _ _ (⟨(((CG16_0.set1 k0_15 _ _).set1 k0_15 _ _).set1 k0_15 _ _).c2,(((CG16_1.set1 k1_15 _ _).set1 k1_15 _ _).set1 k1_15 _ _).c3,(((CG16_2.set1 k2_15 _ _).set1 k2_15 _ _).set1 k2_15 _ _).c3⟩) (fun hHeld=>?_)
   clear hK K
   try simp only [jP,jJ]
   refine dnH kR ?_
   rw [HWg16.out]
   go_wp2_with fail
   go_meet
   have hne:=ne14_15.out
   refine ⟨B14,B15,rfl,rfl,putL_below s15.out [_,_,_] 0 (putL_below s14.out [_,_,_] 0 hX.out),?_,?_⟩
   ·exact qH ((r14.out.putL_at [.int .i64 k,.int .i64 y,.int .i64 z] rfl).1.keepC (putL_block B15 hne [.int .i64 k',.int .i64 y',.int .i64 z'] _ 0))
   exact qH ((r15.out.putL (Ne.symm hne) 0 [.int .i64 k,.int .i64 y,.int .i64 z]).putL_at [.int .i64 k',.int .i64 y',.int .i64 z'] rfl).1
  have L0_15:∀ (wv:World) (B15:Nat),Hid (Ext w wv)→Hid (Rt wv B15 3 193)→Hid (w.heap.size≤B15)→wpAnyH Tryz.prog .any O Q9 SS 3 #[true,true,true,true,true,true,true,true,true,true,true,true,true,true,false,true,false,false] (AA.put (some 8) (.pointer (some ⟨B15,0,none⟩))) wv:=by
   intro wv B15 hX r15 s15
   have hO1:=hO.out
   have hQ1:=hQ.out
   have hA1:=hA.out
   subst hO1
   subst hQ1
   subst hA1
   have XE:=hX.out
   try simp only [jP,jJ]
   refine rdH 14 kR rfl (fun K hK=>?_)
   go_simp
   refine hK.out _ _ (KP.out _ (eT XE (Ext.alloc _ _))) (fun _=>?_)
   clear hK K
   try simp only [jP,jJ]
   exact wpAnyH_at (L0_14_15 _ wv.heap.size B15 (eT XE (Ext.alloc wv (.cells [.int .i64 0,.int .i64 0,.int .i64 0].toArray 193))) (Rt.new wv [.int .i64 0,.int .i64 0,.int .i64 0] 193) (Below.size XE) (r15.out.ext (Ext.alloc wv (.cells [.int .i64 0,.int .i64 0,.int .i64 0].toArray 193))) s15 (Nat.ne_of_gt r15.out.lt)) kR kR kR
  have L0_14:∀ (wv:World) (B14:Nat),Hid (Ext w wv)→Hid (Rt wv B14 3 193)→Hid (w.heap.size≤B14)→wpAnyH Tryz.prog .any O Q9 SS 3 #[true,true,true,true,true,true,true,true,true,true,true,true,true,true,true,false,false,false] (AA.put (some 7) (.pointer (some ⟨B14,0,none⟩))) wv:=by
   intro wv B14 hX r14 s14
   have hO1:=hO.out
   have hQ1:=hQ.out
   have hA1:=hA.out
   subst hO1
   subst hQ1
   subst hA1
   have XE:=hX.out
   try simp only [jP,jJ]
   refine rdH 15 kR rfl (fun K hK=>?_)
   go_simp
   refine hK.out _ _ (KP.out _ (eT XE (Ext.alloc _ _))) (fun _=>?_)
   clear hK K
   try simp only [jP,jJ]
   exact wpAnyH_at (L0_14_15 _ B14 wv.heap.size (eT XE (Ext.alloc wv (.cells [.int .i64 0,.int .i64 0,.int .i64 0].toArray 193))) (r14.out.ext (Ext.alloc wv (.cells [.int .i64 0,.int .i64 0,.int .i64 0].toArray 193))) s14 (Rt.new wv [.int .i64 0,.int .i64 0,.int .i64 0] 193) (Below.size XE) (Nat.ne_of_lt r14.out.lt)) kR kR kR
  have L0_:∀ (wv:World),Hid (Ext w wv)→wpAnyH Tryz.prog .any O Q9 SS 4 #[true,true,true,true,true,true,true,true,true,true,true,true,true,true,false,false,false,false] AA wv:=by
   intro wv hX
   have hO1:=hO.out
   have hQ1:=hQ.out
   have hA1:=hA.out
   subst hO1
   subst hQ1
   subst hA1
   have XE:=hX.out
   try simp only [jP,jJ]
   refine wpAnyH_ready (rs:=[14,15]) kR (by simp) ?_
   refine AllReadyH.cons (o:=_) rfl (fun K hK=>?_) (AllReadyH.cons (o:=_) rfl (fun K hK=>?_) AllReadyH.nil)
   ·skip
    go_simp
    refine hK.out _ _ (KP.out _ (eT XE (Ext.alloc _ _))) (fun _=>?_)
    clear hK K
    try simp only [jP,jJ]
    exact wpAnyH_at (L0_14 _ wv.heap.size (eT XE (Ext.alloc wv (.cells [.int .i64 0,.int .i64 0,.int .i64 0].toArray 193))) (Rt.new wv [.int .i64 0,.int .i64 0,.int .i64 0] 193) (Below.size XE)) kR kR kR
   skip
   go_simp
   refine hK.out _ _ (KP.out _ (eT XE (Ext.alloc _ _))) (fun _=>?_)
   clear hK K
   try simp only [jP,jJ]
   exact wpAnyH_at (L0_15 _ wv.heap.size (eT XE (Ext.alloc wv (.cells [.int .i64 0,.int .i64 0,.int .i64 0].toArray 193))) (Rt.new wv [.int .i64 0,.int .i64 0,.int .i64 0] 193) (Below.size XE)) kR kR kR
  have hO1:=hO.out
  have hQ1:=hQ.out
  have hA1:=hA.out
  subst hO1
  subst hQ1
  subst hA1
  have hS1:=hSS.out
  subst hS1
  exact wpAnyH_at (L0_ w.drew (drew_ext w)) kR kR kR
 case rest=>
  obtain ⟨E,F,rfl,rfl,hX,hE,hF⟩:=hcut
  obtain ⟨u0,u1,u2⟩:=hE.out.c3
  obtain ⟨q0,q1,q2⟩:=hF.out.c3
  rcases Bool.eq_false_or_eq_true (k == 4) with d1 | d1 <;> rcases Bool.eq_false_or_eq_true (y == j) with d2 | d2 <;> rcases Bool.eq_false_or_eq_true (k' == 4) with d3 | d3 <;> rcases Bool.eq_false_or_eq_true (y' == i) with d4 | d4
  all_goals (go_wp2_with fail)
  all_goals exact hR.out _ _ (Gives.mk hX ⟨_,rfl⟩)
end Go.Proofs.YtmlhccajicmpfaaGreat
