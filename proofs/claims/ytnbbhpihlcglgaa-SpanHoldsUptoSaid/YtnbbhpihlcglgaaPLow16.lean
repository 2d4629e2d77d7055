/- attestlaw15.low, One -/
import Derived.Test.YtnbbhpihlcglgaaSq
import Derived.Test.YtnbbhpihlcglgaaPNums
import Derived.Test.YtnbbhpihlcglgaaBq
import Derived.Test.YtnbbhpihlcglgaaOwnN
namespace Go.Proofs.Ytnbbhpihlcglgaa
open Go.RowKit Go.Att

def lowl (m:Nat):List Nat→List Nat
 | []=>[]
 | x :: _=>[x % m]
def oneN (n:NN):NN:=(n.1,lowl 65536 n.2.1,lowl 65536 n.2.2)
set_option linter.unusedSimpArgs false in
set_option maxHeartbeats 4000000 in
theorem low_any {w:World} {v:Value} {xs:List Nat} (hv:RdL w v xs):
  Calls Try.prog 142 #[v,.int .u32 65536] w (Gives w fun v' w'=>OwnL 163 0 w' v' (lowl 65536 xs)):=by
 refine via fun R hR=>?_
 have HV:=Lib.hid hv
 obtain ⟨a,k,rfl,h1,h2,h3,h5⟩:=hv.1.shape
 cases xs with
 | nil=>
  clear hv h5
  go_enter Try.func142,Try.ntmps142
  go_wp2_with fail
  exact hR.out _ _ (Gives.mk (Ext.refl _) ⟨OwnI.nil _ _ _ _,Fit.nil _⟩)
 | cons x xs=>
  obtain ⟨b,off,rfl,hc⟩:=h5 0 (by simp)
  rw [Nat.add_zero,nth_lt _ _ (by simp),List.getElem_cons_zero] at hc
  have hx:x < W32:=hv.2 x List.mem_cons_self
  have he:((((x :: xs).length:Nat):Int) == 0)=false:=beqF (by rw [List.length_cons];omega)
  have hm:Int.tmod (x:Int) 65536=((x % 65536:Nat):Int):=by rw [Int.tmod_eq_emod_of_nonneg (by omega)];omega
  have hf:x % 65536 < W32:=Nat.lt_trans (Nat.mod_lt _ (by decide)) (by decide)
  clear hv h5
  go_enter Try.func142,Try.ntmps142
  go_wp2_with fail
  rw [show (x:Int) % 65536=((x % 65536:Nat):Int) by omega]
  exact hR.out _ _ (Gives.mk (Ext.alloc _ _) ⟨World.ownsRow_lit (base:=0) w #[.int .u32 ((x % 65536:Nat):Int)] 1 (Nat.zero_le _) (by decide) rfl,Fit.one hf⟩)
set_option linter.unusedSimpArgs false in
set_option maxHeartbeats 4000000 in
set_option maxRecDepth 100000 in
theorem one16_own {w:World} {v:Value} {n:NN} (hv:RdNp w v n):
  Calls Try.prog 113 #[v] w (Gives w fun v' w'=>OwnN 163 w' v' (oneN n)):=by
 refine via fun R hR=>?_
 obtain ⟨s,xs,ys⟩:=n
 obtain ⟨y,z,rfl,h1,h2⟩:=hv
 have H1:=Lib.hid h1
 have H2:=Lib.hid h2
 obtain ⟨a,k,rfl,-,-,-,-⟩:=h1.1.shape
 obtain ⟨a',k',rfl,-,-,-,-⟩:=h2.1.shape
 have HL1:Hid (∀ w',Ext w w'→Calls Try.prog 142 #[.slice a xs.length k,.int .u32 65536] w' (Gives w' fun v' w'=>OwnL 163 0 w' v' (lowl 65536 xs))):=fun w' x=>low_any (H1.out.ext x)
 have HL2:Hid (∀ w',Ext w w'→Calls Try.prog 142 #[.slice a' ys.length k',.int .u32 65536] w' (Gives w' fun v' w'=>OwnL 163 0 w' v' (lowl 65536 ys))):=fun w' x=>low_any (H2.out.ext x)
 clear h1 h2 H1 H2
 obtain ⟨w1,hw1,b1,c1,-,-,-,-⟩:=bx2 w [.bool s,.slice a xs.length k,.slice a' ys.length k'] [.bool false,.slice none 0 0,.slice none 0 0] 25 25
 have HW:=Lib.hid hw1
 have C1:=Lib.hid c1
 have R2:Hid (Rt w1 (w.heap.size+1) 3 25):=by
  show Rt _ _ _ _
  rw [hw1]
  have:=Rt.new (w.alloc (.cells #[.bool s,.slice a xs.length k,.slice a' ys.length k'] 25)) [.bool false,.slice none 0 0,.slice none 0 0] 25
  simpa using this
 clear hw1 c1
 generalize xs.length=nx at*
 generalize ys.length=ny at*
 go_enter Try.func113,Try.ntmps113
 go_upto_region 1 with (fail)
 rw [← HW.out]
 clear HW
 have b2:=drew_ext w1
 have XE:=b2
 refine wp_region_noPanic ?_
 refine wp_region_last_drew (st:=9) (S:=fun w'=>w'.cell? ⟨w.heap.size,0,none⟩=some (.bool s)∧w'.cell? ⟨w.heap.size,1,none⟩=some (.slice a nx k)∧w'.cell? ⟨w.heap.size,2,none⟩=some (.slice a' ny k')) (by kernel_rfl) ((C1.out.ext XE).c3) (fun hHeld=>?_)
 refine tkL 0 hHeld ?_
 simp only [jP,jA,jB,jC,jD,jE,jF]
 refine tkL 1 hHeld ?_
 simp only [jP,jA,jB,jC,jD,jE,jF]
 refine tkL 2 hHeld ?_
 simp only [jP,jA,jB,jC,jD,jE,jF]
 refine tkL 3 hHeld ?_
 simp only [jP,jA,jB,jC,jD,jE,jF]
 refine tkL 5 hHeld ?_
 simp only [jP,jA,jB,jC,jD,jE,jF]
 refine tkL 6 hHeld ?_
 simp only [jP,jA,jB,jC,jD,jE,jF]
 refine rdL 4 (by kernel_rfl) rfl (fun K hK=>?_)
 go_simp
 go_at_call 142;refine (HL1.out _ (Ext.trans b1 XE)).mono ?_;rintro e w3 ⟨v3,rfl,b3,o3⟩;have O3:=Lib.hid o3;clear o3;(first | have XE:=Ext.trans XE b3 | have XE:=Ext.trans (Ext.trans XE (Ext.alloc _ _)) b3);obtain ⟨a3,k3,rfl,-,-,-,-⟩:=O3.out.rd.1.shape
 go_wp2_with fail
 refine hK.out _ _ ((C1.out.ext XE).c3) (fun hHeld=>?_)
 clear hK K
 try simp only [jP,jA,jB,jC,jD,jE,jF]
 refine rdL 7 (by kernel_rfl) rfl (fun K hK=>?_)
 go_simp
 go_at_call 142;refine (HL2.out _ (Ext.trans b1 XE)).mono ?_;rintro e w4 ⟨v4,rfl,b4,o4⟩;have O4:=Lib.hid o4;clear o4;(first | have XE:=Ext.trans XE b4 | have XE:=Ext.trans (Ext.trans XE (Ext.alloc _ _)) b4);obtain ⟨a4,k4,rfl,-,-,-,-⟩:=O4.out.rd.1.shape
 go_wp2_with fail
 refine hK.out _ _ ((C1.out.ext XE).c3) (fun hHeld=>?_)
 clear hK K
 try simp only [jP,jA,jB,jC,jD,jE,jF]
 refine tkL 8 hHeld ?_
 simp only [jP,jA,jB,jC,jD,jE,jF]
 obtain ⟨_,_,_,j0,j1,j2,i0,i1,i2⟩:=(R2.out.ext XE).rm.c3
 refine wpAnyL_ready (rs:=[9]) (by kernel_rfl) (by simp) ?_
 refine AllReadyL.last (o:=_) rfl (fun K hK=>?_)
 go_simp
 refine hK.out _ _ ?_
 clear hK K
 try simp only [jP,jA,jB,jC,jD,jE,jF]
 refine wpAnyL_done (by kernel_rfl) ?_ _
 refine NoPanic.normal ?_
 go_wp2_with fail
 refine bodyPost_ret (v:=.agg #[.bool s,.slice a3 (lowl 65536 xs).length k3,.slice a4 (lowl 65536 ys).length k4]) (by simp [results,Try.results113,go_sem,j0,j1,j2]) rfl ?_
 exact hR.out _ _ (Gives.mk (put3_below (Ext.trans b1 XE) (by omega) _ _ _) ⟨_,_,rfl,(O3.out.ext b4).putT (R2.out.ext XE) (by decide) 0 [_,_,_],O4.out.putT (R2.out.ext XE) (by decide) 0 [_,_,_]⟩)
theorem lowl_nv (xs:List Nat):nv ((lowl 65536 xs).take 8) < 65536:=by
 cases xs with
 | nil=>show nv [] < 65536;rw [show nv []=0 from rfl];decide
 | cons x xs=>
  show nv [x % 65536] < 65536
  have:nv [x % 65536]=x % 65536:=by simp [nv,val]
  rw [this];exact Nat.mod_lt _ (by decide)
theorem one_lo (n:NN):(qN (oneN n)).num.natAbs < 65536∧(qN (oneN n)).den < 65536:=by
 have h1:=lowl_nv n.2.1
 have h2:=lowl_nv n.2.2
 have h3:denOf (lowl 65536 n.2.2) < 65536:=by
  unfold denOf
  split
  ·decide
  ·exact h2
 have h4:=denOf_ne (lowl 65536 n.2.2)
 show (qOf n.1 (lowl 65536 n.2.1) (lowl 65536 n.2.2)).num.natAbs < 65536∧(qOf n.1 (lowl 65536 n.2.1) (lowl 65536 n.2.2)).den < 65536
 rw [qOf_eq]
 generalize nv ((lowl 65536 n.2.1).take 8)=a at*
 generalize denOf (lowl 65536 n.2.2)=b at*
 rw [mkQ_num' _ _ _ h4,mkQ_den _ _ _ h4,sg_abs]
 exact ⟨Nat.lt_of_le_of_lt (Nat.div_le_self _ _) h1,Nat.lt_of_le_of_lt (Nat.div_le_self _ _) h3⟩
end Go.Proofs.Ytnbbhpihlcglgaa
