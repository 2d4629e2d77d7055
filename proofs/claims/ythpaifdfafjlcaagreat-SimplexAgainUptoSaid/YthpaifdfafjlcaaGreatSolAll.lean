/- A group of texts: PTabSolve, SxT, SolP, SolW, FindP, Aw21 -/
import Derived.Test.YthpaifdfafjlcaaGreatPTabBuild
import Derived.Test.YthpaifdfafjlcaaGreatPTabMove
import Derived.Test.YthpaifdfafjlcaaGreatPointAll
import Derived.Test.YthpaifdfafjlcaaGreatHelpAll
import Derived.Test.YthpaifdfafjlcaaGreatTabAll
import Derived.Test.YthpaifdfafjlcaaGreatR21All
import Derived.Test.YthpaifdfafjlcaaGreatPCut21
import Derived.Test.YthpaifdfafjlcaaGreatPFarkIn
namespace Go.Proofs.YthpaifdfafjlcaaGreat
open Go.RowKit Go.Att Go.Sx

theorem chk_op {n:Nat} {L:List AT} (h:chkS n L=0):(∀ a∈L,1≤a.2∧a.2≤3)∧(∀ a∈L,∀ t∈a.1.1,0≤t.1∧t.1 < n)∧n≤400∧L.length≤2000:=by
 unfold chkS at h
 split at h
 ·cases h
 ·rename_i h0
  split at h
  ·cases h
  ·split at h
   ·cases h
   ·rename_i h2
    have h3:∀ a∈L,chk a.2=0∧outV n a.1.1=false:=fun a ha=>by
     have h4:¬ ((chk a.2 != 0) || outV n a.1.1)=true:=fun h=>h2 (List.any_eq_true.2 ⟨a,ha,h⟩)
     rw [Bool.or_eq_true,not_or] at h4
     exact ⟨by simpa using h4.1,by simpa using h4.2⟩
    refine ⟨fun a ha=>?_,fun a ha t ht=>?_,by omega,by omega⟩
    ·have:=(h3 a ha).1
     unfold chk at this
     split at this
     ·assumption
     ·cases this
    ·have h5:=(h3 a ha).2
     unfold outV at h5
     have h6:=List.any_eq_false.1 h5 t ht
     simp only [Bool.or_eq_true,decide_eq_true_eq,not_or] at h6
     omega
theorem tame_hi {n0:Nat} {L:List AT} (h:∀ a∈L,Tame a):∀ v,n0≤v→v < n0+L.length→Sz 40 ((bnd n0 L).hA v)∧Sz 40 ((bnd n0 L).hB v):=fun v h1 h2=>by
 obtain ⟨d,d0,hd,-,hc⟩:=h (gt L (v - n0)) (by rw [gt_lt (by omega)];exact List.getElem_mem _)
 refine ⟨?_,?_⟩
 ·show Sz 40 (-(gt L (v - n0)).1.2)
  have h8:2 ^ 131≤Fk (2 ^ 131) 9:=by decide +kernel
  have:=quot_zb (r:=(gt L (v - n0)).1.2) hc hd d0 (Rat.mul_comm _ _)
  exact (Fk9_sz ⟨Nat.le_trans this.1 h8,Nat.le_trans this.2 h8⟩).neg
 ·show Sz 40 (if (gt L (v - n0)).2=2 then -1 else 0)
  split
  ·exact (Sz.int (-1) (by omega)).le (by decide)
  ·exact Sz.zero.le (by decide)
def SolA (n0:Nat) (L:List AT) (f:Bool) (P T:List Rat):Prop:=∃ n s,Run (bnd n0 L) (std0 n0 L) n s∧((f=true∧(∀ r g,¬ Pick (bnd n0 L) s r g)∧P=pts n0 L s∧T=[]∧Sz 250 (ptE n0 L s))∨(f=false∧∃ v g,Pick (bnd n0 L) s v g∧(∀ k,¬ Help (bnd n0 L) s v g k)∧P=[]∧T=tims n0 L s v g))
theorem SolA.uniq {n0:Nat} {L:List AT} {f f':Bool} {P T P' T':List Rat} (h:SolA n0 L f P T) (h':SolA n0 L f' P' T'):f=f'∧P=P'∧T=T':=by
 obtain ⟨n,s,hr,h⟩:=h
 obtain ⟨n',s',hr',h'⟩:=h'
 have he:Go.Sx.Ends (bnd n0 L) s:=fun r g k h1 h2=>by
  rcases h with ⟨-,h,-⟩ | ⟨-,v,g',h3,h4,-⟩
  ·exact h r g h1
  ·obtain ⟨rfl,rfl⟩:=h1.uniq h3
   exact h4 k h2
 have he':Go.Sx.Ends (bnd n0 L) s':=fun r g k h1 h2=>by
  rcases h' with ⟨-,h,-⟩ | ⟨-,v,g',h3,h4,-⟩
  ·exact h r g h1
  ·obtain ⟨rfl,rfl⟩:=h1.uniq h3
   exact h4 k h2
 obtain rfl:=hr.end_uniq hr' he he'
 rcases h with ⟨rfl,h1,rfl,rfl,-⟩ | ⟨rfl,v,g,h1,h2,rfl,rfl⟩
 ·rcases h' with ⟨rfl,h3,rfl,rfl,-⟩ | ⟨rfl,v',g',h3,h4,rfl,rfl⟩
  ·exact ⟨rfl,rfl,rfl⟩
  ·exact absurd h3 (h1 _ _)
 ·rcases h' with ⟨rfl,h3,rfl,rfl,-⟩ | ⟨rfl,v',g',h3,h4,rfl,rfl⟩
  ·exact absurd h1 (h3 _ _)
  ·obtain ⟨rfl,rfl⟩:=h1.uniq h3
   exact ⟨rfl,rfl,rfl⟩
def SolV (n0:Nat) (L:List AT) (B:Nat) (w:World) (v:Value):Prop:=∃ f vp vt P T,v=.tuple #[.agg #[.bool f,vp,vt],.int .i64 0]∧OwnRow 3 (OwnQp 115) 49 B w vp P∧OwnRow 3 (OwnQp 115) 49 B w vt T∧SolA n0 L f P T
def Sta (w0:World) (bt n0:Nat) (L:List AT) (al:Option Addr) (kl gv:Nat) (n:Nat) (w:World):Prop:=∃ s bas row gs ks ab ar aa ah kb kr ka kv kh,Run (bnd n0 L) (std0 n0 L) n s∧Ix n0 L.length s bas row∧
 TabO w0 w bt n0 L (fun i=>s.D.A (bas i)) s.a s.b bas row gs ks al ab ar aa (some ⟨gv,0,none⟩) ah kl kb kr ka kv kh
noncomputable def stm (w0:World) (bt n0:Nat) (L:List AT) (al:Option Addr) (kl gv:Nat) (w:World):Nat:=leastN fun m=>∃ n,Sta w0 bt n0 L al kl gv n w∧m=2 ^ (n0+L.length) - n
theorem sta_least {w0 w:World} {bt n0:Nat} {L:List AT} {al:Option Addr} {kl gv:Nat} (h:∃ n,Sta w0 bt n0 L al kl gv n w):∃ n,Sta w0 bt n0 L al kl gv n w∧stm w0 bt n0 L al kl gv w=2 ^ (n0+L.length) - n:=by
 obtain ⟨n,h⟩:=h
 exact (leastN_spec (p:=fun m=>∃ n,Sta w0 bt n0 L al kl gv n w∧m=2 ^ (n0+L.length) - n) ⟨_,n,h,rfl⟩).1
theorem sta_le {w0 w:World} {bt n0:Nat} {L:List AT} {al:Option Addr} {kl gv n:Nat} (h:Sta w0 bt n0 L al kl gv n w):stm w0 bt n0 L al kl gv w≤2 ^ (n0+L.length) - n:=
 (leastN_spec (p:=fun m=>∃ n,Sta w0 bt n0 L al kl gv n w∧m=2 ^ (n0+L.length) - n) ⟨_,n,h,rfl⟩).2 _ ⟨n,h,rfl⟩
structure Rnd (w0 w:World) (bt n0:Nat) (L:List AT) (al:Option Addr) (kl gv n:Nat):Prop where
 bro:∀ w',Ext w w'→Calls Tryz.prog 35 #[.pointer (some ⟨bt,0,none⟩)] w' (Gives w' fun v' _=>∃ s,Run (bnd n0 L) (std0 n0 L) n s∧BroR (bnd n0 L) s v')
 poi:∀ w' s,Ext w w'→Run (bnd n0 L) (std0 n0 L) n s→(∀ r g,¬ Pick (bnd n0 L) s r g)→Calls Tryz.prog 36 #[.pointer (some ⟨bt,0,none⟩)] w' (Gives w' fun v' w''=>OwnRow 3 (OwnQp 115) 49 w'.heap.size w'' v' (pts n0 L s)∧Sz 250 (ptE n0 L s))
 hel:∀ w' s v g,Ext w w'→Run (bnd n0 L) (std0 n0 L) n s→Pick (bnd n0 L) s v g→Calls Tryz.prog 37 #[.pointer (some ⟨bt,0,none⟩),.int .i64 v,.bool g] w' (Gives w' fun v' _=>(∃ k,v'=.int .i64 ((k:Nat):Int)∧Help (bnd n0 L) s v g k)∨(v'=.int .i64 (-1)∧∀ k,¬ Help (bnd n0 L) s v g k))
 why:∀ w' s v g,Ext w w'→Run (bnd n0 L) (std0 n0 L) n s→Pick (bnd n0 L) s v g→Calls Tryz.prog 38 #[.pointer (some ⟨bt,0,none⟩),.int .i64 v,.bool g] w' (Gives w' fun v' w''=>OwnRow 3 (OwnQp 115) 49 w'.heap.size w'' v' (tims n0 L s v g))
 mov:∀ w' s v g k,Ext w w'→Run (bnd n0 L) (std0 n0 L) n s→Pick (bnd n0 L) s v g→Help (bnd n0 L) s v g k→Calls Tryz.prog 39 #[.pointer (some ⟨bt,0,none⟩),.int .i64 v,.int .i64 k] w' (fun e w''=>e=.returned (.tuple #[])∧Sta w0 bt n0 L al kl gv (n+1) w'')
theorem rnd_any {w0 w:World} {bt n0:Nat} {L:List AT} {al:Option Addr} {kl gv n:Nat} (h:Sta w0 bt n0 L al kl gv n w) (ht:∀ a∈L,Tame a) (hm:L.length≤8∨n0≤8) (hn:n0+L.length≤100000):Rnd w0 w bt n0 L al kl gv n:=by
 obtain ⟨s,bas,row,gs,ks,ab,ar,aa,ah,kb,kr,ka,kv,kh,hr,hx,hT⟩:=h
 obtain ⟨zA,zv⟩:=run_small ht hm hr
 have zh:=tame_hi (n0:=n0) ht
 obtain ⟨hok,hsol,-⟩:=hr.ok (std0_ok n0 L)
 have zv':∀ v,v < n0+L.length→Sz 100 (s.a v)∧Sz 100 (s.b v):=fun v hv=>⟨(zv v hv).1.le (by decide),(zv v hv).2.le (by decide)⟩
 have zh':∀ v,n0≤v→v < n0+L.length→Sz 100 ((bnd n0 L).hA v)∧Sz 100 ((bnd n0 L).hB v):=fun v h1 h2=>⟨(zh v h1 h2).1.le (by decide),(zh v h1 h2).2.le (by decide)⟩
 refine ⟨fun w' x=>?_,fun w' t x h1 h2=>?_,fun w' t v g x h1 h2=>?_,fun w' t v g x h1 h2=>?_,fun w' t v g k x h1 h2 h3=>?_⟩
 ·exact (broken_any (hT.ext x).rd hx hn zv' zh').mono fun _ _ ⟨v,e,b,o⟩=>⟨v,e,b,s,hr,o⟩
 ·obtain rfl:=hr.det h1
  exact (tpoint_any (hT.ext x).rd hok h2 hn zv zh)
 ·obtain rfl:=hr.det h1
  exact helper_any (hT.ext x).rd hx hok hn zv' zh' h2.hrN h2.br
 ·obtain rfl:=hr.det h1
  exact why_any (hT.ext x).rd hx hok hn h2.hr h2.hrN h2.br fun j hj=>(zA v j h2.hrN h2.br hj).le (by decide)
 ·obtain rfl:=hr.det h1
  refine (move_any (hT.ext x) hx hn (fun v j hv bv hj=>(zA v j hv bv hj).le (by decide)) zv' zh' h2 h3).mono fun _ _ ⟨e,gs',ks',hT'⟩=>⟨e,mv (bnd n0 L) s v k,_,_,gs',ks',_,_,_,_,_,_,_,_,_,hr.step h2 h3,ix_mv hx h2.hrN h3.hk h2.br h3.bk,hT'⟩
set_option linter.unusedSimpArgs false in
set_option maxHeartbeats 4000000 in
set_option maxRecDepth 100000 in
theorem solve_no {w:World} {v:Value} {L:List AT} {n:Int} (hv:RdRow 5 OwnA w v L) (ht:∀ a∈L,a.1.1.length≤100000) (hc:chkS n L≠0):
  Calls Tryz.prog 14 #[.int .i64 n,v] w (Gives w fun v' _=>v'=.tuple #[.agg #[.bool false,.slice none 0 0,.slice none 0 0],.int .i64 (chkS n L)]):=by
 refine via fun R hR=>?_
 obtain ⟨a,k,rfl,-,-⟩:=hv.shape
 have HCK:Hid (∀ w',Ext w w'→Calls Tryz.prog 9 #[.int .i64 n,.slice a L.length k] w' (Gives w' fun v' _=>v'=.int .i64 (chkS n L))):=fun w' X=>scheck21_any (hv.ext OwnAt.ext X) ht
 obtain ⟨w1,hw1,b1,c1,r1,-⟩:=bx1 w [.bool false,.slice none 0 0,.slice none 0 0] 35
 have R1:=Lib.hid r1
 have HW:=Lib.hid hw1
 have hb:(chkS n L != 0)=true:=bneT hc
 clear hv ht hw1 c1 r1 hc
 generalize chkS n L=c at*
 go_enter Tryz.func14,Tryz.ntmps14
 go_upto_region 1 with (fail)
 rw [← HW.out]
 clear HW
 go_wp2_with fail
 refine (HCK.out _ b1).mono ?_
 rintro e w2 ⟨_,rfl,b2,rfl⟩
 obtain ⟨_,_,_,j0,j1,j2,i0,i1,i2⟩:=(Rm.ext R1.out b2).c3
 go_wp2_with fail
 refine bodyPost_ret (v:=.tuple #[.agg #[.bool false,.slice none 0 0,.slice none 0 0],.int .i64 c]) (by simp [results,Tryz.results14,go_sem,j0,j1,j2]) rfl ?_
 exact hR.out _ _ (Gives.mk (put3_below (Ext.trans b1 b2) (Nat.le_refl _) _ _ _) rfl)
set_option linter.unusedSimpArgs false in
set_option maxHeartbeats 8000000 in
set_option maxRecDepth 100000 in
theorem solve_any {w:World} {v:Value} {L:List AT} {n0:Nat} (hv:RdRow 5 OwnA w v L) (hs:∀ a∈L,a.1.1.length≤1000∧∀ t∈a.1.1,Sz 5000 t.2) (hc:chkS n0 L=0) (ht:∀ a∈L,Tame a) (hm:L.length≤8∨n0≤8):
  Calls Tryz.prog 14 #[.int .i64 n0,v] w (Gives w fun v' w'=>SolV n0 L w.heap.size w' v'):=by
 refine via fun R hR=>?_
 obtain ⟨hop,hvars,hn1,hn2⟩:=chk_op hc
 obtain ⟨al,kl,rfl,-,-⟩:=hv.shape
 have HCK:Hid (∀ w',Ext w w'→Calls Tryz.prog 9 #[.int .i64 n0,.slice al L.length kl] w' (Gives w' fun v' _=>v'=.int .i64 0)):=fun w' X=>by
  have:=scheck21_any (n:=n0) (hv.ext OwnAt.ext X) fun a ha=>by have:=(hs a ha).1;omega
  rw [hc] at this
  exact this
 have HBU:Hid (∀ w',Ext w w'→Calls Tryz.prog 34 #[.int .i64 n0,.slice al L.length kl] w' (Gives w' fun v' w''=>∃ bt gv,v'=.pointer (some ⟨bt,0,none⟩)∧Ext w' w''∧Sta w' bt n0 L al kl gv 0 w'')):=fun w' X=>
  (build_any (hv.ext OwnAt.ext X) hs hvars (by omega)).mono fun _ _ ⟨v,e,b,bt,gs,ks,ab,ar,aa,gv,ah,kb,kr,ka,kv,kh,h1,h2⟩=>⟨v,e,b,bt,gv,h1,b,std0 n0 L,_,_,gs,ks,ab,ar,aa,ah,kb,kr,ka,kv,kh,.start,ix_start n0 L,h2⟩
 have HST:Hid (∀ w0 bt gv n w,Sta w0 bt n0 L al kl gv n w→Ext w0 w∧n < 2 ^ (n0+L.length)∧Rnd w0 w bt n0 L al kl gv n):=fun w0 bt gv n w h=>by
  have h':=h
  obtain ⟨s,bas,row,gs,ks,ab,ar,aa,ah,kb,kr,ka,kv,kh,hr,hx,hT⟩:=h'
  exact ⟨hT.x0,hr.few (std0_ok n0 L),rnd_any h ht hm (by omega)⟩
 have HP1:Hid (∀ n s,Run (bnd n0 L) (std0 n0 L) n s→(∀ r g,¬ Pick (bnd n0 L) s r g)→Sz 250 (ptE n0 L s)→SolA n0 L true (pts n0 L s) []):=fun n s h1 h2 h3=>⟨n,s,h1,.inl ⟨rfl,h2,rfl,rfl,h3⟩⟩
 have HP2:Hid (∀ n s v g,Run (bnd n0 L) (std0 n0 L) n s→Pick (bnd n0 L) s v g→(∀ k,¬ Help (bnd n0 L) s v g k)→SolA n0 L false [] (tims n0 L s v g)):=fun n s v g h1 h2 h3=>⟨n,s,h1,.inr ⟨rfl,v,g,h2,h3,rfl,rfl⟩⟩
 obtain ⟨w1,hw1,b1,c1,r1,-⟩:=bx1 w [.bool false,.slice none 0 0,.slice none 0 0] 35
 have R1:Hid (Rt w1 w.heap.size 3 35):=by
  show Rt _ _ _ _
  rw [hw1]
  exact Rt.new w [.bool false,.slice none 0 0,.slice none 0 0] _
 have HW:=Lib.hid hw1
 clear hv hs hc ht hm hop hvars hn1 hn2 hw1 c1 r1
 go_enter Tryz.func14,Tryz.ntmps14
 go_upto_region 1 with (fail)
 rw [← HW.out]
 clear HW
 go_wp2_with fail
 refine (HCK.out _ b1).mono ?_
 rintro e w2 ⟨_,rfl,b2,rfl⟩
 go_wp2_with fail
 refine (HBU.out _ (Ext.trans b1 b2)).mono ?_
 rintro e w3 ⟨_,rfl,b3,bt,gv,rfl,-,hsta⟩
 have R3:=Lib.hid (R1.out.ext (Ext.trans b2 b3))
 have ST:=Lib.hid hsta
 have X3:=Lib.hid (Ext.trans b1 (Ext.trans b2 b3))
 have hx2:=Ext.trans b1 b2
 have R2:=Lib.hid (R1.out.ext b2)
 clear hsta HCK HBU R1 R3 X3 b1 b2 b3
 go_wp2_with fail
 go_loopw [5] (fun t wr=>t=.int .i64 0∧∃ n,Hid (Sta w2 bt n0 L al kl gv n wr)) (fun _ wr=>stm w2 bt n0 L al kl gv wr)
 case atStart=>exact ⟨rfl,0,ST.out⟩
 case round=>
  obtain ⟨rfl,hex⟩:=hrel
  obtain ⟨n,hsta,hle⟩:=sta_least hex
  obtain ⟨h0,hnl,hrd⟩:=HST.out _ _ _ _ _ hsta
  have hxr:=Ext.trans hx2 h0
  have RA:=Lib.hid (R2.out.ext h0)
  have HRD:=Lib.hid hrd
  have HLE:=Lib.hid hle
  have HNL:=Lib.hid hnl
  clear hex hsta hle hnl hrd h0 ST
  go_wp2_with fail
  refine (HRD.out.bro _ (Ext.refl _)).mono ?_
  rintro e w4 ⟨_,rfl,b4,s,hrun,hbr⟩
  have HRN:=Lib.hid hrun
  clear hrun
  rcases hbr with ⟨r,g,rfl,hp⟩ | ⟨rfl,hno⟩
  ·have HP:=Lib.hid hp
   have hd:decide ((r:Int) < 0)=false:=decide_eq_false (by omega)
   clear hp
   go_wp2_with fail
   refine (HRD.out.hel _ s r g b4 HRN.out HP.out).mono ?_
   rintro e w5 ⟨_,rfl,b5,hh⟩
   rcases hh with ⟨k,rfl,hk⟩ | ⟨rfl,hk⟩
   ·have HK:=Lib.hid hk
    have hdk:decide ((k:Int) < 0)=false:=decide_eq_false (by omega)
    clear hk
    go_wp2_with fail
    refine (HRD.out.mov _ s r g k (Ext.trans b4 b5) HRN.out HP.out HK.out).mono ?_
    rintro e w6 ⟨rfl,hs6⟩
    have HS6:=Lib.hid hs6
    clear hs6
    go_wp2_with fail
    go_roundw
    case rel=>exact ⟨rfl,n+1,HS6⟩
    case measure=>
     have h1:=sta_le HS6.out
     have h2:=HLE.out
     have h3:=HNL.out
     omega
   ·have HK:=Lib.hid hk
    have HSA:=Lib.hid (HP2.out n s r g HRN.out HP.out hk)
    clear hk
    go_wp2_with fail
    refine (HRD.out.why _ s r g (Ext.trans b4 b5) HRN.out HP.out).mono ?_
    rintro e w6 ⟨v6,rfl,b6,o6⟩
    have x6:=Ext.trans b4 (Ext.trans b5 b6)
    have O6:=Lib.hid (o6.mono (Below.size (Ext.trans hxr (Ext.trans b4 b5))))
    have R6:=Lib.hid (RA.out.ext x6)
    have X6:=Lib.hid (Ext.trans hxr x6)
    obtain ⟨a6,k6,rfl,-,-⟩:=o6.rd.shape
    clear o6 RA x6
    generalize tims n0 L s r g=T at*
    obtain ⟨l6,hl6⟩:∃ l,l=T.length:=⟨_,rfl⟩
    rw [← hl6] at O6 ⊢
    clear hl6
    obtain ⟨_,_,_,j0,j1,j2,i0,i1,i2⟩:=R6.out.rm.c3
    go_wp2_with fail
    refine bodyPost_ret (v:=.tuple #[.agg #[.bool false,.slice none 0 0,.slice a6 l6 k6],.int .i64 0]) (by simp [results,Tryz.results14,go_sem,j0,j1,j2]) rfl ?_
    exact hR.out _ _ (Gives.mk (put3_below X6.out (Nat.le_refl _) _ _ _) ⟨false,_,_,[],T,rfl,OwnRow.nil _ _ _,O6.out.putT R6.out (by decide) 0 [_,_,_] (fun _ _ h=>OwnQ.putT h R6.out (by decide) 0 [_,_,_]),HSA.out⟩)
  ·have HNO:=Lib.hid hno
   clear hno
   go_wp2_with fail
   refine (HRD.out.poi _ s b4 HRN.out HNO.out).mono ?_
   rintro e w6 ⟨v6,rfl,b6,o6,hze⟩
   have HSA:=Lib.hid (HP1.out n s HRN.out HNO.out hze)
   clear hze
   have x6:=Ext.trans b4 b6
   have O6:=Lib.hid (o6.mono (Below.size (Ext.trans hxr b4)))
   have R6:=Lib.hid (RA.out.ext x6)
   have X6:=Lib.hid (Ext.trans hxr x6)
   obtain ⟨a6,k6,rfl,-,-⟩:=o6.rd.shape
   clear o6 RA x6
   generalize pts n0 L s=T at*
   obtain ⟨l6,hl6⟩:∃ l,l=T.length:=⟨_,rfl⟩
   rw [← hl6] at O6 ⊢
   clear hl6
   obtain ⟨_,_,_,j0,j1,j2,i0,i1,i2⟩:=R6.out.rm.c3
   go_wp2_with fail
   refine bodyPost_ret (v:=.tuple #[.agg #[.bool true,.slice a6 l6 k6,.slice none 0 0],.int .i64 0]) (by simp [results,Tryz.results14,go_sem,j0,j1,j2]) rfl ?_
   exact hR.out _ _ (Gives.mk (put3_below X6.out (Nat.le_refl _) _ _ _) ⟨true,_,_,T,[],rfl,O6.out.putT R6.out (by decide) 0 [_,_,_] (fun _ _ h=>OwnQ.putT h R6.out (by decide) 0 [_,_,_]),OwnRow.nil _ _ _,HSA.out⟩)
open Go.RowKit Go.Att Go.Sx

def Lo16 (q:Rat):Prop:=q.num.natAbs < 65536∧q.den < 65536
theorem den_num (q:Rat):((q.den:Int):Rat)*q=((q.num:Int):Rat):=by
 have h0:((q.den:Int):Rat)≠0:=fun h=>q.den_nz (by exact_mod_cast h)
 have e:(q.num:Rat) / ((q.den:Int):Rat)=q:=by rw [← Rat.divInt_eq_div];exact Rat.num_divInt_den q
 generalize ((q.den:Int):Rat)=d at*
 generalize ((q.num:Int):Rat)=n at*
 rw [← e,Rat.div_def,Rat.mul_comm,Rat.mul_assoc,Rat.inv_mul_cancel _ h0,Rat.mul_one]
theorem den_zb {q:Rat} (h:Lo16 q):Zb 65536 ((q.den:Int):Rat):=⟨_,rfl,by rw [Int.natAbs_natCast];exact Nat.le_of_lt h.2⟩
theorem num_zb {q:Rat} (h:Lo16 q):Zb 65536 (((q.den:Int):Rat)*q):=by rw [den_num];exact ⟨_,rfl,Nat.le_of_lt h.1⟩
theorem den_ne (q:Rat):((q.den:Int):Rat)≠0:=fun h=>q.den_nz (by exact_mod_cast h)
def dprod:TL→Rat
 | []=>1
 | t :: l=>((t.2.den:Int):Rat)*dprod l
theorem dprod_ne:∀ l:TL,dprod l≠0
 | []=>by show (1:Rat)≠0;decide
 | t :: l=>fun h=>by
  rcases Rat.mul_eq_zero.1 h with h | h
  ·exact den_ne _ h
  ·exact dprod_ne l h
theorem dprod_zb:∀ {l:TL},(∀ t∈l,Lo16 t.2)→Zb (65536 ^ l.length) (dprod l)
 | [],_=>⟨1,by rfl,Nat.le_refl 1⟩
 | t :: l,h=>by
  rw [List.length_cons,Nat.pow_succ,Nat.mul_comm]
  exact (den_zb (h t List.mem_cons_self)).mul (dprod_zb fun y hy=>h y (List.mem_cons_of_mem _ hy))
theorem cf_zb:∀ {l:TL},(∀ t∈l,Lo16 t.2)→∀ x,Zb (l.length*65536 ^ l.length) (dprod l*cf l x)
 | [],_,x=>by show Zb _ ((1:Rat)*0);rw [Rat.mul_zero];exact Zb.zero _
 | t :: l,h,x=>by
  have h1:=h t List.mem_cons_self
  have ih:=cf_zb (l:=l) (fun y hy=>h y (List.mem_cons_of_mem _ hy)) x
  have hd:=dprod_zb (l:=l) fun y hy=>h y (List.mem_cons_of_mem _ hy)
  have e:dprod (t :: l)*cf (t :: l) x=(((t.2.den:Int):Rat)*if t.1=x then t.2 else 0)*dprod l+((t.2.den:Int):Rat)*(dprod l*cf l x):=by
   show (((t.2.den:Int):Rat)*dprod l)*((if t.1=x then t.2 else 0)+cf l x)=_
   grind
  rw [e]
  have h2:Zb 65536 (((t.2.den:Int):Rat)*if t.1=x then t.2 else 0):=by
   split
   ·exact num_zb h1
   ·rw [Rat.mul_zero];exact Zb.zero _
  refine ((h2.mul hd).add ((den_zb h1).mul ih)).mono ?_
  rw [List.length_cons,Nat.pow_succ]
  generalize 65536 ^ l.length=p
  generalize l.length=n
  rw [Nat.succ_mul n (p*65536)]
  have e3:65536*(n*p)=n*(p*65536):=by rw [← Nat.mul_assoc,Nat.mul_comm 65536 n,Nat.mul_assoc,Nat.mul_comm 65536 p]
  omega
theorem tame_of {l:TL} {c:Rat} {op:Int} (hl:l.length≤6) (h:∀ t∈l,Lo16 t.2) (hc:Lo16 c):Tame ((l,c),op):=by
 have hp:65536 ^ l.length≤65536 ^ 6:=Nat.pow_le_pow_right (by decide) hl
 have hq:l.length*65536 ^ l.length≤6*65536 ^ 6:=Nat.mul_le_mul hl hp
 have h1:((dprod l)*((c.den:Int):Rat))≠0:=fun h=>by
  rcases Rat.mul_eq_zero.1 h with h | h
  ·exact dprod_ne _ h
  ·exact den_ne _ h
 refine ⟨dprod l*((c.den:Int):Rat),h1,((dprod_zb h).mul (den_zb hc)).mono ?_,fun x=>?_,?_⟩
 ·exact Nat.le_trans (Nat.mul_le_mul_right _ hp) (by decide)
 ·rw [show dprod l*((c.den:Int):Rat)*cf l x=(dprod l*cf l x)*((c.den:Int):Rat) by grind]
  exact ((cf_zb h x).mul (den_zb hc)).mono (Nat.le_trans (Nat.mul_le_mul_right _ hq) (by decide))
 ·rw [Rat.mul_assoc]
  exact ((dprod_zb h).mul (num_zb hc)).mono (Nat.le_trans (Nat.mul_le_mul_right _ hp) (by decide))
theorem tame_neg {l m:TL} {c:Rat} {op op':Int} (h:Tame ((l,c),op)) (hm:∀ x,cf m x = -1*cf l x):Tame ((m,-1*c),op'):=by
 obtain ⟨d,h1,h2,h3,h4⟩:=h
 refine ⟨d,h1,h2,fun x=>?_,?_⟩
 ·show Zb _ (d*cf m x)
  rw [hm,show d*(-1*cf l x) = -(d*cf l x) by grind];exact (h3 x).neg
 ·show Zb _ (d*(-1*c))
  rw [show d*(-1*c) = -(d*c) by grind];exact Zb.neg h4
open Go.RowKit Go.Att Go.Sx

theorem tv_sz {l:TL} {P:List Rat} {K M:Nat} (hl:∀ t∈l,Sz K t.2) (hP:∀ p∈P,Sz M p):Sz (l.length*(K+M+1)+1) (tv P l):=by
 induction l with
 | nil=>exact Sz.zero.le (by omega)
 | cons t l ih=>
  have h1:=ih fun u hu=>hl u (List.mem_cons_of_mem _ hu)
  have h2:Sz (K+M) (tmv P t):=by
   unfold tmv
   split
   ·rename_i h
    exact (hl t List.mem_cons_self).mul (hP _ (gt_mem' (by omega)))
   ·have:=(hl t List.mem_cons_self).1
    by_cases e:K+M=0
    ·obtain ⟨h3,h4⟩:=hl t List.mem_cons_self
     have h5:(limbs t.2.den).length≠0:=fun h=>by
      have h6:=limbs_len t.2.den 0
      have h7:=h6.1 (by omega)
      have:=t.2.den_nz
      simp at h7
      omega
     omega
    ·exact Sz.zero.le (by omega)
  show Sz _ (tmv P t+tv P l)
  rw [List.length_cons,Nat.succ_mul]
  exact (h2.add h1).le (by omega)
theorem tv_lin (n:Nat) (a b:Nat→Rat) (e:Rat) (l:TL):tv (tab n fun j=>a j+b j*e) l=tv (tab n a) l+e*tv (tab n b) l:=by
 induction l with
 | nil=>show (0:Rat)=0+e*0;rw [Rat.mul_zero,Rat.add_zero]
 | cons t l ih=>
  show tmv _ t+tv _ l=(tmv _ t+tv _ l)+e*(tmv _ t+tv _ l)
  rw [ih]
  have:tmv (tab n fun j=>a j+b j*e) t=tmv (tab n a) t+e*tmv (tab n b) t:=by
   unfold tmv
   simp only [tab_len]
   by_cases h:0≤t.1∧t.1 < (n:Int)
   ·rw [if_pos h,if_pos h,if_pos h,tab_gt (by omega),tab_gt (by omega),tab_gt (by omega)]
    grind
   ·rw [if_neg h,if_neg h,if_neg h];grind
  rw [this]
  grind
theorem tab_takeJ {α:Type} {n j:Nat} (h:j≤n) (f:Nat→α):(tab n f).take j=tab j f:=by
 refine List.ext_getElem (by rw [List.length_take,tab_len,tab_len];omega) fun i h1 h2=>?_
 rw [List.getElem_take,tab_get,tab_get]
theorem pts_sz {n0 n:Nat} {L:List AT} {s:Stand} (ht:∀ a∈L,Tame a) (hm:L.length≤8∨n0≤8) (hr:Run (bnd n0 L) (std0 n0 L) n s) (he:Sz 250 (ptE n0 L s)):
  (∀ p∈pts n0 L s,Sz 400 p)∧∀ a∈L,Smx a.1.1 a.1.2→∀ j,j≤(pts n0 L s).length→Sz 1500 (a.1.2+smv (cf a.1.1) ((pts n0 L s).take j) 0):=by
 obtain ⟨-,zv⟩:=run_small ht hm hr
 refine ⟨fun p hp=>?_,fun a ha hs j hj=>?_⟩
 ·unfold pts at hp
  obtain ⟨i,hi,rfl⟩:=List.mem_map.1 hp
  rw [List.mem_range] at hi
  have:=zv i (by omega)
  exact (this.1.add (this.2.mul he)).le (by decide)
 ·unfold pts at hj ⊢
  rw [tab_len] at hj
  rw [tab_takeJ hj,← tv_smv,tv_lin]
  have h1:∀ p∈tab j s.a,Sz 40 p:=fun p hp=>by
   obtain ⟨i,hi,rfl⟩:=List.mem_map.1 hp
   rw [List.mem_range] at hi
   exact (zv i (by omega)).1
  have h2:∀ p∈tab j s.b,Sz 40 p:=fun p hp=>by
   obtain ⟨i,hi,rfl⟩:=List.mem_map.1 hp
   rw [List.mem_range] at hi
   exact (zv i (by omega)).2
  have h3:=tv_sz hs.2.1 h1
  have h4:=tv_sz hs.2.1 h2
  have hl:=hs.1
  exact (hs.2.2.add (h3.add (he.mul h4))).le (by omega)
theorem tims_sz {n0 n:Nat} {L:List AT} {s:Stand} {v:Nat} {g:Bool} (ht:∀ a∈L,Tame a) (hm:L.length≤8∨n0≤8) (hr:Run (bnd n0 L) (std0 n0 L) n s) (hp:Pick (bnd n0 L) s v g):∀ p∈tims n0 L s v g,Sz 45 p:=fun p hp'=>by
 obtain ⟨zA,-⟩:=run_small ht hm hr
 unfold tims at hp'
 obtain ⟨i,hi,rfl⟩:=List.mem_map.1 hp'
 rw [List.mem_range] at hi
 have h1:=zA v (n0+i) hp.hrN hp.br (by omega)
 have hs1:Sz 2 (1:Rat):=Sz.int 1 (by omega)
 have hsm:Sz 2 (-1:Rat):=Sz.int (-1) (by omega)
 have h2:Sz 2 (if g=true then (1:Rat) else -1):=by split;exact hs1;exact hsm
 have h3:Sz 2 (if n0+i=v then (1:Rat) else 0):=by split;exact hs1;exact Sz.zero.le (by decide)
 exact (h2.mul (h3.sub h1)).le (by decide)
theorem tzp_of {L:List AT} {T:List Rat} (hL:∀ a∈L,Smx a.1.1 a.1.2) (hT:∀ p∈T,Sz 45 p) (hn:L.length≤8):TzP L T:=by
 have hl:∀ j,((L.zip T).take j).length≤8:=fun j=>by rw [List.length_take,List.length_zip];omega
 have hz:∀ j,∀ z∈(L.zip T).take j,Smx z.1.1.1 z.1.1.2∧Sz 45 z.2:=fun j z hz=>by
  have h:=List.mem_of_mem_take hz
  exact ⟨hL _ (List.of_mem_zip h).1,hT _ (List.of_mem_zip h).2⟩
 have k1:∀ {l:List AZ},(∀ z∈l,Smx z.1.1.1 z.1.1.2∧Sz 45 z.2)→∀ x,Sz (l.length*155+1) (fcf l x):=by
  intro l h x
  induction l with
  | nil=>exact Sz.zero
  | cons z l ih=>
   have h1:=h z List.mem_cons_self
   refine ((h1.2.mul (h1.1.cf x)).add (ih fun y hy=>h y (List.mem_cons_of_mem _ hy))).le ?_
   simp only [List.length_cons]
   omega
 have k2:∀ {l:List AZ},(∀ z∈l,Smx z.1.1.1 z.1.1.2∧Sz 45 z.2)→Sz (l.length*55+1) (fct l):=by
  intro l h
  induction l with
  | nil=>exact Sz.zero
  | cons z l ih=>
   have h1:=h z List.mem_cons_self
   refine ((h1.2.mul h1.1.2.2).add (ih fun y hy=>h y (List.mem_cons_of_mem _ hy))).le ?_
   simp only [List.length_cons]
   omega
 exact ⟨hL,fun p hp=>(hT p hp).le (by decide),fun j x=>(k1 (hz j) x).le (by have:=hl j;omega),fun j=>(k2 (hz j)).le (by have:=hl j;omega)⟩
theorem sol_yes {n0:Nat} {L:List AT} {P T:List Rat} (hc:chkS n0 L=0) (h:SolA n0 L true P T):T=[]∧P.length=n0∧∀ a∈L,says a.2 (av P a)=true:=by
 obtain ⟨hop,hvars,-,-⟩:=chk_op hc
 obtain ⟨n,s,hr,h⟩:=h
 rcases h with ⟨-,hno,rfl,rfl,-⟩ | ⟨h,-⟩
 ·obtain ⟨hok,-,-⟩:=hr.ok (std0_ok n0 L)
  obtain ⟨-,he,hle⟩:=pt_cho hok hno
  have hl:(pts n0 L s).length=n0:=by unfold pts;rw [tab_len]
  refine ⟨rfl,hl,?_⟩
  exact point_holds hr hop hno he hle hl fun j hj=>by
   unfold pts
   rw [tab_gt hj]
   grind
 ·cases h
theorem sol_no {n0:Nat} {L:List AT} {P T:List Rat} (hc:chkS n0 L=0) (h:SolA n0 L false P T):P=[]∧L.length=T.length∧RefD L T∧(∀ z∈L.zip T,fbad z=false)∧∀ Q:List Rat,¬ ∀ a∈L,says a.2 (av Q a)=true:=by
 obtain ⟨hop,hvars,-,-⟩:=chk_op hc
 obtain ⟨n,s,hr,h⟩:=h
 rcases h with ⟨h,-⟩ | ⟨-,v,g,hp,hh,rfl,rfl⟩
 ·cases h
 ·obtain ⟨h1,h2,h3⟩:=times_refute hr hop hvars hp hh
  have hl:L.length=(tims n0 L s v g).length:=by unfold tims;rw [tab_len]
  exact ⟨rfl,hl,⟨h1,h2⟩,h3,fun Q hQ=>refuted_no (P:=Q) hl h1 h2 h3 fun a ha=>⟨hQ a ha,hop a ha⟩⟩
theorem sol_sz {n0:Nat} {L:List AT} {f:Bool} {P T:List Rat} (ht:∀ a∈L,Tame a) (hm:L.length≤8∨n0≤8) (h:SolA n0 L f P T):(∀ p∈P,Sz 400 p)∧∀ p∈T,Sz 45 p:=by
 obtain ⟨n,s,hr,h⟩:=h
 rcases h with ⟨-,hno,rfl,rfl,he⟩ | ⟨-,v,g,hp,hh,rfl,rfl⟩
 ·exact ⟨(pts_sz ht hm hr he).1,fun p hp=>by cases hp⟩
 ·exact ⟨fun p hp=>(by cases hp),tims_sz ht hm hr hp⟩
theorem sol_len {n0:Nat} {L:List AT} {f:Bool} {P T:List Rat} (h:SolA n0 L f P T):P.length≤n0∧T.length≤L.length:=by
 obtain ⟨n,s,hr,h⟩:=h
 rcases h with ⟨-,hno,rfl,rfl,he⟩ | ⟨-,v,g,hp,hh,rfl,rfl⟩
 ·exact ⟨by unfold pts;rw [tab_len];exact Nat.le_refl _,Nat.zero_le _⟩
 ·exact ⟨Nat.zero_le _,by unfold tims;rw [tab_len];exact Nat.le_refl _⟩
theorem right_sol {w:World} {va vp vt:Value} {n0:Nat} {L:List AT} {f:Bool} {P T:List Rat} (h:SolA n0 L f P T) (hc:chkS n0 L=0) (ht:∀ a∈L,Tame a) (hl:L.length≤8) (hs:∀ a∈L,Smx a.1.1 a.1.2) (ha:RdRow 5 OwnA w va L) (hp:RdRow 3 (OwnQp 115) w vp P) (hq:RdRow 3 (OwnQp 115) w vt T):
  Calls Tryz.prog 17 #[.int .i64 n0,va,.agg #[.bool f,vp,vt]] w (Gives w fun v' _=>v'=.bool true):=by
 obtain ⟨zp,zt⟩:=sol_sz ht (.inl hl) h
 obtain ⟨hop,hvars,hn1,-⟩:=chk_op hc
 obtain ⟨lp,lt⟩:=sol_len h
 have rq:∀ {v:Value} {l:List Rat},RdRow 3 (OwnQp 115) w v l→RdRow 3 RdQ w v l:=fun ⟨E,h1,h2⟩=>⟨E,h1,h2.mono fun _ _ h=>OwnQ.rd h⟩
 refine right_any ha hs (by omega) (rq hp) (rq hq) (fun p hp=>(zp p hp).le (by decide)) (fun p hp=>(zt p hp).le (by decide)) (by omega) (by omega) fun w' u x y _ h1 h2 h3=>?_
 cases f with
 | true=>
  obtain ⟨rfl,hP,hh⟩:=sol_yes hc h
  refine right21_yes 380 400 h1 h2 h3 (by rw [hP]) (fun a ha=>(hs a ha).okx) zp (by decide) (by decide) (fun a ha j hj=>?_) hop (by omega) hh
  obtain ⟨n,s,hr,h⟩:=h
  rcases h with ⟨-,hno,rfl,-,he⟩ | ⟨h,-⟩
  ·exact (pts_sz ht (.inl hl) hr he).2 a ha (hs a ha) j hj
  ·cases h
 | false=>
  obtain ⟨rfl,hL,hr,hb,-⟩:=sol_no hc h
  exact right21_no h1 h2 h3 (tzp_of hs zt hl) hL (by omega) hb hr
open Go.RowKit Go.Att Go.Sx

theorem oneN_nlt (n:NN):Nlt 1000000000 (oneN n):=by
 have h:∀ xs:List Nat,(lowl 65536 xs).length≤1:=fun xs=>by
  cases xs with
  | nil=>exact Nat.zero_le _
  | cons x xs=>exact Nat.le_refl _
 exact ⟨Nat.le_trans (h _) (by decide),Nat.le_trans (h _) (by decide)⟩
def LC (l:List NAT):List AT:=(cutL l).map atA
theorem cutL_len (l:List NAT):(cutL l).length≤8:=by unfold cutL;rw [List.length_map,List.length_take];omega
theorem LC_len (l:List NAT):(LC l).length≤8:=by unfold LC;rw [List.length_map];exact cutL_len l
theorem LC_in {l:List NAT} {a:AT} (h:a∈LC l):∃ p:NAT,a=atA (cutA p):=by
 unfold LC cutL at h
 obtain ⟨q,hq,rfl⟩:=List.mem_map.1 h
 obtain ⟨p,-,rfl⟩:=List.mem_map.1 hq
 exact ⟨p,rfl⟩
theorem LC_terms {p:NAT}:(atA (cutA p)).1.1.length≤6∧(∀ t∈(atA (cutA p)).1.1,Lo16 t.2)∧Lo16 (atA (cutA p)).1.2:=by
 refine ⟨?_,fun t ht=>?_,one_lo _⟩
 ·show (tL ((p.1.1.take 6).map cutT)).length≤6
  unfold tL
  rw [List.length_map,List.length_take,List.length_map,List.length_take]
  omega
 ·have h1:t∈(((p.1.1.take 6).map cutT).take 12).map qT:=ht
  obtain ⟨u,hu,rfl⟩:=List.mem_map.1 h1
  obtain ⟨x,-,rfl⟩:=List.mem_map.1 (List.mem_of_mem_take hu)
  exact one_lo _
theorem LC_tame {l:List NAT}:∀ a∈LC l,Tame a:=fun a ha=>by
 obtain ⟨p,rfl⟩:=LC_in ha
 obtain ⟨h1,h2,h3⟩:=LC_terms (p:=p)
 exact tame_of h1 h2 h3
theorem lo_sz {q:Rat} (h:Lo16 q):Sz 8 q:=⟨(limbs_len _ _).2 (Nat.lt_trans h.1 (by decide)),(limbs_len _ _).2 (Nat.lt_trans h.2 (by decide))⟩
theorem LC_smx {l:List NAT}:∀ a∈LC l,Smx a.1.1 a.1.2:=fun a ha=>by
 obtain ⟨p,rfl⟩:=LC_in ha
 obtain ⟨h1,h2,h3⟩:=LC_terms (p:=p)
 exact ⟨by omega,fun t ht=>lo_sz (h2 t ht),lo_sz h3⟩
theorem atoms_cut {w:World} {v:Value} {l:List NAT} (h:RdRow 5 RdNA w v (cutL l)):Calls Tryz.prog 10 #[v] w (Gives w fun v' w'=>OwnRow 5 OwnA 55 w.heap.size w' v' (LC l)):=
 (atoms_any h fun p hp=>by
  unfold cutL at hp
  obtain ⟨q,-,rfl⟩:=List.mem_map.1 hp
  exact ⟨fun t ht=>by
   obtain ⟨u,-,rfl⟩:=List.mem_map.1 ht
   exact oneN_nlt _,oneN_nlt _⟩).mono fun _ _ ⟨v,e,b,o⟩=>⟨v,e,b,by
  have hl:=cutL_len l
  rw [List.take_of_length_le (by omega)] at o
  exact o⟩
def SolW (n:Int) (L:List AT) (B:Nat) (w:World) (v:Value) (f:Bool) (P T:List Rat):Prop:=∃ vp vt,v=.tuple #[.agg #[.bool f,vp,vt],.int .i64 (chkS n L)]∧OwnRow 3 (OwnQp 115) 49 B w vp P∧OwnRow 3 (OwnQp 115) 49 B w vt T
def SolF (n:Int) (L:List AT) (f:Bool) (P T:List Rat):Prop:=(chkS n L≠0∧f=false∧P=[]∧T=[])∨(chkS n L=0∧∃ n0:Nat,n=n0∧SolA n0 L f P T)
theorem SolF.uniq {n:Int} {L:List AT} {f f':Bool} {P T P' T':List Rat} (h:SolF n L f P T) (h':SolF n L f' P' T'):f=f'∧P=P'∧T=T':=by
 rcases h with ⟨h0,rfl,rfl,rfl⟩ | ⟨h0,n0,rfl,h⟩
 ·rcases h' with ⟨-,rfl,rfl,rfl⟩ | ⟨h1,-⟩
  ·exact ⟨rfl,rfl,rfl⟩
  ·exact absurd h1 h0
 ·rcases h' with ⟨h1,-⟩ | ⟨-,n1,e,h'⟩
  ·exact absurd h0 h1
  ·obtain rfl:n0=n1:=by omega
   exact h.uniq h'
theorem chk_nat {n:Int} {L:List AT} (h:chkS n L=0):∃ n0:Nat,n=n0:=by
 unfold chkS at h
 split at h
 ·cases h
 ·split at h
  ·cases h
  ·exact ⟨n.toNat,by omega⟩
theorem solve_w {w:World} {v:Value} {L:List AT} {n:Int} (hv:RdRow 5 OwnA w v L) (hs:∀ a∈L,a.1.1.length≤1000∧∀ t∈a.1.1,Sz 5000 t.2) (ht:∀ a∈L,Tame a) (hm:L.length≤8∨n≤8):
  Calls Tryz.prog 14 #[.int .i64 n,v] w (Gives w fun v' w'=>∃ f P T,SolW n L w.heap.size w' v' f P T∧SolF n L f P T):=by
 by_cases hc:chkS n L=0
 ·obtain ⟨n0,rfl⟩:=chk_nat hc
  refine (solve_any hv hs hc ht (hm.imp id (by omega))).mono fun _ _ ⟨v,e,b,f,vp,vt,P,T,h1,h2,h3,h4⟩=>⟨v,e,b,f,P,T,⟨vp,vt,by rw [hc];exact h1,h2,h3⟩,.inr ⟨hc,n0,rfl,h4⟩⟩
 ·exact (solve_no hv (fun a ha=>by have:=(hs a ha).1;omega) hc).mono fun _ _ ⟨v,e,b,h1⟩=>⟨v,e,b,false,[],[],⟨_,_,h1,OwnRow.nil _ _ _,OwnRow.nil _ _ _⟩,.inl ⟨hc,rfl,rfl,rfl⟩⟩
theorem LC_ok {l:List NAT}:∀ a∈LC l,a.1.1.length≤1000∧∀ t∈a.1.1,Sz 5000 t.2:=fun a ha=>by
 have:=LC_smx a ha
 exact ⟨by have:=this.1;omega,fun t ht=>(this.2.1 t ht).le (by decide)⟩
theorem solve_cut {w:World} {v:Value} {l:List NAT} {n:Int} (hv:RdRow 5 OwnA w v (LC l)):
  Calls Tryz.prog 14 #[.int .i64 n,v] w (Gives w fun v' w'=>∃ f P T,SolW n (LC l) w.heap.size w' v' f P T∧SolF n (LC l) f P T):=solve_w hv LC_ok LC_tame (.inl (LC_len l))
set_option linter.unusedSimpArgs false in
set_option maxHeartbeats 4000000 in
set_option maxRecDepth 100000 in
theorem same21_yes {w:World} {x y x' y':Value} {f:Bool} {P T:List Rat} (h1:RdRow 3 (OwnPp 4) w x P) (h2:RdRow 3 (OwnPp 4) w y T) (h3:RdRow 3 (OwnPp 4) w x' P) (h4:RdRow 3 (OwnPp 4) w y' T) (zP:∀ p∈P,Sb 50000 p) (zT:∀ p∈T,Sb 50000 p) (lP:P.length≤1000) (lT:T.length≤1000):
  Calls Tryz.prog 15 #[.agg #[.bool f,x,y],.agg #[.bool f,x',y']] w (Gives w fun v' _=>v'=.bool true):=by
 refine via fun R hR=>?_
 have HA:Hid (∀ w',Ext w w'→Calls Tryz.prog 40 #[x,x'] w' (Gives w' fun v' _=>v'=.bool true)):=fun w' X=>r15rats_yes (h1.ext OwnP.ext X) (h3.ext OwnP.ext X) zP lP
 have HB:Hid (∀ w',Ext w w'→Calls Tryz.prog 40 #[y,y'] w' (Gives w' fun v' _=>v'=.bool true)):=fun w' X=>r15rats_yes (h2.ext OwnP.ext X) (h4.ext OwnP.ext X) zT lT
 obtain ⟨a1,k1,rfl,-,-⟩:=h1.shape
 obtain ⟨a2,k2,rfl,-,-⟩:=h2.shape
 obtain ⟨a3,k3,rfl,-,-⟩:=h3.shape
 obtain ⟨a4,k4,rfl,-,-⟩:=h4.shape
 clear h1 h2 h3 h4 zP zT lP lT
 generalize P.length=np at*
 generalize T.length=nt at*
 obtain ⟨w1,hw1,b1,c1,c2,-,-,-⟩:=bx2 w [.bool f,.slice a1 np k1,.slice a2 nt k2] [.bool f,.slice a3 np k3,.slice a4 nt k4] 41 41
 have HW:=Lib.hid hw1
 have C1:=Lib.hid c1
 have C2:=Lib.hid c2
 have hb:(f == f)=true:=by cases f <;> rfl
 clear hw1 c1 c2
 go_enter Tryz.func15,Tryz.ntmps15
 go_upto_region 1 with (fail)
 rw [← HW.out]
 clear HW
 obtain ⟨k0,k1',k2'⟩:=C1.out.c3
 obtain ⟨l0,l1,l2⟩:=C2.out.c3
 go_wp2_with fail
 refine (HA.out _ b1).mono ?_
 rintro e w2 ⟨_,rfl,b2,rfl⟩
 clear k0 k1' k2' l0 l1 l2
 obtain ⟨k0,k1',k2'⟩:=(C1.out.ext b2).c3
 obtain ⟨l0,l1,l2⟩:=(C2.out.ext b2).c3
 go_wp2_with fail
 refine (HB.out _ (Ext.trans b1 b2)).mono ?_
 rintro e w3 ⟨_,rfl,b3,rfl⟩
 go_wp2_with fail
 exact hR.out _ _ (Gives.mk (Ext.trans b1 (Ext.trans b2 b3)) rfl)
open Go.RowKit Go.Att Go.Sx

def Good (n0:Nat) (Q:List Rat) (a:AT):Prop:=Tame a∧Smx a.1.1 a.1.2∧badA n0 a=false∧says a.2 (av Q a)=true
theorem chk_one {n0:Nat} {a:AT} (hn:n0≤6):(chkS n0 [a]=0↔badA n0 a=false):=by
 have h0:¬ (400 < (n0:Int)∨2000 < [a].length):=by simp;omega
 have h1:¬ (n0:Int) < 0:=by omega
 constructor
 ·intro h
  cases hb:badA n0 a with
  | false=>rfl
  | true=>
   have:=chkS_bad h0 h1 (j:=0) (by simp) (L:=[a]) hb
   omega
 ·intro h
  exact chkS_good h0 h1 fun b hb=>by
   obtain rfl:b=a:=by simpa using hb
   exact h
theorem good_chk {n0:Nat} {Q:List Rat} {H:List AT} (hn:n0≤6) (hl:H.length≤20) (h:∀ a∈H,Good n0 Q a):chkS n0 H=0:=
 chkS_good (by omega) (by omega) fun a ha=>(h a ha).2.2.1
theorem bad_op {n0:Nat} {a:AT} (h:badA n0 a=false):1≤a.2∧a.2≤3:=by
 unfold badA chk at h
 by_cases h1:1≤a.2∧a.2≤3
 ·exact h1
 ·rw [if_neg h1] at h
  simp at h
theorem lc_cf {l:TL} (hl:l.length≤6) (h:∀ t∈l,Lo16 t.2) (x:Int):Sz 8 (cf l x):=by
 have h1:=quot_zb (r:=cf l x) (cf_zb h x) (dprod_zb h) (dprod_ne l) (Rat.mul_comm _ _)
 have h2:65536 ^ l.length≤65536 ^ 6:=Nat.pow_le_pow_right (by decide) hl
 have h3:l.length*65536 ^ l.length≤6*65536 ^ 6:=Nat.mul_le_mul hl h2
 have h4:6*65536 ^ 6 < W32 ^ 8:=by decide
 exact ⟨(limbs_len _ _).2 (by omega),(limbs_len _ _).2 (by omega)⟩
theorem bad_same {n0:Nat} {l m:TL} {c d:Rat} {op:Int} (h:badA n0 ((l,c),op)=false) (hf:FormT m) (hm:∀ x,cf m x = -1*cf l x):badA n0 ((m,d),op)=false:=by
 unfold badA at h ⊢
 rw [Bool.or_eq_false_iff] at h ⊢
 refine ⟨h.1,?_⟩
 have h2:=h.2
 unfold outV at h2 ⊢
 rw [List.any_eq_false] at h2 ⊢
 intro t ht
 have h3:=(hf.mem t.1).1 ⟨t,ht,rfl⟩
 rw [hm] at h3
 have h4:¬ ∀ u∈l,u.1≠t.1:=fun hh=>h3 (by rw [cf_none hh];decide +kernel)
 obtain ⟨u,hu,he⟩:∃ u∈l,u.1=t.1:=Classical.byContradiction fun hh=>h4 fun u hu he=>hh ⟨u,hu,he⟩
 have:=h2 u hu
 rw [he] at this
 exact this
theorem flip_ok {n0:Nat} {l:List NAT} {a:AT} {m:TL} (ha:a∈LC l) (hb:badA n0 a=false) (hf:FormT m) (hm:∀ x,cf m x = -1*cf a.1.1 x) (hl:m.length≤a.1.1.length):Tame ((m,-1*a.1.2),a.2)∧Smx m (-1*a.1.2)∧badA n0 ((m,-1*a.1.2),a.2)=false:=by
 obtain ⟨p,rfl⟩:=LC_in ha
 obtain ⟨h1,h2,h3⟩:=LC_terms (p:=p)
 refine ⟨tame_neg (op:=1) (tame_of h1 h2 h3) hm,⟨by omega,fun t ht=>?_,?_⟩,bad_same hb hf hm⟩
 ·rw [← hf.at ht,hm]
  rw [show -1*cf (atA (cutA p)).1.1 t.1 = -(cf (atA (cutA p)).1.1 t.1) by grind]
  exact (lc_cf h1 h2 t.1).neg
 ·rw [show -1*(atA (cutA p)).1.2 = -(atA (cutA p)).1.2 by grind]
  exact (lo_sz h3).neg
def nvA:AT:=(([],((1:Int):Rat)),1)
theorem nv_tame:Tame nvA:=tame_of (by decide) (fun t ht=>by cases ht) ⟨by decide +kernel,by decide +kernel⟩
theorem nv_no {Q:List Rat}:says nvA.2 (av Q nvA)=false:=by
 have h:av Q nvA=((1:Int):Rat):=by
  show ((1:Int):Rat)+smv (cf []) Q 0=_
  rw [show smv (cf []) Q 0=smv (fun _=>0) Q 0 from smv_congr (fun _=>rfl) _ _,smv_zero,Rat.add_zero]
 rw [h]
 decide +kernel
theorem find_yes {n0:Nat} {Q:List Rat} {H:List AT} {f:Bool} {P T:List Rat} (hn:n0≤6) (hl:H.length≤20) (h:∀ a∈H,Good n0 Q a) (hs:SolF n0 H f P T):f=true:=by
 have hc:=good_chk hn hl h
 rcases hs with ⟨h0,-⟩ | ⟨-,n1,e,hs⟩
 ·exact absurd hc h0
 ·obtain rfl:n0=n1:=by omega
  cases f with
  | true=>rfl
  | false=>exact absurd (fun a ha=>(h a ha).2.2.2) ((sol_no hc hs).2.2.2.2 Q)
theorem nv_chk {n0:Nat} {Q:List Rat} {H:List AT} (hn:n0≤6) (hl:H.length≤20) (h:∀ a∈H,Good n0 Q a):chkS n0 (H ++ [nvA])=0:=
 chkS_good (by rw [List.length_append];simp;omega) (by omega) fun a ha=>by
  rcases List.mem_append.1 ha with ha | ha
  ·exact (h a ha).2.2.1
  ·obtain rfl:a=nvA:=by simpa using ha
   rfl
theorem find_no {n0:Nat} {Q:List Rat} {H:List AT} {f:Bool} {P T:List Rat} (hn:n0≤6) (hl:H.length≤20) (h:∀ a∈H,Good n0 Q a) (hs:SolF n0 (H ++ [nvA]) f P T):f=false:=by
 have hc:=nv_chk hn hl h
 rcases hs with ⟨h0,-⟩ | ⟨-,n1,e,hs⟩
 ·exact absurd hc h0
 ·obtain rfl:n0=n1:=by omega
  cases f with
  | false=>rfl
  | true=>
   have:=(sol_yes hc hs).2.2 nvA (by simp)
   rw [nv_no] at this
   cases this
theorem part_sz {l:TL} {c:Rat} {Q:List Rat} (hs:Smx l c) (hQ:∀ p∈Q,Sz 8 p) (j:Nat):Sz 1500 (c+smv (cf l) (Q.take j) 0):=by
 rw [← tv_smv]
 have h1:=tv_sz hs.2.1 (P:=Q.take j) (M:=8) fun p hp=>hQ p (List.mem_of_mem_take hp)
 have:=hs.1
 exact (hs.2.2.add h1).le (by omega)
open Go.RowKit Go.Att Go.Sx

theorem etAw:ElemT Tryz.prog 26 55 (.agg #[.slice none 0 0,.bool false,.slice none 0 0,.slice none 0 0,.int .i64 0]) 5 88:=ElemT.mk' Tryz.underlying26 (by kernel_rfl) rfl (by decide)
def awA:AT:=(([((0:Int),((1:Int):Rat))],((-1:Int):Rat)),1)
def awB:AT:=(([((0:Int),((-1:Int):Rat))],((2:Int):Rat)),1)
theorem awA_tame:Tame awA:=tame_of (by decide) (by intro t ht;simp at ht;subst ht;exact ⟨by decide +kernel,by decide +kernel⟩) ⟨by decide +kernel,by decide +kernel⟩
theorem awB_tame:Tame awB:=tame_of (by decide) (by intro t ht;simp at ht;subst ht;exact ⟨by decide +kernel,by decide +kernel⟩) ⟨by decide +kernel,by decide +kernel⟩
theorem aw_in {a:AT} (h:a∈[awA,awB]):a=awA∨a=awB:=by simpa using h
theorem aw_smx:∀ a∈[awA,awB],Smx a.1.1 a.1.2:=fun a ha=>by
 have S1:=Sz.int 1 (by omega)
 have S2:=Sz.int 2 (by omega)
 have Sm:=Sz.int (-1) (by omega)
 rcases aw_in ha with rfl | rfl
 ·exact ⟨by decide,fun t ht=>by simp [awA] at ht;subst ht;exact S1.le (by decide),Sm.le (by decide)⟩
 ·exact ⟨by decide,fun t ht=>by simp [awB] at ht;subst ht;exact Sm.le (by decide),S2.le (by decide)⟩
theorem aw_chk2:chkS 1 [awA,awB]=0:=by decide +kernel
theorem aw_chk1:chkS 1 [awA]=0:=by decide +kernel
theorem aw_av (q c p:Rat):c+smv (cf [((0:Int),q)]) [p] 0=c+q*p:=by
 show c+((cf [((0:Int),q)]) ((0:Nat):Int)*p+0)=_
 rw [show cf [((0:Int),q)] ((0:Nat):Int)=q by show (if (0:Int)=((0:Nat):Int) then q else 0)+0=q;rw [if_pos (show (0:Int)=((0:Nat):Int) from rfl),Rat.add_zero],Rat.add_zero]
theorem says1 {q:Rat} (h:says 1 q=true):q≤0:=by
 refine Classical.byContradiction fun h1=>?_
 have h2:0 < q.num.sign:=sggt.2 (by grind)
 unfold says at h
 rw [show (q.num.sign == 0)=false from beqF (by omega),decide_eq_false (show ¬ q.num.sign < 0 by omega)] at h
 cases h
theorem aw_no {P T:List Rat} (h:SolA 1 [awA,awB] true P T):False:=by
 obtain ⟨-,hl,hh⟩:=sol_yes aw_chk2 h
 obtain ⟨p,rfl⟩:∃ p,P=[p]:=by
  match P,hl with
  | [p],_=>exact ⟨p,rfl⟩
 have h1:=says1 (hh awA (by simp))
 have h2:=says1 (hh awB (by simp))
 unfold av at h1 h2
 have h3:awA.1.2+smv (cf awA.1.1) [p] 0=((-1:Int):Rat)+((1:Int):Rat)*p:=aw_av _ _ _
 have h4:awB.1.2+smv (cf awB.1.1) [p] 0=((2:Int):Rat)+((-1:Int):Rat)*p:=aw_av _ _ _
 rw [h3] at h1
 rw [h4] at h2
 have e1:((1:Int):Rat)=1:=by decide +kernel
 have e2:((2:Int):Rat)=2:=by decide +kernel
 have e3:((-1:Int):Rat) = -1:=by decide +kernel
 rw [e1,e3] at h1
 rw [e2,e3] at h2
 grind
theorem aw_yes {P T:List Rat} (h:SolA 1 [awA] false P T):False:=by
 obtain ⟨-,-,-,-,hn⟩:=sol_no aw_chk1 h
 refine hn [1] fun a ha=>?_
 obtain rfl:a=awA:=by simpa using ha
 have h3:av [1] awA=((-1:Int):Rat)+((1:Int):Rat)*1:=aw_av _ _ _
 rw [h3]
 decide +kernel
end Go.Proofs.YthpaifdfafjlcaaGreat
