/- (*simplex.table).move -/
import Derived.Test.YthpaifdfafjlcaaGreatSq
import Derived.Test.YthpaifdfafjlcaaGreatPTabWhy
import Derived.Test.YthpaifdfafjlcaaGreatSxC
import Derived.Test.YthpaifdfafjlcaaGreatTabAll
import Derived.Test.YthpaifdfafjlcaaGreatR8All
import Derived.Test.YthpaifdfafjlcaaGreatRatAll
namespace Go.Proofs.YthpaifdfafjlcaaGreat
open Go.RowKit Go.Att Go.Sx

def Wd (w:World) (v:Value) (p:Rat × Rat):Prop:=OwnD 115 0 w v p.1 p.2
theorem Wd.ext {w w':World} {v:Value} {p:Rat × Rat} (h:Wd w v p) (x:Ext w w'):Wd w' v p:=OwnD.ext h x
def mvA (P:Bnd) (s:Stand) (row:Nat→Int) (v k i u:Nat):Rat:=if u=v then P.hA v else if u=k then s.a k+stepA P s v k else if s.D.B u=true∧(row u).toNat < i then s.a u+s.D.A u k*stepA P s v k else s.a u
def mvB (P:Bnd) (s:Stand) (row:Nat→Int) (v k i u:Nat):Rat:=if u=v then P.hB v else if u=k then s.b k+stepB P s v k else if s.D.B u=true∧(row u).toNat < i then s.b u+s.D.A u k*stepB P s v k else s.b u
theorem mv_start {P:Bnd} {s:Stand} {row:Nat→Int} {v k:Nat} (hne:k≠v) (u:Nat):
  (if u=k then s.a k+stepA P s v k else if u=v then P.hA v else s.a u)=mvA P s row v k 0 u∧(if u=k then s.b k+stepB P s v k else if u=v then P.hB v else s.b u)=mvB P s row v k 0 u:=by
 unfold mvA mvB
 by_cases e1:u=v
 ·have e2:¬ u=k:=fun e=>hne (by omega)
  simp [e1,show ¬ v=k from fun e=>hne e.symm]
 ·by_cases e2:u=k
  ·simp [e2,hne]
  ·simp [e1,e2]
section
variable {P:Bnd} {n0 m:Nat} {s:Stand} {bas:Nat→Nat} {row:Nat→Int} {v k i:Nat}
theorem mv_step (hx:Ix n0 m s bas row) (hi:i < m) (hv:bas i≠v) (hk:bas i≠k) (u:Nat) (hu:u < n0+m):
  (if u=bas i then s.a (bas i)+s.D.A (bas i) k*stepA P s v k else mvA P s row v k i u)=mvA P s row v k (i+1) u∧(if u=bas i then s.b (bas i)+s.D.A (bas i) k*stepB P s v k else mvB P s row v k i u)=mvB P s row v k (i+1) u:=by
 obtain ⟨h1,h2⟩:=hx.bs i hi
 have hb:s.D.B (bas i)=true:=(hx.rw1 _ h1).2.2 (by omega)
 unfold mvA mvB
 by_cases e:u=bas i
 ·rw [if_pos e,if_pos e,e,if_neg hv,if_neg hk,if_neg hv,if_neg hk]
  have h3:s.D.B (bas i)=true∧(row (bas i)).toNat < i+1:=⟨hb,by rw [h2];simp⟩
  rw [if_pos h3,if_pos h3];exact ⟨rfl,rfl⟩
 ·rw [if_neg e,if_neg e]
  have h3:(s.D.B u=true∧(row u).toNat < i)↔(s.D.B u=true∧(row u).toNat < i+1):=by
   constructor
   ·rintro ⟨a,b⟩;exact ⟨a,by omega⟩
   ·rintro ⟨a,b⟩
    refine ⟨a,Classical.byContradiction fun h=>e ?_⟩
    have:=(hx.rw2 u hu a).2
    rw [show (row u).toNat=i by omega] at this
    exact this.symm
  simp only [h3];exact ⟨trivial,trivial⟩
theorem mv_skip (hx:Ix n0 m s bas row) (hv:bas i=v) (u:Nat) (hu:u < n0+m):mvA P s row v k i u=mvA P s row v k (i+1) u∧mvB P s row v k i u=mvB P s row v k (i+1) u:=by
 unfold mvA mvB
 by_cases e:u=v
 ·simp [e]
 ·have h3:(s.D.B u=true∧(row u).toNat < i)↔(s.D.B u=true∧(row u).toNat < i+1):=by
   constructor
   ·rintro ⟨a,b⟩;exact ⟨a,by omega⟩
   ·rintro ⟨a,b⟩
    refine ⟨a,Classical.byContradiction fun h=>e ?_⟩
    have:=(hx.rw2 u hu a).2
    rw [show (row u).toNat=i by omega,hv] at this
    exact this.symm
  simp only [h3];exact ⟨trivial,trivial⟩
theorem mv_end (hx:Ix n0 m s bas row) (u:Nat) (hu:u < n0+m):mvA P s row v k m u=(mv P s v k).a u∧mvB P s row v k m u=(mv P s v k).b u:=by
 unfold mvA mvB mv
 have h3:(s.D.B u=true∧(row u).toNat < m)↔s.D.B u=true:=⟨fun h=>h.1,fun h=>⟨h,(hx.rw2 u hu h).1⟩⟩
 simp only [h3];exact ⟨trivial,trivial⟩
end
def nwF (s:Stand) (v k j u:Nat):Rat:=if u < j∧u≠k then -((s.D.A v k)⁻¹*s.D.A v u) else 0
def pvN (s:Stand) (v k u:Nat):Rat:=if u=v then (s.D.A v k)⁻¹ else if u=k then 0 else -((s.D.A v k)⁻¹*s.D.A v u)
theorem nw_zero (s:Stand) (v k N:Nat):(tab N fun _=>(0:Rat))=tab N (nwF s v k 0):=tab_congr fun u _=>by simp [nwF]
theorem nw_step {s:Stand} {v k N j:Nat} (h:j≠k):(tab N (nwF s v k j)).set j (-((s.D.A v k)⁻¹*s.D.A v j))=tab N (nwF s v k (j+1)):=by
 rw [tab_set]
 refine tab_congr fun u _=>?_
 unfold nwF
 by_cases e:u=j
 ·rw [if_pos e,e,if_pos ⟨by omega,h⟩]
 ·rw [if_neg e]
  have:(u < j∧u≠k)↔(u < j+1∧u≠k):=by
   constructor <;> rintro ⟨a,b⟩ <;> exact ⟨by omega,b⟩
  simp only [this]
theorem nw_same {s:Stand} {v k N:Nat}:tab N (nwF s v k k)=tab N (nwF s v k (k+1)):=tab_congr fun u _=>by
 unfold nwF
 have:(u < k∧u≠k)↔(u < k+1∧u≠k):=by
  constructor <;> rintro ⟨a,b⟩ <;> exact ⟨by omega,b⟩
 simp only [this]
theorem nw_end {s:Stand} {v k N:Nat}:(tab N (nwF s v k N)).set v (s.D.A v k)⁻¹=tab N (pvN s v k):=by
 rw [tab_set]
 refine tab_congr fun u hu=>?_
 unfold nwF pvN
 by_cases e:u=v
 ·rw [if_pos e,if_pos e]
 ·rw [if_neg e,if_neg e]
  by_cases e2:u=k
  ·simp [e2]
  ·simp [e2,hu]
def pvI (s:Stand) (bas:Nat→Nat) (v k r i i' j:Nat):Rat:=if i' < i∧i'≠r then (piv s.D v k).A (bas i') j else s.D.A (bas i') j
def pvJ (s:Stand) (bas:Nat→Nat) (v k r i j0 i' j:Nat):Rat:=if i'=i∧j < j0 then s.D.A (bas i) j+s.D.A (bas i) k*pvN s v k j else pvI s bas v k r i i' j
section
variable {s:Stand} {bas:Nat→Nat} {v k r i:Nat}
theorem pv_zero (i' j:Nat):s.D.A (bas i') j=pvI s bas v k r 0 i' j:=by simp [pvI]
theorem pvJ_zero (i' j:Nat):pvI s bas v k r i i' j=pvJ s bas v k r i 0 i' j:=by simp [pvJ]
theorem pvI_at (j:Nat):pvI s bas v k r i i j=s.D.A (bas i) j:=by simp [pvI]
theorem pvJ_at {j0:Nat}:pvJ s bas v k r i j0 i j0=s.D.A (bas i) j0:=by simp [pvJ,pvI]
theorem pvJ_step (j0 i' j:Nat):(if i'=i∧j=j0 then s.D.A (bas i) j0+s.D.A (bas i) k*pvN s v k j0 else pvJ s bas v k r i j0 i' j)=pvJ s bas v k r i (j0+1) i' j:=by
 unfold pvJ
 by_cases e:i'=i∧j=j0
 ·rw [if_pos e,if_pos ⟨e.1,by omega⟩,e.2]
 ·rw [if_neg e]
  have:(i'=i∧j < j0)↔(i'=i∧j < j0+1):=by
   constructor
   ·rintro ⟨a,b⟩;exact ⟨a,by omega⟩
   ·rintro ⟨a,b⟩;exact ⟨a,Classical.byContradiction fun h=>e ⟨a,by omega⟩⟩
  simp only [this]
theorem pv_A {u j:Nat} (hu:u≠k):(piv s.D v k).A u j=if j=k then 0 else s.D.A u j+s.D.A u k*pvN s v k j:=by
 show (if u=k then _ else if j=k then 0 else s.D.A u j+s.D.A u k*(if j=v then (s.D.A v k)⁻¹ else -((s.D.A v k)⁻¹*s.D.A v j)))=_
 rw [if_neg hu]
 unfold pvN
 by_cases e:j=k
 ·rw [if_pos e,if_pos e]
 ·rw [if_neg e,if_neg e,if_neg e]
theorem pv_row {N:Nat} (hr:i≠r) (hk:bas i≠k) (i' j:Nat) (hj:j < N):(if i'=i∧j=k then 0 else pvJ s bas v k r i N i' j)=pvI s bas v k r (i+1) i' j:=by
 unfold pvJ pvI
 by_cases e:i'=i
 ·subst e
  rw [if_pos (show i' < i'+1∧i'≠r from ⟨by omega,hr⟩),pv_A hk]
  by_cases e2:j=k
  ·rw [if_pos ⟨rfl,e2⟩,if_pos e2]
  ·rw [if_neg fun h=>e2 h.2,if_pos ⟨rfl,hj⟩,if_neg e2]
 ·rw [if_neg fun h=>e h.1,if_neg fun h=>e h.1]
  have:(i' < i∧i'≠r)↔(i' < i+1∧i'≠r):=by
   constructor <;> rintro ⟨a,b⟩ <;> exact ⟨by omega,b⟩
  simp only [this]
theorem pv_skip (h:i=r∨(s.D.A (bas i) k=0∧bas i≠k)) (i' j:Nat):pvI s bas v k r i i' j=pvI s bas v k r (i+1) i' j:=by
 unfold pvI
 by_cases e:i'=i
 ·subst e
  rw [if_neg fun h=>by have:=h.1;omega]
  by_cases e2:i'=r
  ·rw [if_neg fun h=>h.2 e2]
  ·rw [if_pos ⟨by omega,e2⟩]
   rcases h with h | ⟨h,hk⟩
   ·exact absurd h e2
   ·rw [pv_A hk,h]
    by_cases e3:j=k
    ·rw [if_pos e3,e3,h]
    ·rw [if_neg e3];grind
 ·have:(i' < i∧i'≠r)↔(i' < i+1∧i'≠r):=by
   constructor <;> rintro ⟨a,b⟩ <;> exact ⟨by omega,b⟩
  simp only [this]
theorem pv_end {M:Nat} (i' j:Nat) (hi:i' < M):(if i'=r then pvN s v k j else pvI s bas v k r M i' j)=(piv s.D v k).A (mvBas bas r k i') j:=by
 unfold mvBas pvI
 by_cases e:i'=r
 ·rw [if_pos e,if_pos e]
  show _=(if k=k then (if j=v then (s.D.A v k)⁻¹ else if j=k then 0 else -((s.D.A v k)⁻¹*s.D.A v j)) else _)
  rw [if_pos rfl]
  rfl
 ·rw [if_neg e,if_neg e,if_pos ⟨hi,e⟩]
end
set_option linter.unusedSimpArgs false in
set_option maxHeartbeats 20000000 in
set_option maxRecDepth 100000 in
theorem move_any {w0 w:World} {bt n0:Nat} {L:List AT} {s:Stand} {bas:Nat→Nat} {row:Nat→Int} {gs ks:Nat→Nat} {al ab ar aa av ah:Option Addr} {kl kb kr ka kv kh:Nat} (h:TabO w0 w bt n0 L (fun i=>s.D.A (bas i)) s.a s.b bas row gs ks al ab ar aa av ah kl kb kr ka kv kh)
  (hx:Ix n0 L.length s bas row) (hn:n0+L.length≤100000) (sA:∀ v j,v < n0+L.length→s.D.B v=true→j < n0+L.length→Sz 100 (s.D.A v j)) (sv:∀ v,v < n0+L.length→Sz 100 (s.a v)∧Sz 100 (s.b v)) (sh:∀ v,n0≤v→v < n0+L.length→Sz 100 ((bnd n0 L).hA v)∧Sz 100 ((bnd n0 L).hB v))
  {v k:Nat} {g:Bool} (hp:Pick (bnd n0 L) s v g) (hh:Help (bnd n0 L) s v g k):
  Calls Tryz.prog 39 #[.pointer (some ⟨bt,0,none⟩),.int .i64 v,.int .i64 k] w (fun e w'=>e=.returned (.tuple #[])∧∃ gs' ks',TabO w0 w' bt n0 L (fun i=>(mv (bnd n0 L) s v k).D.A (mvBas bas (row v).toNat k i)) (mv (bnd n0 L) s v k).a (mv (bnd n0 L) s v k).b (mvBas bas (row v).toNat k) (mvRow row v k (row v)) gs' ks' al ab ar aa av ah kl kb kr ka kv kh):=by
 refine via fun R hR=>?_
 obtain ⟨N,hN⟩:∃ N,n0+L.length=N:=⟨_,rfl⟩
 obtain ⟨M,hM⟩:∃ M,L.length=M:=⟨_,rfl⟩
 have HN:=Lib.hid hN
 have HM:=Lib.hid hM
 have hv0:n0≤v:=hp.hr
 have hv:v < N:=by rw [← hN];exact hp.hrN
 have bv:=hp.br
 have hk:k < N:=by rw [← hN];exact hh.hk
 have bk:=hh.bk
 have hA0:=hh.can.1
 obtain ⟨hr1,hr2⟩:=hx.rw2 v hp.hrN bv
 have hr0:=(hx.rw1 v hp.hrN).2.1 bv
 obtain ⟨r,hr⟩:∃ r:Nat,row v=r:=⟨(row v).toNat,by omega⟩
 have hrt:(row v).toNat=r:=by rw [hr];rfl
 rw [hrt] at hr1 hr2 hR
 have H0:=Lib.hid h
 have X0:=Lib.hid hx
 have h0r:Hid (row v=(r:Int)):=hr
 have hrL:Hid (r < L.length):=hr1
 have hr2v:Hid (bas r=v):=hr2
 rw [hM] at hr1
 rw [hN] at hn sA sv sh
 have C1:=Lib.hid (h.rd.cells hN)
 rw [hM] at C1
 have hRV:(0:Int)≤(v:Int)∧(v:Int) < (N:Int):=⟨by omega,by omega⟩
 have hRK:(0:Int)≤(k:Int)∧(k:Int) < (N:Int):=⟨by omega,by omega⟩
 have hRR:(0:Int)≤(r:Int)∧(r:Int) < (M:Int):=⟨by omega,by omega⟩
 have hW1:IntKind.i64.wrap ((v:Int) - (n0:Int))=((v - n0:Nat):Int):=by rw [IntKind.wrap_i64];omega
 have hi:v - n0 < L.length:=by omega
 have hW2:(0:Int)≤((v - n0:Nat):Int)∧((v - n0:Nat):Int) < (M:Int):=⟨by omega,by omega⟩
 obtain ⟨gr,har,hgr⟩:∃ b,ar=some ⟨b,0,none⟩∧Att.Bo w b v [.int .i64 r]:=by
  obtain ⟨g1,e1,-,-,-⟩:=h.ro_base (by omega)
  obtain ⟨b,off,e2,h2⟩:=h.rd.row_at hN hv
  rw [e1] at e2
  simp only [Option.some.injEq,Addr.mk.injEq,and_true] at e2
  obtain ⟨rfl,rfl⟩:=e2
  rw [hr,Nat.zero_add] at h2
  exact ⟨_,e1,h2⟩
 obtain ⟨ga,haa,hga⟩:=h.hd_at hN hrL.out
 obtain ⟨qs,qa,qk,qm,qa',qk',qm',hcq,hoq⟩:=h.cell_at hN hrL.out hk
 rw [hr2] at hoq
 obtain ⟨gv,hav,-,hRv,-⟩:=h.val_base (by omega)
 obtain ⟨b1v,o1v,sg,x,k1,m,y,k',m',t,px,k2,m2,y2,k2',m2',e3,hbv,hov⟩:=h.rd.val_at hN hv
 rw [hav] at e3
 simp only [Option.some.injEq,Addr.mk.injEq,and_true] at e3
 obtain ⟨rfl,rfl⟩:=e3
 rw [Nat.zero_add] at hbv
 obtain ⟨gh,oh,sg',z,j,n,z',j',n',t',z2,j2,n2,z2',j2',n2',hah,hbh,hoh⟩:=h.rd.hi_at hi
 rw [show n0+(v - n0)=v by omega] at hoh
 subst har haa hav hah
 have CR:=Lib.hid hgr
 have CA:=Lib.hid hga
 have CQ:=Lib.hid hcq
 have OQ:=Lib.hid hoq
 have CV:=Lib.hid hbv
 have OV:=Lib.hid hov
 have CH:=Lib.hid hbh
 have OH:=Lib.hid hoh
 have SQ:Hid (Sz 100 (s.D.A v k)):=sA v k hv bv hk
 have SV:Hid (Sz 100 (s.a v)∧Sz 100 (s.b v)):=sv v hv
 have SH:Hid (Sz 100 ((bnd n0 L).hA v)∧Sz 100 ((bnd n0 L).hB v)):=sh v hv0 hv
 have hbt:Hid (bt < w.heap.size):=h.rt.lt
 have hvb:Hid (gv < w.heap.size):=hRv.lt
 have HG:Hid (∀ i,i < L.length→gs i < w.heap.size):=fun i hi=>(h.row_base hi).2.1.lt
 have HW0:Hid (w0.heap.size≤w.heap.size):=Below.size h.x0
 clear hgr hga hcq hoq hbv hov hbh hoh hr hrt hr0 hr2 hp hh hx h hRv
 generalize hq0:v - n0=q0 at*
 have HQ0:=Lib.hid hq0
 clear hq0
 go_enter Tryz.func39,Tryz.ntmps39
 obtain ⟨c0,c1,c2,c3,c4,c5,c6⟩:=C1.out.c7
 have d1:=CR.out.c1
 have d2:=CA.out.c1
 obtain ⟨u0,u1,u2⟩:=CQ.out.c3
 go_wp2_with fail
 refine (rinv_any OQ.out.rd (SQ.out.le (by decide)) (fun h=>hA0 (Rat.num_eq_zero.1 h))).mono ?_
 rintro e w1 ⟨_,rfl,b1,o,rfl,o1⟩
 obtain ⟨rs,ra,rl,rk,ra',rl',rk',rfl,O1⟩:=o1.op
 clear o1 c0 c1 c2 c3 c4 c5 c6 d1 d2 u0 u1 u2
 have SBY:Hid (Sz 101 (s.D.A v k)⁻¹):=SQ.out.inv
 have HST:Hid (stepA (bnd n0 L) s v k=(s.D.A v k)⁻¹*((bnd n0 L).hA v - s.a v)∧stepB (bnd n0 L) s v k=(s.D.A v k)⁻¹*((bnd n0 L).hB v - s.b v)):=⟨rfl,rfl⟩
 have SST:Hid (Sz 400 (stepA (bnd n0 L) s v k)∧Sz 400 (stepB (bnd n0 L) s v k)):=by
  show Sz _ _∧Sz _ _
  rw [HST.out.1,HST.out.2]
  exact ⟨(SBY.out.mul (SH.out.1.sub SV.out.1)).le (by decide),(SBY.out.mul (SH.out.2.sub SV.out.2)).le (by decide)⟩
 obtain ⟨w2,hw2,b2,c2',-,-⟩:=bx1 w1 [.bool rs,.slice ra rl rk,.slice ra' rl' rk'] 49
 have HW:=Lib.hid hw2
 have CE:=Lib.hid c2'
 have QE:=Lib.hid ((O1.out.mono (Nat.zero_le _)).ext b2)
 have x2:=Ext.trans b1 b2
 have hE7:Hid (w.heap.size≤w1.heap.size):=Below.size b1
 clear hw2 c2' O1
 have HSU:Hid (∀ w',Ext w2 w'→Calls Tryz.prog 63 #[.agg #[.bool sg',.slice z j n,.slice z' j' n',.bool t',.slice z2 j2 n2,.slice z2' j2' n2'],.agg #[.bool sg,.slice x k1 m,.slice y k' m',.bool t,.slice px k2 m2,.slice y2 k2' m2']] w' (Gives w' fun v' w'=>Wd w' v' ((bnd n0 L).hA v - s.a v,(bnd n0 L).hB v - s.b v))):=fun w' X=>
  (dsub_any (OH.out.ext (Ext.trans x2 X)).rd (OV.out.ext (Ext.trans x2 X)).rd (SH.out.1.le (by decide)) (SH.out.2.le (by decide)) (SV.out.1.le (by decide)) (SV.out.2.le (by decide))).mono fun _ _ ⟨v,e,b,o⟩=>⟨v,e,b,o.mono (Nat.zero_le _)⟩
 have HSC:Hid (∀ w' u,Ext w2 w'→Wd w' u ((bnd n0 L).hA v - s.a v,(bnd n0 L).hB v - s.b v)→Calls Tryz.prog 62 #[.agg #[.bool rs,.slice ra rl rk,.slice ra' rl' rk'],u] w' (Gives w' fun v' w'=>Wd w' v' (stepA (bnd n0 L) s v k,stepB (bnd n0 L) s v k))):=fun w' u X h=>
  (dscale_any (QE.out.ext X).rd (OwnD.rd h) (SBY.out.le (by decide)) ((SH.out.1.sub SV.out.1).le (by decide)) ((SH.out.2.sub SV.out.2).le (by decide))).mono fun _ _ ⟨v,e,b,o⟩=>⟨v,e,b,o.mono (Nat.zero_le _)⟩
 have D2:=Lib.hid (C1.out.ext x2)
 have DV:=Lib.hid (CV.out.ext x2)
 have DH:=Lib.hid (CH.out.ext x2)
 have HB1:Hid (bt < w2.heap.size):=Nat.lt_of_lt_of_le hbt.out (Below.size x2)
 have HB2:Hid (w1.heap.size < w2.heap.size):=CE.out.lt
 have HB3:Hid (gv < w2.heap.size):=Nat.lt_of_lt_of_le hvb.out (Below.size x2)
 have HB4:Hid (gh < w2.heap.size):=DH.out.lt
 obtain ⟨qby,hqb⟩:∃ q,(s.D.A v k)⁻¹=q:=⟨_,rfl⟩
 rw [hqb] at QE SBY HST
 have hqby:=Lib.hid hqb
 have hE7b:Hid (w1.heap.size < w2.heap.size):=CE.out.lt
 go_upto_region 2 with (fail)
 rw [← HW.out]
 clear HW
 go_cut [6,7,9] (fun s6 s7 s9 wx=>∃ (E9:Nat) (d0 d1 d2 d3 d4 d5:Value),s6=.int .i64 r∧s7=.pointer (some ⟨w1.heap.size,0,none⟩)∧s9=.pointer (some ⟨E9,0,none⟩)∧w2.heap.size≤E9∧Ext w2 wx∧Hid (Bx wx E9 [d0,d1,d2,d3,d4,d5])∧Hid (OwnD 115 0 wx (.agg #[d0,d1,d2,d3,d4,d5]) (stepA (bnd n0 L) s v k) (stepB (bnd n0 L) s v k)))
 case first=>
  as_aux_lemma=>
   refine wp_region_noPanic ?_
   refine wp_region_held_drew (S:=fun w'=>(w'.cell? ⟨bt,0,none⟩=some (.int .i64 n0)∧w'.cell? ⟨bt,1,none⟩=some (.slice al M kl)∧w'.cell? ⟨bt,2,none⟩=some (.slice ab M kb)∧w'.cell? ⟨bt,3,none⟩=some (.slice (some ⟨gr,0,none⟩) N kr)∧w'.cell? ⟨bt,4,none⟩=some (.slice (some ⟨ga,0,none⟩) M ka)∧w'.cell? ⟨bt,5,none⟩=some (.slice (some ⟨gv,0,none⟩) N kv)∧w'.cell? ⟨bt,6,none⟩=some (.slice (some ⟨gh,oh,none⟩) M kh))∧(w'.cell? ⟨w1.heap.size,0,none⟩=some (.bool rs)∧w'.cell? ⟨w1.heap.size,1,none⟩=some (.slice ra rl rk)∧w'.cell? ⟨w1.heap.size,2,none⟩=some (.slice ra' rl' rk'))∧(w'.cell? ⟨gv,v*6,none⟩=some (.bool sg)∧w'.cell? ⟨gv,v*6+1,none⟩=some (.slice x k1 m)∧w'.cell? ⟨gv,v*6+2,none⟩=some (.slice y k' m')∧w'.cell? ⟨gv,v*6+3,none⟩=some (.bool t)∧w'.cell? ⟨gv,v*6+4,none⟩=some (.slice px k2 m2)∧w'.cell? ⟨gv,v*6+5,none⟩=some (.slice y2 k2' m2'))∧(w'.cell? ⟨gh,oh+q0*6,none⟩=some (.bool sg')∧w'.cell? ⟨gh,oh+q0*6+1,none⟩=some (.slice z j n)∧w'.cell? ⟨gh,oh+q0*6+2,none⟩=some (.slice z' j' n')∧w'.cell? ⟨gh,oh+q0*6+3,none⟩=some (.bool t')∧w'.cell? ⟨gh,oh+q0*6+4,none⟩=some (.slice z2 j2 n2)∧w'.cell? ⟨gh,oh+q0*6+5,none⟩=some (.slice z2' j2' n2'))) (by kernel_rfl) (⟨(D2.out.ext (drew_ext w2)).c7,(CE.out.ext (drew_ext w2)).c3,(DV.out.ext (drew_ext w2)).c6,(DH.out.ext (drew_ext w2)).c6⟩) (fun hHeld=>?_)
   refine tkH 0 hHeld ?_
   simp only [jP,jA,jB,jC,jD,jE,jF]
   refine tkH 1 hHeld ?_
   simp only [jP,jA,jB,jC,jD,jE,jF]
   refine tkH 5 hHeld ?_
   simp only [jP,jA,jB,jC,jD,jE,jF]
   refine tkH 6 hHeld ?_
   simp only [jP,jA,jB,jC,jD,jE,jF]
   refine tkH 13 hHeld ?_
   simp only [jP,jA,jB,jC,jD,jE,jF]
   refine tkH 17 hHeld ?_
   simp only [jP,jA,jB,jC,jD,jE,jF]
   refine tkH 2 hHeld ?_
   simp only [jP,jA,jB,jC,jD,jE,jF]
   refine tkH 7 hHeld ?_
   simp only [jP,jA,jB,jC,jD,jE,jF]
   refine tkH 14 hHeld ?_
   simp only [jP,jA,jB,jC,jD,jE,jF]
   refine tkH 3 hHeld ?_
   simp only [jP,jA,jB,jC,jD,jE,jF]
   refine tkH 8 hHeld ?_
   simp only [jP,jA,jB,jC,jD,jE,jF]
   refine tkH 15 hHeld ?_
   simp only [jP,jA,jB,jC,jD,jE,jF]
   refine tkH 4 hHeld ?_
   simp only [jP,jA,jB,jC,jD,jE,jF]
   refine tkH 9 hHeld ?_
   simp only [jP,jA,jB,jC,jD,jE,jF]
   refine tkH 16 hHeld ?_
   simp only [jP,jA,jB,jC,jD,jE,jF]
   refine tkH 10 hHeld ?_
   simp only [jP,jA,jB,jC,jD,jE,jF]
   refine tkH 18 hHeld ?_
   simp only [jP,jA,jB,jC,jD,jE,jF]
   refine tkH 11 hHeld ?_
   simp only [jP,jA,jB,jC,jD,jE,jF]
   refine tkH 19 hHeld ?_
   simp only [jP,jA,jB,jC,jD,jE,jF]
   refine tkH 12 hHeld ?_
   simp only [jP,jA,jB,jC,jD,jE,jF]
   refine anyH_cap fun O Q9 AA hO hQ hA=>?_
   obtain ⟨SS,hSS⟩:∃ SS:World→Prop,Hid (SS=fun w'=>(w'.cell? ⟨bt,0,none⟩=some (.int .i64 n0)∧w'.cell? ⟨bt,1,none⟩=some (.slice al M kl)∧w'.cell? ⟨bt,2,none⟩=some (.slice ab M kb)∧w'.cell? ⟨bt,3,none⟩=some (.slice (some ⟨gr,0,none⟩) N kr)∧w'.cell? ⟨bt,4,none⟩=some (.slice (some ⟨ga,0,none⟩) M ka)∧w'.cell? ⟨bt,5,none⟩=some (.slice (some ⟨gv,0,none⟩) N kv)∧w'.cell? ⟨bt,6,none⟩=some (.slice (some ⟨gh,oh,none⟩) M kh))∧(w'.cell? ⟨w1.heap.size,0,none⟩=some (.bool rs)∧w'.cell? ⟨w1.heap.size,1,none⟩=some (.slice ra rl rk)∧w'.cell? ⟨w1.heap.size,2,none⟩=some (.slice ra' rl' rk'))∧(w'.cell? ⟨gv,v*6,none⟩=some (.bool sg)∧w'.cell? ⟨gv,v*6+1,none⟩=some (.slice x k1 m)∧w'.cell? ⟨gv,v*6+2,none⟩=some (.slice y k' m')∧w'.cell? ⟨gv,v*6+3,none⟩=some (.bool t)∧w'.cell? ⟨gv,v*6+4,none⟩=some (.slice px k2 m2)∧w'.cell? ⟨gv,v*6+5,none⟩=some (.slice y2 k2' m2'))∧(w'.cell? ⟨gh,oh+q0*6,none⟩=some (.bool sg')∧w'.cell? ⟨gh,oh+q0*6+1,none⟩=some (.slice z j n)∧w'.cell? ⟨gh,oh+q0*6+2,none⟩=some (.slice z' j' n')∧w'.cell? ⟨gh,oh+q0*6+3,none⟩=some (.bool t')∧w'.cell? ⟨gh,oh+q0*6+4,none⟩=some (.slice z2 j2 n2)∧w'.cell? ⟨gh,oh+q0*6+5,none⟩=some (.slice z2' j2' n2'))):=⟨_,rfl⟩
   have KP:Hid (∀ wv,Ext w2 wv→SS wv):=fun wv XE=>by rw [hSS.out];exact ⟨(D2.out.ext XE).c7,(CE.out.ext XE).c3,(DV.out.ext XE).c6,(DH.out.ext XE).c6⟩
   have L2_22:∀ (wv:World) (v20 v21:Value) (B22:Nat),Hid (Ext w2 wv)→Hid (Wd wv v20 ((bnd n0 L).hA v - s.a v,(bnd n0 L).hB v - s.b v))→Hid (Wd wv v21 (stepA (bnd n0 L) s v k,stepB (bnd n0 L) s v k))→Hid (Rt wv B22 6 122)→Hid (w2.heap.size≤B22)→wpAnyH Tryz.prog .any O Q9 SS 1 #[true,true,true,true,true,true,true,true,true,true,true,true,true,true,true,true,true,true,true,true,true,true,true,false] (((AA.put (some 59) v20).put (some 60) v21).put (some 9) (.pointer (some ⟨B22,0,none⟩))) wv:=by
    intro wv v20 v21 B22 hX p20 p21 r22 s22
    have hO1:=hO.out
    have hQ1:=hQ.out
    have hA1:=hA.out
    subst hO1
    subst hQ1
    subst hA1
    have XE:=hX.out
    have hHeld:=KP.out _ XE
    have hS1:=hSS.out
    subst hS1
    try simp only [jP,jA,jB,jC,jD,jE,jF]
    have k0_22:bt≠B22:=by have h1:=s22.out;have hz0:=HB1.out;have hz1:=HB2.out;have hz2:=HB3.out;have hz3:=HB4.out;omega
    have k1_22:w1.heap.size≠B22:=by have h1:=s22.out;have hz0:=HB1.out;have hz1:=HB2.out;have hz2:=HB3.out;have hz3:=HB4.out;omega
    have k2_22:gv≠B22:=by have h1:=s22.out;have hz0:=HB1.out;have hz1:=HB2.out;have hz2:=HB3.out;have hz3:=HB4.out;omega
    have k3_22:gh≠B22:=by have h1:=s22.out;have hz0:=HB1.out;have hz1:=HB2.out;have hz2:=HB3.out;have hz3:=HB4.out;omega
    obtain ⟨_,_,_,_,_,_,i22_0,i22_1,i22_2,i22_3,i22_4,i22_5,f22_0,f22_1,f22_2,f22_3,f22_4,f22_5⟩:=r22.out.rm.c6
    obtain ⟨_,_,_,_,_,_,_,_,_,_,_,_,_,_,rfl,OO⟩:=OwnD.op p21.out
    refine rdH 23 (by kernel_rfl) rfl (fun K hK=>?_)
    go_simp
    refine hK.out _ _ (⟨((D2.out.ext XE).putL k0_22 0 [_,_,_,_,_,_]).c7,((CE.out.ext XE).putL k1_22 0 [_,_,_,_,_,_]).c3,((DV.out.ext XE).putL k2_22 0 [_,_,_,_,_,_]).c6,((DH.out.ext XE).putL k3_22 0 [_,_,_,_,_,_]).c6⟩) (fun hHeld=>?_)
    clear hK K
    try simp only [jP,jA,jB,jC,jD,jE,jF]
    refine wpAnyH_done (by kernel_rfl) ?_ _
    refine NoPanic.normal ?_
    go_wp2_with fail
    go_meet
    exact ⟨B22,_,_,_,_,_,_,rfl,rfl,rfl,s22.out,putL_below s22.out [_,_,_,_,_,_] 0 hX.out,(r22.out.putL_at [_,_,_,_,_,_] rfl).1,OO.out.putT r22.out (by decide) 0 [_,_,_,_,_,_]⟩
   have L1_22:∀ (wv:World) (v20:Value) (B22:Nat),Hid (Ext w2 wv)→Hid (Wd wv v20 ((bnd n0 L).hA v - s.a v,(bnd n0 L).hB v - s.b v))→Hid (Rt wv B22 6 122)→Hid (w2.heap.size≤B22)→wpAnyH Tryz.prog .any O Q9 SS 2 #[true,true,true,true,true,true,true,true,true,true,true,true,true,true,true,true,true,true,true,true,true,false,true,false] ((AA.put (some 59) v20).put (some 9) (.pointer (some ⟨B22,0,none⟩))) wv:=by
    intro wv v20 B22 hX p20 r22 s22
    have hO1:=hO.out
    have hQ1:=hQ.out
    have hA1:=hA.out
    subst hO1
    subst hQ1
    subst hA1
    have XE:=hX.out
    try simp only [jP,jA,jB,jC,jD,jE,jF]
    refine rdH 21 (by kernel_rfl) rfl (fun K hK=>?_)
    go_simp
    go_at_call 62
    refine (HSC.out _ _ XE p20.out).mono ?_
    rintro e wn ⟨vn,rfl,bn,on⟩
    go_wp2_with fail
    refine hK.out _ _ (KP.out _ (Ext.trans XE bn)) (fun _=>?_)
    clear hK K
    try simp only [jP,jA,jB,jC,jD,jE,jF]
    exact wpAnyH_at (L2_22 wn v20 vn B22 (Ext.trans XE bn) (p20.out.ext bn) (on) (r22.out.ext bn) s22) (by kernel_rfl) (by kernel_rfl) (by kernel_rfl)
   have L2_:∀ (wv:World) (v20 v21:Value),Hid (Ext w2 wv)→Hid (Wd wv v20 ((bnd n0 L).hA v - s.a v,(bnd n0 L).hB v - s.b v))→Hid (Wd wv v21 (stepA (bnd n0 L) s v k,stepB (bnd n0 L) s v k))→wpAnyH Tryz.prog .any O Q9 SS 2 #[true,true,true,true,true,true,true,true,true,true,true,true,true,true,true,true,true,true,true,true,true,true,false,false] ((AA.put (some 59) v20).put (some 60) v21) wv:=by
    intro wv v20 v21 hX p20 p21
    have hO1:=hO.out
    have hQ1:=hQ.out
    have hA1:=hA.out
    subst hO1
    subst hQ1
    subst hA1
    have XE:=hX.out
    try simp only [jP,jA,jB,jC,jD,jE,jF]
    refine rdH 22 (by kernel_rfl) rfl (fun K hK=>?_)
    go_simp
    refine hK.out _ _ (KP.out _ (Ext.trans XE (Ext.alloc _ _))) (fun _=>?_)
    clear hK K
    try simp only [jP,jA,jB,jC,jD,jE,jF]
    exact wpAnyH_at (L2_22 _ v20 v21 wv.heap.size (Ext.trans XE (Ext.alloc wv (.cells [.bool false,.slice none 0 0,.slice none 0 0,.bool false,.slice none 0 0,.slice none 0 0].toArray 122))) (p20.out.ext (Ext.alloc wv (.cells [.bool false,.slice none 0 0,.slice none 0 0,.bool false,.slice none 0 0,.slice none 0 0].toArray 122))) (p21.out.ext (Ext.alloc wv (.cells [.bool false,.slice none 0 0,.slice none 0 0,.bool false,.slice none 0 0,.slice none 0 0].toArray 122))) (Rt.new wv [.bool false,.slice none 0 0,.slice none 0 0,.bool false,.slice none 0 0,.slice none 0 0] 122) (Below.size XE)) (by kernel_rfl) (by kernel_rfl) (by kernel_rfl)
   have L0_22:∀ (wv:World) (B22:Nat),Hid (Ext w2 wv)→Hid (Rt wv B22 6 122)→Hid (w2.heap.size≤B22)→wpAnyH Tryz.prog .any O Q9 SS 3 #[true,true,true,true,true,true,true,true,true,true,true,true,true,true,true,true,true,true,true,true,false,false,true,false] (AA.put (some 9) (.pointer (some ⟨B22,0,none⟩))) wv:=by
    intro wv B22 hX r22 s22
    have hO1:=hO.out
    have hQ1:=hQ.out
    have hA1:=hA.out
    subst hO1
    subst hQ1
    subst hA1
    have XE:=hX.out
    try simp only [jP,jA,jB,jC,jD,jE,jF]
    refine rdH 20 (by kernel_rfl) rfl (fun K hK=>?_)
    go_simp
    go_at_call 63
    refine (HSU.out _ XE).mono ?_
    rintro e wn ⟨vn,rfl,bn,on⟩
    go_wp2_with fail
    refine hK.out _ _ (KP.out _ (Ext.trans XE bn)) (fun _=>?_)
    clear hK K
    try simp only [jP,jA,jB,jC,jD,jE,jF]
    exact wpAnyH_at (L1_22 wn vn B22 (Ext.trans XE bn) (on) (r22.out.ext bn) s22) (by kernel_rfl) (by kernel_rfl) (by kernel_rfl)
   have L1_:∀ (wv:World) (v20:Value),Hid (Ext w2 wv)→Hid (Wd wv v20 ((bnd n0 L).hA v - s.a v,(bnd n0 L).hB v - s.b v))→wpAnyH Tryz.prog .any O Q9 SS 3 #[true,true,true,true,true,true,true,true,true,true,true,true,true,true,true,true,true,true,true,true,true,false,false,false] (AA.put (some 59) v20) wv:=by
    intro wv v20 hX p20
    have hO1:=hO.out
    have hQ1:=hQ.out
    have hA1:=hA.out
    subst hO1
    subst hQ1
    subst hA1
    have XE:=hX.out
    try simp only [jP,jA,jB,jC,jD,jE,jF]
    refine wpAnyH_ready (rs:=[21,22]) (by kernel_rfl) (by simp) ?_
    refine AllReadyH.cons (o:=_) rfl (fun K hK=>?_) (AllReadyH.cons (o:=_) rfl (fun K hK=>?_) AllReadyH.nil)
    ·skip
     go_simp
     go_at_call 62
     refine (HSC.out _ _ XE p20.out).mono ?_
     rintro e wn ⟨vn,rfl,bn,on⟩
     go_wp2_with fail
     refine hK.out _ _ (KP.out _ (Ext.trans XE bn)) (fun _=>?_)
     clear hK K
     try simp only [jP,jA,jB,jC,jD,jE,jF]
     exact wpAnyH_at (L2_ wn v20 vn (Ext.trans XE bn) (p20.out.ext bn) (on)) (by kernel_rfl) (by kernel_rfl) (by kernel_rfl)
    ·skip
     go_simp
     refine hK.out _ _ (KP.out _ (Ext.trans XE (Ext.alloc _ _))) (fun _=>?_)
     clear hK K
     try simp only [jP,jA,jB,jC,jD,jE,jF]
     exact wpAnyH_at (L1_22 _ v20 wv.heap.size (Ext.trans XE (Ext.alloc wv (.cells [.bool false,.slice none 0 0,.slice none 0 0,.bool false,.slice none 0 0,.slice none 0 0].toArray 122))) (p20.out.ext (Ext.alloc wv (.cells [.bool false,.slice none 0 0,.slice none 0 0,.bool false,.slice none 0 0,.slice none 0 0].toArray 122))) (Rt.new wv [.bool false,.slice none 0 0,.slice none 0 0,.bool false,.slice none 0 0,.slice none 0 0] 122) (Below.size XE)) (by kernel_rfl) (by kernel_rfl) (by kernel_rfl)
   have L0_:∀ (wv:World),Hid (Ext w2 wv)→wpAnyH Tryz.prog .any O Q9 SS 4 #[true,true,true,true,true,true,true,true,true,true,true,true,true,true,true,true,true,true,true,true,false,false,false,false] AA wv:=by
    intro wv hX
    have hO1:=hO.out
    have hQ1:=hQ.out
    have hA1:=hA.out
    subst hO1
    subst hQ1
    subst hA1
    have XE:=hX.out
    try simp only [jP,jA,jB,jC,jD,jE,jF]
    refine wpAnyH_ready (rs:=[20,22]) (by kernel_rfl) (by simp) ?_
    refine AllReadyH.cons (o:=_) rfl (fun K hK=>?_) (AllReadyH.cons (o:=_) rfl (fun K hK=>?_) AllReadyH.nil)
    ·skip
     go_simp
     go_at_call 63
     refine (HSU.out _ XE).mono ?_
     rintro e wn ⟨vn,rfl,bn,on⟩
     go_wp2_with fail
     refine hK.out _ _ (KP.out _ (Ext.trans XE bn)) (fun _=>?_)
     clear hK K
     try simp only [jP,jA,jB,jC,jD,jE,jF]
     exact wpAnyH_at (L1_ wn vn (Ext.trans XE bn) (on)) (by kernel_rfl) (by kernel_rfl) (by kernel_rfl)
    ·skip
     go_simp
     refine hK.out _ _ (KP.out _ (Ext.trans XE (Ext.alloc _ _))) (fun _=>?_)
     clear hK K
     try simp only [jP,jA,jB,jC,jD,jE,jF]
     exact wpAnyH_at (L0_22 _ wv.heap.size (Ext.trans XE (Ext.alloc wv (.cells [.bool false,.slice none 0 0,.slice none 0 0,.bool false,.slice none 0 0,.slice none 0 0].toArray 122))) (Rt.new wv [.bool false,.slice none 0 0,.slice none 0 0,.bool false,.slice none 0 0,.slice none 0 0] 122) (Below.size XE)) (by kernel_rfl) (by kernel_rfl) (by kernel_rfl)
   have hO1:=hO.out
   have hQ1:=hQ.out
   have hA1:=hA.out
   subst hO1
   subst hQ1
   subst hA1
   have hS1:=hSS.out
   subst hS1
   exact wpAnyH_at (L0_ w2.drew (drew_ext w2)) (by kernel_rfl) (by kernel_rfl) (by kernel_rfl)
 case rest=>
  as_aux_lemma=>
   obtain ⟨E9,d0,d1,d2,d3,d4,d5,rfl,rfl,rfl,hE9,x3,CD,QD⟩:=hcut
   obtain ⟨w3,hw3⟩:∃ w0:World,w0=wc:=⟨_,rfl⟩
   subst hw3
   have x03:=Ext.trans x2 x3
   have T3:=Lib.hid (H0.out.ext x03)
   have D3:=Lib.hid (C1.out.ext x03)
   have DH3:=Lib.hid (CH.out.ext x03)
   have OH3:=Lib.hid (OH.out.ext x03)
   have CE3:=Lib.hid (CE.out.ext x3)
   have QE3:=Lib.hid (QE.out.ext x3)
   have HWE:Hid (w.heap.size≤w2.heap.size):=Below.size x2
   clear HSU HSC D2 DV DH HB1 HB2 HB3 HB4 CV OV CH OH CE QE CA CQ OQ CR C1 b1 b2 x2 x3 x03 HST SQ
   obtain ⟨g',e1,-,hRv,hkv⟩:=T3.out.val_base (by have:=HN.out;omega)
   simp only [Option.some.injEq,Addr.mk.injEq,and_true] at e1
   subst e1
   have hkv':N≤kv:=by rw [← HN.out];exact hkv
   have RV:=Lib.hid hRv
   clear hRv hkv
   go_upto_region 3 with (fail)
   go_cut [6] (fun s6 wx=>s6=.int .i64 r∧w2.heap.size≤wx.heap.size∧Hid (TabO w0 wx bt n0 L (fun i=>s.D.A (bas i)) (fun u=>if u=v then (bnd n0 L).hA v else s.a u) (fun u=>if u=v then (bnd n0 L).hB v else s.b u) bas row gs ks al ab (some ⟨gr,0,none⟩) (some ⟨ga,0,none⟩) (some ⟨gv,0,none⟩) (some ⟨gh,oh,none⟩) kl kb kr ka kv kh)∧Hid (Bx wx w1.heap.size [.bool rs,.slice ra rl rk,.slice ra' rl' rk'])∧Hid (OwnQ 115 0 wx (.agg #[.bool rs,.slice ra rl rk,.slice ra' rl' rk']) qby)∧Hid (Bx wx E9 [d0,d1,d2,d3,d4,d5])∧Hid (OwnD 115 0 wx (.agg #[d0,d1,d2,d3,d4,d5]) (stepA (bnd n0 L) s v k) (stepB (bnd n0 L) s v k)))
   case first=>
    as_aux_lemma=>
     have b4:=drew_ext w3
     have XE:=b4
     refine wp_region_noPanic ?_
     refine wp_region_last_drew (st:=18) (S:=fun w'=>(w'.cell? ⟨bt,0,none⟩=some (.int .i64 n0)∧w'.cell? ⟨bt,1,none⟩=some (.slice al M kl)∧w'.cell? ⟨bt,2,none⟩=some (.slice ab M kb)∧w'.cell? ⟨bt,3,none⟩=some (.slice (some ⟨gr,0,none⟩) N kr)∧w'.cell? ⟨bt,4,none⟩=some (.slice (some ⟨ga,0,none⟩) M ka)∧w'.cell? ⟨bt,5,none⟩=some (.slice (some ⟨gv,0,none⟩) N kv)∧w'.cell? ⟨bt,6,none⟩=some (.slice (some ⟨gh,oh,none⟩) M kh))∧(w'.cell? ⟨gh,oh+q0*6,none⟩=some (.bool sg')∧w'.cell? ⟨gh,oh+q0*6+1,none⟩=some (.slice z j n)∧w'.cell? ⟨gh,oh+q0*6+2,none⟩=some (.slice z' j' n')∧w'.cell? ⟨gh,oh+q0*6+3,none⟩=some (.bool t')∧w'.cell? ⟨gh,oh+q0*6+4,none⟩=some (.slice z2 j2 n2)∧w'.cell? ⟨gh,oh+q0*6+5,none⟩=some (.slice z2' j2' n2'))) (by kernel_rfl) (⟨(D3.out.ext XE).c7,(DH3.out.ext XE).c6⟩) (fun hHeld=>?_)
     refine tkL 0 hHeld ?_
     simp only [jP,jA,jB,jC,jD,jE,jF]
     refine tkL 1 hHeld ?_
     simp only [jP,jA,jB,jC,jD,jE,jF]
     refine tkL 2 hHeld ?_
     simp only [jP,jA,jB,jC,jD,jE,jF]
     refine tkL 3 hHeld ?_
     simp only [jP,jA,jB,jC,jD,jE,jF]
     refine tkL 4 hHeld ?_
     simp only [jP,jA,jB,jC,jD,jE,jF]
     refine tkL 5 hHeld ?_
     simp only [jP,jA,jB,jC,jD,jE,jF]
     refine tkL 6 hHeld ?_
     simp only [jP,jA,jB,jC,jD,jE,jF]
     refine tkL 7 hHeld ?_
     simp only [jP,jA,jB,jC,jD,jE,jF]
     refine tkL 8 hHeld ?_
     simp only [jP,jA,jB,jC,jD,jE,jF]
     refine tkL 9 hHeld ?_
     simp only [jP,jA,jB,jC,jD,jE,jF]
     refine tkL 10 hHeld ?_
     simp only [jP,jA,jB,jC,jD,jE,jF]
     refine tkL 11 hHeld ?_
     simp only [jP,jA,jB,jC,jD,jE,jF]
     refine tkL 12 hHeld ?_
     simp only [jP,jA,jB,jC,jD,jE,jF]
     refine tkL 13 hHeld ?_
     simp only [jP,jA,jB,jC,jD,jE,jF]
     refine tkL 14 hHeld ?_
     simp only [jP,jA,jB,jC,jD,jE,jF]
     refine tkL 15 hHeld ?_
     simp only [jP,jA,jB,jC,jD,jE,jF]
     refine tkL 16 hHeld ?_
     simp only [jP,jA,jB,jC,jD,jE,jF]
     refine tkL 17 hHeld ?_
     simp only [jP,jA,jB,jC,jD,jE,jF]
     refine wpAnyL_ready (rs:=[18]) (by kernel_rfl) (by simp) ?_
     refine AllReadyL.last (o:=_) rfl (fun K hK=>?_)
     refine if_wantedL rfl ?_
     refine store_put 122 _ _ (by rfl) (gv) (v*6) [.bool sg',.slice z j n,.slice z' j' n',.bool t',.slice z2 j2 n2,.slice z2' j2' n2'] (by rfl) (by rfl) (RV.out.ext XE) (by first | omega | (simp;omega)) (by kernel_rfl) (by rfl) ?_
     refine hK.out _ _ ?_
     clear hK K
     try simp only [jP,jA,jB,jC,jD,jE,jF]
     refine wpAnyL_done (by kernel_rfl) ?_ _
     refine NoPanic.normal ?_
     go_wp2_with fail
     go_meet
     have RV4:=RV.out.ext XE
     have hne1:w1.heap.size≠gv:=by have:=hvb.out;have:=hE7.out;omega
     have hne2:E9≠gv:=by have:=hvb.out;have:=HWE.out;omega
     exact ⟨rfl,by
      have h1:w3.drew.heap.size≤(Att.putL w3.drew gv (v*6) [.bool sg',.slice z j n,.slice z' j' n',.bool t',.slice z2 j2 n2,.slice z2' j2' n2']).heap.size:=Below.size (putL_below (Nat.le_refl gv) _ _ (Below.refl _ _))
      have h2:w3.drew.heap.size=w3.heap.size:=rfl
      have h3:=CD.out.lt
      exact Nat.le_trans (by omega) h1,(T3.out.ext XE).setVal rfl (by rw [HN.out];exact hv) (cs:=[_,_,_,_,_,_]) rfl (OH3.out.ext XE),(CE3.out.ext XE).putL hne1 (v*6) [_,_,_,_,_,_],(QE3.out.ext XE).putT RV4 (by decide) (v*6) [_,_,_,_,_,_],(CD.out.ext XE).putL hne2 (v*6) [_,_,_,_,_,_],OwnD.putT (QD.out.ext XE) RV4 (by decide) (v*6) [_,_,_,_,_,_]⟩
   case rest=>
    as_aux_lemma=>
     clear T3 D3 DH3 OH3 CE3 QE3 CD QD RV
     obtain ⟨rfl,hws,T3,CE,QE,CD,QD⟩:=hcut
     obtain ⟨w3,hw3⟩:∃ w0:World,w0=wc:=⟨_,rfl⟩
     subst hw3
     have hkv2:k≠v:=fun e=>by rw [e,bv] at bk;cases bk
     have D3:=Lib.hid (T3.out.rd.cells HN.out)
     rw [HM.out] at D3
     obtain ⟨bk1,ok1,s4,e4,f4,g4,e4',f4',g4',t4,e5,f5,g5,e5',f5',g5',e6,hck,hok⟩:=T3.out.rd.val_at HN.out hk
     simp only [Option.some.injEq,Addr.mk.injEq,and_true] at e6
     obtain ⟨rfl,rfl⟩:=e6
     rw [Nat.zero_add] at hck
     rw [if_neg hkv2,if_neg hkv2] at hok
     have CK:=Lib.hid hck
     have SVK:Hid (Sz 100 (s.a k)∧Sz 100 (s.b k)):=sv k hk
     have HAD:Hid (∀ w',Ext w3 w'→Calls Tryz.prog 64 #[.agg #[.bool s4,.slice e4 f4 g4,.slice e4' f4' g4',.bool t4,.slice e5 f5 g5,.slice e5' f5' g5'],.agg #[d0,d1,d2,d3,d4,d5]] w' (Gives w' fun v' w'=>Wd w' v' (s.a k+stepA (bnd n0 L) s v k,s.b k+stepB (bnd n0 L) s v k))):=fun w' X=>
      (dadd_any (hok.ext X).rd (QD.out.ext X).rd (SVK.out.1.le (by decide)) (SVK.out.2.le (by decide)) (SST.out.1.le (by decide)) (SST.out.2.le (by decide))).mono fun _ _ ⟨v,e,b,o⟩=>⟨v,e,b,o.mono (Nat.zero_le _)⟩
     obtain ⟨g',e1,-,hRv,-⟩:=T3.out.val_base (by have:=HN.out;omega)
     simp only [Option.some.injEq,Addr.mk.injEq,and_true] at e1
     subst e1
     have RV:=Lib.hid hRv
     clear hRv hck hok
     go_upto_region 4 with (fail)
     go_cut [6] (fun s6 wx=>s6=.int .i64 r∧w2.heap.size≤wx.heap.size∧Hid (TabO w0 wx bt n0 L (fun i=>s.D.A (bas i)) (fun u=>if u=k then s.a k+stepA (bnd n0 L) s v k else if u=v then (bnd n0 L).hA v else s.a u) (fun u=>if u=k then s.b k+stepB (bnd n0 L) s v k else if u=v then (bnd n0 L).hB v else s.b u) bas row gs ks al ab (some ⟨gr,0,none⟩) (some ⟨ga,0,none⟩) (some ⟨gv,0,none⟩) (some ⟨gh,oh,none⟩) kl kb kr ka kv kh)∧Hid (Bx wx w1.heap.size [.bool rs,.slice ra rl rk,.slice ra' rl' rk'])∧Hid (OwnQ 115 0 wx (.agg #[.bool rs,.slice ra rl rk,.slice ra' rl' rk']) qby)∧Hid (Bx wx E9 [d0,d1,d2,d3,d4,d5])∧Hid (OwnD 115 0 wx (.agg #[d0,d1,d2,d3,d4,d5]) (stepA (bnd n0 L) s v k) (stepB (bnd n0 L) s v k)))
     case first=>
      as_aux_lemma=>
       have b4:=drew_ext w3
       have XE:=b4
       refine wp_region_noPanic ?_
       refine wp_region_last_drew (st:=15) (S:=fun w'=>(w'.cell? ⟨bt,0,none⟩=some (.int .i64 n0)∧w'.cell? ⟨bt,1,none⟩=some (.slice al M kl)∧w'.cell? ⟨bt,2,none⟩=some (.slice ab M kb)∧w'.cell? ⟨bt,3,none⟩=some (.slice (some ⟨gr,0,none⟩) N kr)∧w'.cell? ⟨bt,4,none⟩=some (.slice (some ⟨ga,0,none⟩) M ka)∧w'.cell? ⟨bt,5,none⟩=some (.slice (some ⟨gv,0,none⟩) N kv)∧w'.cell? ⟨bt,6,none⟩=some (.slice (some ⟨gh,oh,none⟩) M kh))∧(w'.cell? ⟨gv,k*6,none⟩=some (.bool s4)∧w'.cell? ⟨gv,k*6+1,none⟩=some (.slice e4 f4 g4)∧w'.cell? ⟨gv,k*6+2,none⟩=some (.slice e4' f4' g4')∧w'.cell? ⟨gv,k*6+3,none⟩=some (.bool t4)∧w'.cell? ⟨gv,k*6+4,none⟩=some (.slice e5 f5 g5)∧w'.cell? ⟨gv,k*6+5,none⟩=some (.slice e5' f5' g5'))∧(w'.cell? ⟨E9,0,none⟩=some (d0)∧w'.cell? ⟨E9,1,none⟩=some (d1)∧w'.cell? ⟨E9,2,none⟩=some (d2)∧w'.cell? ⟨E9,3,none⟩=some (d3)∧w'.cell? ⟨E9,4,none⟩=some (d4)∧w'.cell? ⟨E9,5,none⟩=some (d5))) (by kernel_rfl) (⟨(D3.out.ext XE).c7,(CK.out.ext XE).c6,(CD.out.ext XE).c6⟩) (fun hHeld=>?_)
       refine tkL 0 hHeld ?_
       simp only [jP,jA,jB,jC,jD,jE,jF]
       refine tkL 1 hHeld ?_
       simp only [jP,jA,jB,jC,jD,jE,jF]
       refine tkL 2 hHeld ?_
       simp only [jP,jA,jB,jC,jD,jE,jF]
       refine tkL 3 hHeld ?_
       simp only [jP,jA,jB,jC,jD,jE,jF]
       refine tkL 4 hHeld ?_
       simp only [jP,jA,jB,jC,jD,jE,jF]
       refine tkL 5 hHeld ?_
       simp only [jP,jA,jB,jC,jD,jE,jF]
       refine tkL 6 hHeld ?_
       simp only [jP,jA,jB,jC,jD,jE,jF]
       refine tkL 7 hHeld ?_
       simp only [jP,jA,jB,jC,jD,jE,jF]
       refine tkL 8 hHeld ?_
       simp only [jP,jA,jB,jC,jD,jE,jF]
       refine tkL 9 hHeld ?_
       simp only [jP,jA,jB,jC,jD,jE,jF]
       refine tkL 10 hHeld ?_
       simp only [jP,jA,jB,jC,jD,jE,jF]
       refine tkL 11 hHeld ?_
       simp only [jP,jA,jB,jC,jD,jE,jF]
       refine tkL 12 hHeld ?_
       simp only [jP,jA,jB,jC,jD,jE,jF]
       refine rdL 13 (by kernel_rfl) rfl (fun K hK=>?_)
       go_simp
       go_at_call 64;refine (HAD.out _ XE).mono ?_;rintro e w5 ⟨v5,rfl,b5,o5⟩;have O5:=Lib.hid o5;clear o5;(first | have XE:=Ext.trans XE b5 | have XE:=Ext.trans (Ext.trans XE (Ext.alloc _ _)) b5);obtain ⟨s5,a5,l5,c5,a6,l6,c6,t5,a7,l7,c7,a8,l8,c8,rfl,P5⟩:=OwnD.op O5.out
       go_wp2_with fail
       refine hK.out _ _ (⟨(D3.out.ext XE).c7,(CK.out.ext XE).c6,(CD.out.ext XE).c6⟩) (fun hHeld=>?_)
       clear hK K
       try simp only [jP,jA,jB,jC,jD,jE,jF]
       refine tkL 14 hHeld ?_
       simp only [jP,jA,jB,jC,jD,jE,jF]
       refine wpAnyL_ready (rs:=[15]) (by kernel_rfl) (by simp) ?_
       refine AllReadyL.last (o:=_) rfl (fun K hK=>?_)
       refine if_wantedL rfl ?_
       refine store_put 122 _ _ (by rfl) (gv) (k*6) [.bool s5,.slice a5 l5 c5,.slice a6 l6 c6,.bool t5,.slice a7 l7 c7,.slice a8 l8 c8] (by rfl) (by rfl) (RV.out.ext XE) (by first | omega | (simp;omega)) (by kernel_rfl) (by rfl) ?_
       refine hK.out _ _ ?_
       clear hK K
       try simp only [jP,jA,jB,jC,jD,jE,jF]
       refine wpAnyL_done (by kernel_rfl) ?_ _
       refine NoPanic.normal ?_
       go_wp2_with fail
       go_meet
       have RV4:=RV.out.ext XE
       have hne1:w1.heap.size≠gv:=by have:=hvb.out;have:=hE7.out;omega
       have hne2:E9≠gv:=by have:=hvb.out;have:=HWE.out;omega
       exact ⟨rfl,by
        have h1:=Below.size (putL_below (Nat.le_refl gv) [.bool s5,.slice a5 l5 c5,.slice a6 l6 c6,.bool t5,.slice a7 l7 c7,.slice a8 l8 c8] (k*6) (Below.refl gv w5))
        have h2:=Below.size XE
        omega,(T3.out.ext XE).setVal rfl (by rw [HN.out];exact hk) (cs:=[.bool s5,.slice a5 l5 c5,.slice a6 l6 c6,.bool t5,.slice a7 l7 c7,.slice a8 l8 c8]) rfl P5.out,(CE.out.ext XE).putL hne1 (k*6) [.bool s5,.slice a5 l5 c5,.slice a6 l6 c6,.bool t5,.slice a7 l7 c7,.slice a8 l8 c8],(QE.out.ext XE).putT RV4 (by decide) (k*6) [.bool s5,.slice a5 l5 c5,.slice a6 l6 c6,.bool t5,.slice a7 l7 c7,.slice a8 l8 c8],(CD.out.ext XE).putL hne2 (k*6) [.bool s5,.slice a5 l5 c5,.slice a6 l6 c6,.bool t5,.slice a7 l7 c7,.slice a8 l8 c8],OwnD.putT (QD.out.ext XE) RV4 (by decide) (k*6) [.bool s5,.slice a5 l5 c5,.slice a6 l6 c6,.bool t5,.slice a7 l7 c7,.slice a8 l8 c8]⟩
     case rest=>
      as_aux_lemma=>
       clear T3 CE QE CD QD D3 CK HAD RV hws SVK
       obtain ⟨rfl,hws,T3,CE,QE,CD,QD⟩:=hcut
       clear w3
       obtain ⟨w3,hw3⟩:∃ w0:World,w0=wc:=⟨_,rfl⟩
       subst hw3
       have D3:=Lib.hid (T3.out.rd.cells HN.out)
       rw [HM.out] at D3
       have T3':=Lib.hid (T3.out.congr (fun _ _ _ _=>rfl) (fun u _=>mv_start (row:=row) hkv2 u) (fun _ _=>rfl) (fun _ _=>rfl))
       clear T3
       obtain ⟨c0,c1,c2,c3,c4,c5,c6⟩:=D3.out.c7
       go_wp2_with fail
       clear c0 c1 c2 c3 c4 c5 c6 D3
       go_loopw [99] (fun t wr=>∃ i:Nat,t=.int .i64 i∧i≤M∧w2.heap.size≤wr.heap.size∧Hid (TabO w0 wr bt n0 L (fun i=>s.D.A (bas i)) (mvA (bnd n0 L) s row v k i) (mvB (bnd n0 L) s row v k i) bas row gs ks al ab (some ⟨gr,0,none⟩) (some ⟨ga,0,none⟩) (some ⟨gv,0,none⟩) (some ⟨gh,oh,none⟩) kl kb kr ka kv kh)∧Hid (Bx wr w1.heap.size [.bool rs,.slice ra rl rk,.slice ra' rl' rk'])∧Hid (OwnQ 115 0 wr (.agg #[.bool rs,.slice ra rl rk,.slice ra' rl' rk']) qby)∧Hid (Bx wr E9 [d0,d1,d2,d3,d4,d5])∧Hid (OwnD 115 0 wr (.agg #[d0,d1,d2,d3,d4,d5]) (stepA (bnd n0 L) s v k) (stepB (bnd n0 L) s v k))) (fun t _=>M - (intOf t).toNat)
       case atStart=>exact ⟨0,rfl,Nat.zero_le _,hws,T3'.out,CE.out,QE.out,CD.out,QD.out⟩
       case round=>
        clear hws T3' CE QE CD QD w3
        obtain ⟨i,rfl,hi,hws,hT,hCE,hQE,hCD,hQD⟩:=hrel
        by_cases hil:i < M
        ·-- [[4
         have hd:decide ((i:Int) < (M:Int))=true:=decide_eq_true (by omega)
         have HI1:IntKind.i64.wrap ((i:Int)+1)=((i+1:Nat):Int):=by rw [IntKind.wrap_i64];omega
         have hI2:(0:Int)≤(i:Int)∧(i:Int) < (M:Int):=⟨by omega,by omega⟩
         have hiL:i < L.length:=by rw [HM.out];exact hil
         obtain ⟨gb,ob,rfl,hbb⟩:=hT.out.rd.bas_at hiL
         obtain ⟨gb',e7,-,-,-⟩:=hT.out.ba_base (by omega)
         simp only [Option.some.injEq,Addr.mk.injEq,and_true] at e7
         obtain ⟨rfl,rfl⟩:=e7
         rw [Nat.zero_add] at hbb
         obtain ⟨u,hu⟩:∃ u,bas i=u:=⟨_,rfl⟩
         have huN:u < N:=by rw [← hu,← HN.out];exact (X0.out.bs i hiL).1
         have HRU:Hid (row u=(i:Int)):=by rw [← hu];exact (X0.out.bs i hiL).2
         rw [hu] at hbb
         have b1:=hbb.c1
         by_cases hir:i=r
         ·have e8:((i:Int) != (r:Int))=false:=bneF (by omega)
          have huv:bas i=v:=by rw [hir];exact hr2v.out
          have hT2:=Lib.hid (hT.out.congr (fun _ _ _ _=>rfl) (fun u hu=>mv_skip X0.out huv u hu) (fun _ _=>rfl) (fun _ _=>rfl))
          clear hir hT hbb
          go_wp2_with fail
          go_roundw
          case rel=>exact ⟨i+1,by go_num,by omega,hws,hT2.out,hCE.out,hQE.out,hCD.out,hQD.out⟩
          case measure=>simp [intOf] <;> omega
         ·have e8:((i:Int) != (r:Int))=true:=bneT (by omega)
          have huv:u≠v:=fun e=>hir (by
           have h1:=HRU.out
           rw [e,h0r.out] at h1
           omega)
          have huB:s.D.B u=true:=(X0.out.rw1 u (by rw [HN.out];exact huN)).2.2 (by rw [HRU.out];omega)
          have huk:u≠k:=fun e=>by rw [e,bk] at huB;cases huB
          have D3:=Lib.hid (hT.out.rd.cells HN.out)
          rw [HM.out] at D3
          obtain ⟨bk1,ok1,s4,e4,f4,g4,e4',f4',g4',t4,e5,f5,g5,e5',f5',g5',e6,hck,hok⟩:=hT.out.rd.val_at HN.out huN
          simp only [Option.some.injEq,Addr.mk.injEq,and_true] at e6
          obtain ⟨rfl,rfl⟩:=e6
          rw [Nat.zero_add] at hck
          have e9:mvA (bnd n0 L) s row v k i u=s.a u∧mvB (bnd n0 L) s row v k i u=s.b u:=by
           unfold mvA mvB
           have h3:¬ (s.D.B u=true∧(row u).toNat < i):=fun h=>by have:=h.2;rw [HRU.out] at this;simp at this
           rw [if_neg huv,if_neg huk,if_neg h3,if_neg huv,if_neg huk,if_neg h3];exact ⟨rfl,rfl⟩
          rw [e9.1,e9.2] at hok
          obtain ⟨ga',e6,hga⟩:=hT.out.hd_at HN.out hiL
          simp only [Option.some.injEq,Addr.mk.injEq,and_true] at e6
          subst e6
          obtain ⟨qs,qa,qk,qm,qa',qk',qm',hcq,hoq⟩:=hT.out.cell_at HN.out hiL hk
          rw [hu] at hoq
          have CK:=Lib.hid hck
          have CG:=Lib.hid hga
          have CQ:=Lib.hid hcq
          have SVU:Hid (Sz 100 (s.a u)∧Sz 100 (s.b u)):=sv u huN
          have SAU:Hid (Sz 100 (s.D.A u k)):=sA u k huN huB hk
          have HSC:Hid (∀ w',Ext wr w'→Calls Tryz.prog 62 #[.agg #[.bool qs,.slice qa qk qm,.slice qa' qk' qm'],.agg #[d0,d1,d2,d3,d4,d5]] w' (Gives w' fun v' w'=>Wd w' v' (s.D.A u k*stepA (bnd n0 L) s v k,s.D.A u k*stepB (bnd n0 L) s v k))):=fun w' X=>
           (dscale_any (hoq.ext X).rd (hQD.out.ext X).rd (SAU.out.le (by decide)) (SST.out.1.le (by decide)) (SST.out.2.le (by decide))).mono fun _ _ ⟨v,e,b,o⟩=>⟨v,e,b,o.mono (Nat.zero_le _)⟩
          have HAD:Hid (∀ w' z,Ext wr w'→Wd w' z (s.D.A u k*stepA (bnd n0 L) s v k,s.D.A u k*stepB (bnd n0 L) s v k)→Calls Tryz.prog 64 #[.agg #[.bool s4,.slice e4 f4 g4,.slice e4' f4' g4',.bool t4,.slice e5 f5 g5,.slice e5' f5' g5'],z] w' (Gives w' fun v' w'=>Wd w' v' (s.a u+s.D.A u k*stepA (bnd n0 L) s v k,s.b u+s.D.A u k*stepB (bnd n0 L) s v k))):=fun w' z X h=>
           (dadd_any (hok.ext X).rd (OwnD.rd h) (SVU.out.1.le (by decide)) (SVU.out.2.le (by decide)) ((SAU.out.mul SST.out.1).le (by decide)) ((SAU.out.mul SST.out.2).le (by decide))).mono fun _ _ ⟨v,e,b,o⟩=>⟨v,e,b,o.mono (Nat.zero_le _)⟩
          obtain ⟨g',e1,-,hRv,-⟩:=hT.out.val_base (by have:=HN.out;omega)
          simp only [Option.some.injEq,Addr.mk.injEq,and_true] at e1
          subst e1
          have RV:=Lib.hid hRv
          have huv2:bas i≠v:=by rw [hu];exact huv
          have huk2:bas i≠k:=by rw [hu];exact huk
          have HMS:Hid (∀ y,y < n0+L.length→(if y=u then s.a u+s.D.A u k*stepA (bnd n0 L) s v k else mvA (bnd n0 L) s row v k i y)=mvA (bnd n0 L) s row v k (i+1) y∧(if y=u then s.b u+s.D.A u k*stepB (bnd n0 L) s v k else mvB (bnd n0 L) s row v k i y)=mvB (bnd n0 L) s row v k (i+1) y):=fun y hy=>by
           have:=mv_step (P:=bnd n0 L) X0.out hiL huv2 huk2 y hy
           rw [hu] at this
           exact this
          have hU2:(0:Int)≤(u:Int)∧(u:Int) < (N:Int):=⟨by omega,by omega⟩
          have hne1:w1.heap.size≠gv:=by have:=hvb.out;have:=hE7.out;omega
          have hne2:E9≠gv:=by have:=hvb.out;have:=HWE.out;omega
          clear hRv hck hok hga hcq hoq e9 hir huv2 huk2 hu hbb
          obtain ⟨c0,c1,c2,c3,c4,c5,c6⟩:=D3.out.c7
          clear c0 c1 c3 c4 c5 c6
          go_upto_region 9 with (fail)
          clear c2 b1
          obtain ⟨w3,hw3⟩:∃ w0:World,w0=wr:=⟨_,rfl⟩
          subst hw3
          have b4:=drew_ext w3
          have XE:=b4
          refine wp_region_noPanic ?_
          refine wp_region_last_drew (st:=26) (S:=fun w'=>(w'.cell? ⟨bt,0,none⟩=some (.int .i64 n0)∧w'.cell? ⟨bt,1,none⟩=some (.slice al M kl)∧w'.cell? ⟨bt,2,none⟩=some (.slice (some ⟨gb,0,none⟩) M kb)∧w'.cell? ⟨bt,3,none⟩=some (.slice (some ⟨gr,0,none⟩) N kr)∧w'.cell? ⟨bt,4,none⟩=some (.slice (some ⟨ga,0,none⟩) M ka)∧w'.cell? ⟨bt,5,none⟩=some (.slice (some ⟨gv,0,none⟩) N kv)∧w'.cell? ⟨bt,6,none⟩=some (.slice (some ⟨gh,oh,none⟩) M kh))∧(w'.cell? ⟨gv,u*6,none⟩=some (.bool s4)∧w'.cell? ⟨gv,u*6+1,none⟩=some (.slice e4 f4 g4)∧w'.cell? ⟨gv,u*6+2,none⟩=some (.slice e4' f4' g4')∧w'.cell? ⟨gv,u*6+3,none⟩=some (.bool t4)∧w'.cell? ⟨gv,u*6+4,none⟩=some (.slice e5 f5 g5)∧w'.cell? ⟨gv,u*6+5,none⟩=some (.slice e5' f5' g5'))∧(w'.cell? ⟨ga,i,none⟩=some (.slice (some ⟨gs i,0,none⟩) N (ks i)))∧(w'.cell? ⟨gs i,k*3,none⟩=some (.bool qs)∧w'.cell? ⟨gs i,k*3+1,none⟩=some (.slice qa qk qm)∧w'.cell? ⟨gs i,k*3+2,none⟩=some (.slice qa' qk' qm'))∧(w'.cell? ⟨E9,0,none⟩=some (d0)∧w'.cell? ⟨E9,1,none⟩=some (d1)∧w'.cell? ⟨E9,2,none⟩=some (d2)∧w'.cell? ⟨E9,3,none⟩=some (d3)∧w'.cell? ⟨E9,4,none⟩=some (d4)∧w'.cell? ⟨E9,5,none⟩=some (d5))) (by kernel_rfl) (⟨(D3.out.ext XE).c7,(CK.out.ext XE).c6,(CG.out.ext XE).c1,(CQ.out.ext XE).c3,(hCD.out.ext XE).c6⟩) (fun hHeld=>?_)
          refine tkL 0 hHeld ?_
          simp only [jP,jA,jB,jC,jD,jE,jF]
          refine tkL 1 hHeld ?_
          simp only [jP,jA,jB,jC,jD,jE,jF]
          refine tkL 2 hHeld ?_
          simp only [jP,jA,jB,jC,jD,jE,jF]
          refine tkL 3 hHeld ?_
          simp only [jP,jA,jB,jC,jD,jE,jF]
          refine tkL 4 hHeld ?_
          simp only [jP,jA,jB,jC,jD,jE,jF]
          refine tkL 5 hHeld ?_
          simp only [jP,jA,jB,jC,jD,jE,jF]
          refine tkL 6 hHeld ?_
          simp only [jP,jA,jB,jC,jD,jE,jF]
          refine tkL 7 hHeld ?_
          simp only [jP,jA,jB,jC,jD,jE,jF]
          refine tkL 8 hHeld ?_
          simp only [jP,jA,jB,jC,jD,jE,jF]
          refine tkL 9 hHeld ?_
          simp only [jP,jA,jB,jC,jD,jE,jF]
          refine tkL 10 hHeld ?_
          simp only [jP,jA,jB,jC,jD,jE,jF]
          refine tkL 11 hHeld ?_
          simp only [jP,jA,jB,jC,jD,jE,jF]
          refine tkL 12 hHeld ?_
          simp only [jP,jA,jB,jC,jD,jE,jF]
          refine tkL 13 hHeld ?_
          simp only [jP,jA,jB,jC,jD,jE,jF]
          refine tkL 14 hHeld ?_
          simp only [jP,jA,jB,jC,jD,jE,jF]
          refine tkL 15 hHeld ?_
          simp only [jP,jA,jB,jC,jD,jE,jF]
          refine tkL 16 hHeld ?_
          simp only [jP,jA,jB,jC,jD,jE,jF]
          refine tkL 17 hHeld ?_
          simp only [jP,jA,jB,jC,jD,jE,jF]
          refine tkL 18 hHeld ?_
          simp only [jP,jA,jB,jC,jD,jE,jF]
          refine tkL 19 hHeld ?_
          simp only [jP,jA,jB,jC,jD,jE,jF]
          refine tkL 20 hHeld ?_
          simp only [jP,jA,jB,jC,jD,jE,jF]
          refine tkL 21 hHeld ?_
          simp only [jP,jA,jB,jC,jD,jE,jF]
          refine tkL 22 hHeld ?_
          simp only [jP,jA,jB,jC,jD,jE,jF]
          refine rdL 23 (by kernel_rfl) rfl (fun K hK=>?_)
          go_simp
          go_at_call 62;refine (HSC.out _ XE).mono ?_;rintro e w5 ⟨v5,rfl,b5,o5⟩;have O5:=Lib.hid o5;clear o5;(first | have XE:=Ext.trans XE b5 | have XE:=Ext.trans (Ext.trans XE (Ext.alloc _ _)) b5)
          go_wp2_with fail
          refine hK.out _ _ (⟨(D3.out.ext XE).c7,(CK.out.ext XE).c6,(CG.out.ext XE).c1,(CQ.out.ext XE).c3,(hCD.out.ext XE).c6⟩) (fun hHeld=>?_)
          clear hK K
          try simp only [jP,jA,jB,jC,jD,jE,jF]
          refine rdL 24 (by kernel_rfl) rfl (fun K hK=>?_)
          go_simp
          go_at_call 64;refine (HAD.out _ _ XE O5.out).mono ?_;rintro e w6 ⟨v6,rfl,b6,o6⟩;have O6:=Lib.hid o6;clear o6;(first | have XE:=Ext.trans XE b6 | have XE:=Ext.trans (Ext.trans XE (Ext.alloc _ _)) b6);obtain ⟨s6,a5,l5,c5,a6,l6,c6,t5,a7,l7,c7,a8,l8,c8,rfl,P6⟩:=OwnD.op O6.out
          go_wp2_with fail
          refine hK.out _ _ (⟨(D3.out.ext XE).c7,(CK.out.ext XE).c6,(CG.out.ext XE).c1,(CQ.out.ext XE).c3,(hCD.out.ext XE).c6⟩) (fun hHeld=>?_)
          clear hK K
          try simp only [jP,jA,jB,jC,jD,jE,jF]
          refine tkL 25 hHeld ?_
          simp only [jP,jA,jB,jC,jD,jE,jF]
          refine wpAnyL_ready (rs:=[26]) (by kernel_rfl) (by simp) ?_
          refine AllReadyL.last (o:=_) rfl (fun K hK=>?_)
          refine if_wantedL rfl ?_
          refine store_put 122 _ _ (by rfl) (gv) (u*6) [.bool s6,.slice a5 l5 c5,.slice a6 l6 c6,.bool t5,.slice a7 l7 c7,.slice a8 l8 c8] (by rfl) (by rfl) (RV.out.ext XE) (by first | omega | (simp;omega)) (by kernel_rfl) (by rfl) ?_
          refine hK.out _ _ ?_
          clear hK K
          try simp only [jP,jA,jB,jC,jD,jE,jF]
          refine wpAnyL_done (by kernel_rfl) ?_ _
          refine NoPanic.normal ?_
          go_wp2_with fail
          go_roundw
          case rel=>
           have RV4:=RV.out.ext XE
           exact ⟨i+1,by go_num,by omega,by
            have h1:=Below.size (putL_below (Nat.le_refl gv) [.bool s6,.slice a5 l5 c5,.slice a6 l6 c6,.bool t5,.slice a7 l7 c7,.slice a8 l8 c8] (u*6) (Below.refl gv w6))
            have h2:=Below.size XE
            omega,((hT.out.ext XE).setVal rfl (by rw [HN.out];exact huN) (cs:=[.bool s6,.slice a5 l5 c5,.slice a6 l6 c6,.bool t5,.slice a7 l7 c7,.slice a8 l8 c8]) rfl P6.out).congr (fun _ _ _ _=>rfl) (fun y hy=>HMS.out y hy) (fun _ _=>rfl) (fun _ _=>rfl),(hCE.out.ext XE).putL hne1 (u*6) [.bool s6,.slice a5 l5 c5,.slice a6 l6 c6,.bool t5,.slice a7 l7 c7,.slice a8 l8 c8],(hQE.out.ext XE).putT RV4 (by decide) (u*6) [.bool s6,.slice a5 l5 c5,.slice a6 l6 c6,.bool t5,.slice a7 l7 c7,.slice a8 l8 c8],(hCD.out.ext XE).putL hne2 (u*6) [.bool s6,.slice a5 l5 c5,.slice a6 l6 c6,.bool t5,.slice a7 l7 c7,.slice a8 l8 c8],OwnD.putT (hQD.out.ext XE) RV4 (by decide) (u*6) [.bool s6,.slice a5 l5 c5,.slice a6 l6 c6,.bool t5,.slice a7 l7 c7,.slice a8 l8 c8]⟩
          case measure=>simp [intOf] <;> omega
        ·have hiM:i=M:=by omega
         have hd:decide ((i:Int) < (M:Int))=false:=decide_eq_false (by omega)
         have hT2:Hid (TabO w0 wr bt n0 L (fun i=>s.D.A (bas i)) (mv (bnd n0 L) s v k).a (mv (bnd n0 L) s v k).b bas row gs ks al ab (some ⟨gr,0,none⟩) (some ⟨ga,0,none⟩) (some ⟨gv,0,none⟩) (some ⟨gh,oh,none⟩) kl kb kr ka kv kh):=hT.out.congr (fun _ _ _ _=>rfl) (fun u hu=>by rw [hiM,← HM.out];exact mv_end X0.out u hu) (fun _ _=>rfl) (fun _ _=>rfl)
         clear hT hiM hCD hQD hi
         have D3:=Lib.hid (hT2.out.rd.cells HN.out)
         rw [HM.out] at D3
         obtain ⟨ga',e6,hga⟩:=hT2.out.hd_at HN.out hrL.out
         simp only [Option.some.injEq,Addr.mk.injEq,and_true] at e6
         subst e6
         have d1:=hga.c1
         obtain ⟨c0,c1,c2,c3,c4,c5,c6⟩:=D3.out.c7
         clear c0 c1 c2 c3 c5 c6
         go_wp2_with (at_make;refine make_full etQR rfl _ _ rfl _ _ N rfl rfl (by omega) (by unfold maxLen;omega) ?_;intro w4 o4 b4)
         obtain ⟨w3,hw3⟩:∃ w0:World,w0=wr:=⟨_,rfl⟩
         subst hw3
         have O4:Hid (OwnRow 3 (OwnQp 115) 49 w0.heap.size w4 (.slice (some ⟨w3.heap.size,0,none⟩) N N) (tab N (nwF s v k 0))):=by
          have:=made_row (T:=OwnQp 115) (q:=0) rfl (by decide) (ownq_nil _ _) o4
          rw [rep_tab,nw_zero s v k N] at this
          exact this.mono (Below.size hT2.out.x0)
         have hws4:w2.heap.size≤w4.heap.size:=Nat.le_trans hws (Below.size b4)
         have hT4:=Lib.hid (hT2.out.ext b4)
         have hCE4:=Lib.hid (hCE.out.ext b4)
         have hQE4:=Lib.hid (hQE.out.ext b4)
         obtain ⟨g13,hg13⟩:∃ g,g=w3.heap.size:=⟨_,rfl⟩
         rw [← hg13] at O4
         have HG13:Hid (w2.heap.size≤g13):=by rw [hg13];exact hws
         rw [← hg13]
         clear o4 c4 d1 hga D3 hT2 hCE hQE b4 hg13 hws
         go_loopw [146] (fun t wr=>∃ j:Nat,t=.int .i64 j∧j≤N∧w2.heap.size≤wr.heap.size∧Hid (TabO w0 wr bt n0 L (fun i=>s.D.A (bas i)) (mv (bnd n0 L) s v k).a (mv (bnd n0 L) s v k).b bas row gs ks al ab (some ⟨gr,0,none⟩) (some ⟨ga,0,none⟩) (some ⟨gv,0,none⟩) (some ⟨gh,oh,none⟩) kl kb kr ka kv kh)∧Hid (Bx wr w1.heap.size [.bool rs,.slice ra rl rk,.slice ra' rl' rk'])∧Hid (OwnQ 115 0 wr (.agg #[.bool rs,.slice ra rl rk,.slice ra' rl' rk']) qby)∧Hid (OwnRow 3 (OwnQp 115) 49 w0.heap.size wr (.slice (some ⟨g13,0,none⟩) N N) (tab N (nwF s v k j)))) (fun t _=>N - (intOf t).toNat)
         case atStart=>exact ⟨0,rfl,Nat.zero_le _,hws4,hT4.out,hCE4.out,hQE4.out,O4.out⟩
         case round=>
          clear hws4 hT4 hCE4 hQE4 O4 w3 w4
          obtain ⟨j,rfl,hj,hws,hT,hCE,hQE,hO⟩:=hrel
          obtain ⟨g4,hg4,hBg,-,hrt13⟩:=hO.out.base (by rw [tab_len];omega) (by decide)
          simp only [Option.some.injEq,Addr.mk.injEq,and_true] at hg4
          subst hg4
          have RT:=Lib.hid hrt13
          have HB13:=Lib.hid hBg
          clear hrt13 hBg
          have hneG:∀ i,i < L.length→g13≠gs i:=fun i hi=>by have:=HG.out i hi;have:=HG13.out;have:=HWE.out;omega
          have HNG:=Lib.hid hneG
          have hneE:w1.heap.size≠g13:=by
           have:=HG13.out
           have:=hE7b.out
           omega
          clear hneG
          by_cases hjl:j < N
          ·-- [[5
           have hd:decide ((j:Int) < (N:Int))=true:=decide_eq_true (by omega)
           have HJ1:IntKind.i64.wrap ((j:Int)+1)=((j+1:Nat):Int):=by rw [IntKind.wrap_i64];omega
           have hJ2:(0:Int)≤(j:Int)∧(j:Int) < (N:Int):=⟨by omega,by omega⟩
           by_cases hjk:j=k
           ·have e8:((j:Int) != (k:Int))=false:=bneF (by omega)
            have hO2:Hid (OwnRow 3 (OwnQp 115) 49 w0.heap.size wr (.slice (some ⟨g13,0,none⟩) N N) (tab N (nwF s v k (j+1)))):=by
             have h1:=hO.out
             rw [hjk] at h1 ⊢
             rw [nw_same] at h1
             exact h1
            clear hjk hO
            go_wp2_with fail
            go_roundw
            case rel=>exact ⟨j+1,by go_num,by omega,hws,hT.out,hCE.out,hQE.out,hO2.out⟩
            case measure=>simp [intOf] <;> omega
           ·have e8:((j:Int) != (k:Int))=true:=bneT (by omega)
            obtain ⟨qs,qa,qk,qm,qa',qk',qm',hcq,hoq⟩:=hT.out.cell_at HN.out hrL.out (j:=j) hjl
            rw [hr2v.out] at hoq
            have CQ:=Lib.hid hcq
            have QQ:=Lib.hid hoq
            have HNS:=Lib.hid (nw_step (s:=s) (v:=v) (N:=N) hjk)
            have SAJ:Hid (Sz 100 (s.D.A v j)):=sA v j hv bv hjl
            rw [hqby.out] at HNS
            clear hcq hoq hjk
            generalize s.D.A v j=qj at*
            obtain ⟨w3,hw3⟩:∃ w0:World,w0=wr:=⟨_,rfl⟩
            subst hw3
            go_upto_region 17 with (fail)
            have b4:=drew_ext w3
            have XE:=b4
            refine wp_region_noPanic ?_
            refine wp_region_last_drew (st:=10) (S:=fun w'=>(w'.cell? ⟨w1.heap.size,0,none⟩=some (.bool rs)∧w'.cell? ⟨w1.heap.size,1,none⟩=some (.slice ra rl rk)∧w'.cell? ⟨w1.heap.size,2,none⟩=some (.slice ra' rl' rk'))∧(w'.cell? ⟨gs r,j*3,none⟩=some (.bool qs)∧w'.cell? ⟨gs r,j*3+1,none⟩=some (.slice qa qk qm)∧w'.cell? ⟨gs r,j*3+2,none⟩=some (.slice qa' qk' qm'))) (by kernel_rfl) (⟨(hCE.out.ext XE).c3,(CQ.out.ext XE).c3⟩) (fun hHeld=>?_)
            refine tkL 0 hHeld ?_
            simp only [jP,jA,jB,jC,jD,jE,jF]
            refine tkL 1 hHeld ?_
            simp only [jP,jA,jB,jC,jD,jE,jF]
            refine tkL 2 hHeld ?_
            simp only [jP,jA,jB,jC,jD,jE,jF]
            refine tkL 3 hHeld ?_
            simp only [jP,jA,jB,jC,jD,jE,jF]
            refine tkL 4 hHeld ?_
            simp only [jP,jA,jB,jC,jD,jE,jF]
            refine tkL 5 hHeld ?_
            simp only [jP,jA,jB,jC,jD,jE,jF]
            refine tkL 6 hHeld ?_
            simp only [jP,jA,jB,jC,jD,jE,jF]
            refine rdL 7 (by kernel_rfl) rfl (fun K hK=>?_)
            go_simp
            go_at_call 47;refine (rmul_any (hQE.out.rd.ext XE) (QQ.out.rd.ext XE) (SBY.out.le (by decide)) (SAJ.out.le (by decide))).mono ?_;rintro e w5 ⟨v5,rfl,b5,o5⟩;have O5:=Lib.hid o5;clear o5;(first | have XE:=Ext.trans XE b5 | have XE:=Ext.trans (Ext.trans XE (Ext.alloc _ _)) b5);obtain ⟨s4,a3,l3,c3,a4,l4,c4,rfl,P5⟩:=O5.out.op
            go_wp2_with fail
            refine hK.out _ _ (⟨(hCE.out.ext XE).c3,(CQ.out.ext XE).c3⟩) (fun hHeld=>?_)
            clear hK K
            try simp only [jP,jA,jB,jC,jD,jE,jF]
            refine rdL 8 (by kernel_rfl) rfl (fun K hK=>?_)
            go_simp
            go_at_call 56;refine (rneg_own P5.out).mono ?_;rintro e w6 ⟨v6,rfl,b6,o6⟩;have O6:=Lib.hid o6;clear o6;(first | have XE:=Ext.trans XE b6 | have XE:=Ext.trans (Ext.trans XE (Ext.alloc _ _)) b6);obtain ⟨s5,a5,l5,c5,a6,l6,c6,rfl,P6⟩:=O6.out.op
            go_wp2_with fail
            refine hK.out _ _ (⟨(hCE.out.ext XE).c3,(CQ.out.ext XE).c3⟩) (fun hHeld=>?_)
            clear hK K
            try simp only [jP,jA,jB,jC,jD,jE,jF]
            refine tkL 9 hHeld ?_
            simp only [jP,jA,jB,jC,jD,jE,jF]
            refine wpAnyL_ready (rs:=[10]) (by kernel_rfl) (by simp) ?_
            refine AllReadyL.last (o:=_) rfl (fun K hK=>?_)
            refine if_wantedL rfl ?_
            refine store_put 49 _ _ (by rfl) (g13) (j*3) [.bool s5,.slice a5 l5 c5,.slice a6 l6 c6] (by rfl) (by rfl) (RT.out.ext XE) (by first | omega | (simp;omega)) (by kernel_rfl) (by rfl) ?_
            refine hK.out _ _ ?_
            clear hK K
            try simp only [jP,jA,jB,jC,jD,jE,jF]
            refine wpAnyL_done (by kernel_rfl) ?_ _
            refine NoPanic.normal ?_
            go_wp2_with fail
            go_roundw
            case rel=>
             have RT4:=RT.out.ext XE
             exact ⟨j+1,by go_num,by omega,by
              have h1:=Below.size (putL_below (Nat.le_refl g13) [.bool s5,.slice a5 l5 c5,.slice a6 l6 c6] (j*3) (Below.refl g13 w6))
              have h2:=Below.size XE
              omega,(hT.out.ext XE).put13 RT4 HNG.out HB13.out (j*3) [.bool s5,.slice a5 l5 c5,.slice a6 l6 c6],(hCE.out.ext XE).putL hneE (j*3) [.bool s5,.slice a5 l5 c5,.slice a6 l6 c6],(hQE.out.ext XE).putT RT4 (by decide) (j*3) [.bool s5,.slice a5 l5 c5,.slice a6 l6 c6],by
              rw [← HNS.out]
              exact (hO.out.ext OwnQ.ext XE).setL j (by rw [tab_len];exact hjl) (cs:=[.bool s5,.slice a5 l5 c5,.slice a6 l6 c6]) rfl (fun v b h=>OwnQ.putT h RT4 (by decide) (j*3) [.bool s5,.slice a5 l5 c5,.slice a6 l6 c6]) (P6.out.putT RT4 (by decide) (j*3) [.bool s5,.slice a5 l5 c5,.slice a6 l6 c6])⟩
            case measure=>simp [intOf] <;> omega
          ·have hjN:j=N:=by omega
           have hd:decide ((j:Int) < (N:Int))=false:=decide_eq_false (by omega)
           rw [hjN] at hO
           clear hj hjN
           obtain ⟨_,_,_,j0,j1,j2,i0,i1,i2⟩:=RT.out.may3 (v*3) (by omega)
           obtain ⟨q0',q1',q2'⟩:=hCE.out.c3
           go_upto_region 19 with (fail)
           go_cut [13] (fun s13 wx=>s13=.slice (some ⟨g13,0,none⟩) N N∧w2.heap.size≤wx.heap.size∧Hid (TabO w0 wx bt n0 L (fun i=>s.D.A (bas i)) (mv (bnd n0 L) s v k).a (mv (bnd n0 L) s v k).b bas row gs ks al ab (some ⟨gr,0,none⟩) (some ⟨ga,0,none⟩) (some ⟨gv,0,none⟩) (some ⟨gh,oh,none⟩) kl kb kr ka kv kh)∧Hid (OwnRow 3 (OwnQp 115) 49 w0.heap.size wx (.slice (some ⟨g13,0,none⟩) N N) (tab N (pvN s v k))))
           case first=>
            as_aux_lemma=>
             go_wp2_with fail
             go_meet
             refine ⟨rfl,by
              have h1:=Below.size (putL_below (Nat.le_refl g13) [.bool rs,.slice ra rl rk,.slice ra' rl' rk'] (v*3) (Below.refl g13 wr))
              exact Nat.le_trans hws h1,hT.out.put13 RT.out HNG.out HB13.out (v*3) [.bool rs,.slice ra rl rk,.slice ra' rl' rk'],?_⟩
             have h3:=hO.out.setL v (by rw [tab_len];exact hv) (cs:=[.bool rs,.slice ra rl rk,.slice ra' rl' rk']) rfl (fun v b h=>OwnQ.putT h RT.out (by decide) _ _) (hQE.out.putT RT.out (by decide) (v*3) _)
             rw [← hqby.out,nw_end] at h3
             exact h3
           case rest=>
            as_aux_lemma=>
             clear j0 j1 j2 i0 i1 i2 q0' q1' q2' hT hO hws RT hCE hQE
             obtain ⟨rfl,hws,hT,hO⟩:=hcut
             obtain ⟨w3,hw3⟩:∃ w0:World,w0=wc:=⟨_,rfl⟩
             subst hw3
             have hT3:=Lib.hid (hT.out.congr (A':=pvI s bas v k r 0) (fun i j _ _=>pv_zero i j) (fun _ _=>⟨rfl,rfl⟩) (fun _ _=>rfl) (fun _ _=>rfl))
             have D3:=Lib.hid (hT.out.rd.cells HN.out)
             rw [HM.out] at D3
             obtain ⟨c0,c1,c2,c3,c4,c5,c6⟩:=D3.out.c7
             clear c0 c1 c2 c3 c5 c6
             go_wp2_with fail
             clear c4 D3 hT
             go_loopw [172] (fun t wr=>∃ i:Nat,t=.int .i64 i∧i≤M∧w2.heap.size≤wr.heap.size∧Hid (TabO w0 wr bt n0 L (pvI s bas v k r i) (mv (bnd n0 L) s v k).a (mv (bnd n0 L) s v k).b bas row gs ks al ab (some ⟨gr,0,none⟩) (some ⟨ga,0,none⟩) (some ⟨gv,0,none⟩) (some ⟨gh,oh,none⟩) kl kb kr ka kv kh)∧Hid (OwnRow 3 (OwnQp 115) 49 w0.heap.size wr (.slice (some ⟨g13,0,none⟩) N N) (tab N (pvN s v k)))) (fun t _=>M - (intOf t).toNat)
             case atStart=>exact ⟨0,rfl,Nat.zero_le _,hws,hT3.out,hO.out⟩
             case round=>
              clear hws hT3 hO w3 hd hjl
              obtain ⟨i,rfl,hi,hws,hT,hO⟩:=hrel
              by_cases hil:i < M
              ·-- [[6
               have hd:decide ((i:Int) < (M:Int))=true:=decide_eq_true (by omega)
               have HI1:IntKind.i64.wrap ((i:Int)+1)=((i+1:Nat):Int):=by rw [IntKind.wrap_i64];omega
               have hI2:(0:Int)≤(i:Int)∧(i:Int) < (M:Int):=⟨by omega,by omega⟩
               have hiL:i < L.length:=by rw [HM.out];exact hil
               obtain ⟨u,hu⟩:∃ u,bas i=u:=⟨_,rfl⟩
               have huN:u < N:=by rw [← hu,← HN.out];exact (X0.out.bs i hiL).1
               have HRU:row u=(i:Int):=by rw [← hu];exact (X0.out.bs i hiL).2
               have huB:s.D.B u=true:=(X0.out.rw1 u (by rw [HN.out];exact huN)).2.2 (by rw [HRU];omega)
               have huk:bas i≠k:=fun e=>by rw [← hu,e,bk] at huB;cases huB
               have SAU:Hid (∀ j,j < N→Sz 100 (s.D.A u j)):=fun j hj=>sA u j huN huB hj
               have D3:=Lib.hid (hT.out.rd.cells HN.out)
               rw [HM.out] at D3
               obtain ⟨ga',e6,hga⟩:=hT.out.hd_at HN.out hiL
               simp only [Option.some.injEq,Addr.mk.injEq,and_true] at e6
               subst e6
               obtain ⟨qs,qa,qk,qm,qa',qk',qm',hcq,hoq⟩:=hT.out.cell_at HN.out hiL hk
               rw [pvI_at,hu] at hoq
               obtain ⟨w4,hw4,b4,c4',-,-⟩:=bx1 wr [.bool qs,.slice qa qk qm,.slice qa' qk' qm'] 49
               have HW:=Lib.hid hw4
               have CC:=Lib.hid c4'
               have QC:=Lib.hid (hoq.ext b4)
               have HCB:Hid (w2.heap.size≤wr.heap.size):=hws
               have hws4:w2.heap.size≤w4.heap.size:=Nat.le_trans hws (Below.size b4)
               have hT4:=Lib.hid (hT.out.ext b4)
               have hO4:=Lib.hid (hO.out.ext OwnQ.ext b4)
               have HSG:Hid (Calls Tryz.prog 49 #[.agg #[.bool qs,.slice qa qk qm,.slice qa' qk' qm']] w4 (Gives w4 fun v' _=>v'=.int .i64 (s.D.A u k).num.sign)):=rsign_any QC.out.rd
               obtain ⟨c0,c1,c2,c3,c4,c5,c6⟩:=D3.out.c7
               clear c0 c1 c2 c3 c5 c6
               have d1:=hga.c1
               obtain ⟨u0,u1,u2⟩:=hcq.c3
               clear hw4 c4' hoq hcq hga D3 hT hO hws
               go_upto_region 24 with (fail)
               rw [← HW.out]
               clear HW c4 d1 u0 u1 u2
               by_cases hir:i=r
               ·have e8:((i:Int) == (r:Int))=true:=beqT (by omega)
                have hT2:=Lib.hid (hT4.out.congr (A':=pvI s bas v k r (i+1)) (fun i' j _ _=>pv_skip (.inl hir) i' j) (fun _ _=>⟨rfl,rfl⟩) (fun _ _=>rfl) (fun _ _=>rfl))
                clear hir hT4
                go_wp2_with fail
                go_roundw
                case rel=>exact ⟨i+1,by go_num,by omega,hws4,hT2.out,hO4.out⟩
                case measure=>simp [intOf] <;> omega
               ·have e8:((i:Int) == (r:Int))=false:=beqF (by omega)
                have HIR:=Lib.hid hir
                clear hir
                obtain ⟨g0,g1,g2⟩:=CC.out.c3
                by_cases hq0:s.D.A u k=0
                ·have e3:(s.D.A u k).num.sign=0:=num_sign_zero.2 hq0
                 have hT2:=Lib.hid (hT4.out.congr (A':=pvI s bas v k r (i+1)) (fun i' j _ _=>pv_skip (.inr ⟨by rw [hu];exact hq0,huk⟩) i' j) (fun _ _=>⟨rfl,rfl⟩) (fun _ _=>rfl) (fun _ _=>rfl))
                 rw [e3] at HSG
                 clear hq0 e3 hT4
                 go_wp2_with fail
                 refine HSG.out.mono ?_
                 rintro e w5 ⟨_,rfl,b5,rfl⟩
                 clear g0 g1 g2
                 go_wp2_with fail
                 go_roundw
                 case rel=>exact ⟨i+1,by go_num,by omega,Nat.le_trans hws4 (Below.size b5),hT2.out.ext b5,hO4.out.ext OwnQ.ext b5⟩
                 case measure=>simp [intOf] <;> omega
                ·have e3:((s.D.A u k).num.sign == 0)=false:=beqF fun h=>hq0 (num_sign_zero.1 h)
                 generalize (s.D.A u k).num.sign=sq at*
                 go_wp2_with fail
                 refine HSG.out.mono ?_
                 rintro e w5 ⟨_,rfl,b5,rfl⟩
                 have hT5:=Lib.hid ((hT4.out.ext b5).congr (A':=pvJ s bas v k r i 0) (fun i' j _ _=>pvJ_zero i' j) (fun _ _=>⟨rfl,rfl⟩) (fun _ _=>rfl) (fun _ _=>rfl))
                 have hO5:=Lib.hid (hO4.out.ext OwnQ.ext b5)
                 have CC5:=Lib.hid (CC.out.ext b5)
                 have QC5:=Lib.hid (QC.out.ext b5)
                 have hws5:=Nat.le_trans hws4 (Below.size b5)
                 clear g0 g1 g2 HSG hT4 hO4 CC QC hws4 hq0 b4 b5
                 obtain ⟨E16,h16⟩:∃ E,E=wr.heap.size:=⟨_,rfl⟩
                 rw [← h16] at CC5 HCB ⊢
                 clear h16
                 go_wp2_with fail
                 go_loopw [195] (fun t wx=>∃ j:Nat,t=.int .i64 j∧j≤N∧w2.heap.size≤wx.heap.size∧Hid (TabO w0 wx bt n0 L (pvJ s bas v k r i j) (mv (bnd n0 L) s v k).a (mv (bnd n0 L) s v k).b bas row gs ks al ab (some ⟨gr,0,none⟩) (some ⟨ga,0,none⟩) (some ⟨gv,0,none⟩) (some ⟨gh,oh,none⟩) kl kb kr ka kv kh)∧Hid (OwnRow 3 (OwnQp 115) 49 w0.heap.size wx (.slice (some ⟨g13,0,none⟩) N N) (tab N (pvN s v k)))∧Hid (Bx wx E16 [.bool qs,.slice qa qk qm,.slice qa' qk' qm'])∧Hid (OwnQ 115 0 wx (.agg #[.bool qs,.slice qa qk qm,.slice qa' qk' qm']) (s.D.A u k))) (fun t _=>N - (intOf t).toNat)
                 case atStart=>exact ⟨0,rfl,Nat.zero_le _,hws5,hT5.out,hO5.out,CC5.out,QC5.out⟩
                 case round=>
                  clear hws5 hT5 hO5 CC5 QC5 w5 w4
                  obtain ⟨j,rfl,hj,hws,hT,hO,hCC,hQC⟩:=hrel
                  obtain ⟨w3,hw3⟩:∃ w0:World,w0=wr:=⟨_,rfl⟩
                  subst hw3
                  have D3:=Lib.hid (hT.out.rd.cells HN.out)
                  rw [HM.out] at D3
                  obtain ⟨ga',e6,hga⟩:=hT.out.hd_at HN.out hiL
                  simp only [Option.some.injEq,Addr.mk.injEq,and_true] at e6
                  subst e6
                  have CG:=Lib.hid hga
                  obtain ⟨-,hRt,-⟩:=hT.out.row_base hiL
                  have hks:=(hT.out.row_base hiL).2.2
                  rw [HN.out] at hks
                  have RI:=Lib.hid hRt
                  clear hga hRt
                  have hne16:E16≠gs i:=by have:=HG.out i hiL;have:=HWE.out;have:=HCB.out;omega
                  have hne13:g13≠gs i:=HNG.out i hiL
                  by_cases hjl:j < N
                  ·have hd:decide ((j:Int) < (N:Int))=true:=decide_eq_true (by omega)
                   have HJ1:IntKind.i64.wrap ((j:Int)+1)=((j+1:Nat):Int):=by rw [IntKind.wrap_i64];omega
                   have hJ2:(0:Int)≤(j:Int)∧(j:Int) < (N:Int):=⟨by omega,by omega⟩
                   obtain ⟨ps,pa,pk,pm,pa',pk',pm',hcp,hop⟩:=hT.out.cell_at HN.out hiL hjl
                   rw [pvJ_at,hu] at hop
                   obtain ⟨bn,on,ns,na,nl,nk,na',nl',nk',e6,hcn,hon⟩:=hO.out.rd.oq j (by rw [tab_len];exact hjl)
                   simp only [Option.some.injEq,Addr.mk.injEq,and_true] at e6
                   obtain ⟨rfl,rfl⟩:=e6
                   rw [tab_gt hjl] at hon
                   rw [Nat.zero_add] at hcn
                   have CP:=Lib.hid hcp
                   have QP:=Lib.hid hop
                   have CN:=Lib.hid hcn
                   have QN:=Lib.hid hon
                   have SZN:Hid (Sz 300 (pvN s v k j)):=by
                    show Sz _ _
                    unfold pvN
                    split
                    ·rw [hqby.out];exact SBY.out.le (by decide)
                    ·split
                     ·exact Sz.zero.le (by decide)
                     ·rw [hqby.out];exact ((SBY.out.mul (sA v j hv bv hjl)).neg).le (by decide)
                   have SC:Hid (Sz 100 (s.D.A u k)):=SAU.out k hk
                   have SP:Hid (Sz 100 (s.D.A u j)):=SAU.out j hjl
                   have HST:Hid (∀ i' j',i' < L.length→j' < n0+L.length→(if i'=i∧j'=j then s.D.A u j+s.D.A u k*pvN s v k j else pvJ s bas v k r i j i' j')=pvJ s bas v k r i (j+1) i' j'):=fun i' j' _ _=>by rw [← hu];exact pvJ_step j i' j'
                   clear hcp hop hcn hon
                   go_upto_region 28 with (fail)
                   have b4:=drew_ext w3
                   have XE:=b4
                   refine wp_region_noPanic ?_
                   refine wp_region_last_drew (st:=26) (S:=fun w'=>(w'.cell? ⟨bt,0,none⟩=some (.int .i64 n0)∧w'.cell? ⟨bt,1,none⟩=some (.slice al M kl)∧w'.cell? ⟨bt,2,none⟩=some (.slice ab M kb)∧w'.cell? ⟨bt,3,none⟩=some (.slice (some ⟨gr,0,none⟩) N kr)∧w'.cell? ⟨bt,4,none⟩=some (.slice (some ⟨ga,0,none⟩) M ka)∧w'.cell? ⟨bt,5,none⟩=some (.slice (some ⟨gv,0,none⟩) N kv)∧w'.cell? ⟨bt,6,none⟩=some (.slice (some ⟨gh,oh,none⟩) M kh))∧(w'.cell? ⟨ga,i,none⟩=some (.slice (some ⟨gs i,0,none⟩) N (ks i)))∧(w'.cell? ⟨gs i,j*3,none⟩=some (.bool ps)∧w'.cell? ⟨gs i,j*3+1,none⟩=some (.slice pa pk pm)∧w'.cell? ⟨gs i,j*3+2,none⟩=some (.slice pa' pk' pm'))∧(w'.cell? ⟨E16,0,none⟩=some (.bool qs)∧w'.cell? ⟨E16,1,none⟩=some (.slice qa qk qm)∧w'.cell? ⟨E16,2,none⟩=some (.slice qa' qk' qm'))∧(w'.cell? ⟨g13,j*3,none⟩=some (.bool ns)∧w'.cell? ⟨g13,j*3+1,none⟩=some (.slice na nl nk)∧w'.cell? ⟨g13,j*3+2,none⟩=some (.slice na' nl' nk'))) (by kernel_rfl) (⟨(D3.out.ext XE).c7,(CG.out.ext XE).c1,(CP.out.ext XE).c3,(hCC.out.ext XE).c3,(CN.out.ext XE).c3⟩) (fun hHeld=>?_)
                   refine tkL 0 hHeld ?_
                   simp only [jP,jA,jB,jC,jD,jE,jF]
                   refine tkL 1 hHeld ?_
                   simp only [jP,jA,jB,jC,jD,jE,jF]
                   refine tkL 2 hHeld ?_
                   simp only [jP,jA,jB,jC,jD,jE,jF]
                   refine tkL 3 hHeld ?_
                   simp only [jP,jA,jB,jC,jD,jE,jF]
                   refine tkL 4 hHeld ?_
                   simp only [jP,jA,jB,jC,jD,jE,jF]
                   refine tkL 5 hHeld ?_
                   simp only [jP,jA,jB,jC,jD,jE,jF]
                   refine tkL 6 hHeld ?_
                   simp only [jP,jA,jB,jC,jD,jE,jF]
                   refine tkL 7 hHeld ?_
                   simp only [jP,jA,jB,jC,jD,jE,jF]
                   refine tkL 8 hHeld ?_
                   simp only [jP,jA,jB,jC,jD,jE,jF]
                   refine tkL 9 hHeld ?_
                   simp only [jP,jA,jB,jC,jD,jE,jF]
                   refine tkL 10 hHeld ?_
                   simp only [jP,jA,jB,jC,jD,jE,jF]
                   refine tkL 11 hHeld ?_
                   simp only [jP,jA,jB,jC,jD,jE,jF]
                   refine tkL 12 hHeld ?_
                   simp only [jP,jA,jB,jC,jD,jE,jF]
                   refine tkL 13 hHeld ?_
                   simp only [jP,jA,jB,jC,jD,jE,jF]
                   refine tkL 14 hHeld ?_
                   simp only [jP,jA,jB,jC,jD,jE,jF]
                   refine tkL 15 hHeld ?_
                   simp only [jP,jA,jB,jC,jD,jE,jF]
                   refine tkL 16 hHeld ?_
                   simp only [jP,jA,jB,jC,jD,jE,jF]
                   refine tkL 17 hHeld ?_
                   simp only [jP,jA,jB,jC,jD,jE,jF]
                   refine tkL 18 hHeld ?_
                   simp only [jP,jA,jB,jC,jD,jE,jF]
                   refine tkL 19 hHeld ?_
                   simp only [jP,jA,jB,jC,jD,jE,jF]
                   refine tkL 20 hHeld ?_
                   simp only [jP,jA,jB,jC,jD,jE,jF]
                   refine tkL 21 hHeld ?_
                   simp only [jP,jA,jB,jC,jD,jE,jF]
                   refine tkL 22 hHeld ?_
                   simp only [jP,jA,jB,jC,jD,jE,jF]
                   refine rdL 23 (by kernel_rfl) rfl (fun K hK=>?_)
                   go_simp
                   go_at_call 47;refine (rmul_any (hQC.out.rd.ext XE) (QN.out.rd.ext XE) (SC.out.le (by decide)) (SZN.out.le (by decide))).mono ?_;rintro e w5 ⟨v5,rfl,b5,o5⟩;have O5:=Lib.hid o5;clear o5;(first | have XE:=Ext.trans XE b5 | have XE:=Ext.trans (Ext.trans XE (Ext.alloc _ _)) b5);obtain ⟨s4,a3,l3,c3,a4,l4,c4,rfl,P5⟩:=O5.out.op
                   go_wp2_with fail
                   refine hK.out _ _ (⟨(D3.out.ext XE).c7,(CG.out.ext XE).c1,(CP.out.ext XE).c3,(hCC.out.ext XE).c3,(CN.out.ext XE).c3⟩) (fun hHeld=>?_)
                   clear hK K
                   try simp only [jP,jA,jB,jC,jD,jE,jF]
                   refine rdL 24 (by kernel_rfl) rfl (fun K hK=>?_)
                   go_simp
                   go_at_call 65;refine (radd_any (QP.out.rd.ext XE) P5.out.rd (SP.out.le (by decide)) ((SC.out.mul SZN.out).le (by decide))).mono ?_;rintro e w6 ⟨v6,rfl,b6,o6⟩;have O6:=Lib.hid o6;clear o6;(first | have XE:=Ext.trans XE b6 | have XE:=Ext.trans (Ext.trans XE (Ext.alloc _ _)) b6);obtain ⟨s5,a5,l5,c5,a6,l6,c6,rfl,P6⟩:=O6.out.op
                   go_wp2_with fail
                   refine hK.out _ _ (⟨(D3.out.ext XE).c7,(CG.out.ext XE).c1,(CP.out.ext XE).c3,(hCC.out.ext XE).c3,(CN.out.ext XE).c3⟩) (fun hHeld=>?_)
                   clear hK K
                   try simp only [jP,jA,jB,jC,jD,jE,jF]
                   refine tkL 25 hHeld ?_
                   simp only [jP,jA,jB,jC,jD,jE,jF]
                   refine wpAnyL_ready (rs:=[26]) (by kernel_rfl) (by simp) ?_
                   refine AllReadyL.last (o:=_) rfl (fun K hK=>?_)
                   refine if_wantedL rfl ?_
                   refine store_put 49 _ _ (by rfl) (gs i) (j*3) [.bool s5,.slice a5 l5 c5,.slice a6 l6 c6] (by rfl) (by rfl) (RI.out.ext XE) (by first | omega | (simp;omega)) (by kernel_rfl) (by rfl) ?_
                   refine hK.out _ _ ?_
                   clear hK K
                   try simp only [jP,jA,jB,jC,jD,jE,jF]
                   refine wpAnyL_done (by kernel_rfl) ?_ _
                   refine NoPanic.normal ?_
                   go_wp2_with fail
                   go_roundw
                   case rel=>
                    have RT4:=RI.out.ext XE
                    exact ⟨j+1,by go_num,by omega,by
                     have h1:=Below.size (putL_below (Nat.le_refl (gs i)) [.bool s5,.slice a5 l5 c5,.slice a6 l6 c6] (j*3) (Below.refl (gs i) w6))
                     have h2:=Below.size XE
                     omega,((hT.out.ext XE).setA hiL (by rw [HN.out];exact hjl) (cs:=[.bool s5,.slice a5 l5 c5,.slice a6 l6 c6]) rfl (P6.out.mono (Nat.zero_le _))).congr HST.out (fun _ _=>⟨rfl,rfl⟩) (fun _ _=>rfl) (fun _ _=>rfl),(hO.out.ext OwnQ.ext XE).keep (fun b hb=>by
                      simp only [Option.some.injEq,Addr.mk.injEq,and_true] at hb
                      subst hb
                      exact putL_block (gs i) hne13 [.bool s5,.slice a5 l5 c5,.slice a6 l6 c6] w6 (j*3)) (fun v b h=>OwnQ.putT h RT4 (by decide) (j*3) [.bool s5,.slice a5 l5 c5,.slice a6 l6 c6]),(hCC.out.ext XE).putL hne16 (j*3) [.bool s5,.slice a5 l5 c5,.slice a6 l6 c6],(hQC.out.ext XE).putT RT4 (by decide) (j*3) [.bool s5,.slice a5 l5 c5,.slice a6 l6 c6]⟩
                   case measure=>simp [intOf] <;> omega
                  ·have hjN:j=N:=by omega
                   have hd:decide ((j:Int) < (N:Int))=false:=decide_eq_false (by omega)
                   rw [hjN] at hT
                   clear hj hjN
                   have HPR:Hid (∀ i' j',i' < L.length→j' < n0+L.length→(if i'=i∧j'=k then 0 else pvJ s bas v k r i N i' j')=pvI s bas v k r (i+1) i' j'):=fun i' j' _ h=>pv_row HIR.out huk i' j' (by rw [← HN.out];exact h)
                   obtain ⟨_,_,_,j0,j1,j2,i0,i1,i2⟩:=RI.out.may3 (k*3) (by omega)
                   obtain ⟨c0,c1,c2,c3,c4,c5,c6⟩:=D3.out.c7
                   clear c0 c1 c2 c3 c5 c6
                   have d1:=CG.out.c1
                   go_wp2_with fail
                   go_roundw
                   case rel=>
                    have RT4:=RI.out
                    exact ⟨i+1,by go_num,by omega,by
                     have h1:=Below.size (putL_below (Nat.le_refl (gs i)) [.bool false,.slice none 0 0,.slice none 0 0] (k*3) (Below.refl (gs i) w3))
                     exact Nat.le_trans hws h1,((hT.out.setA hiL (by rw [HN.out];exact hk) (cs:=[.bool false,.slice none 0 0,.slice none 0 0]) rfl (ownq_nil _ _)).congr HPR.out (fun _ _=>⟨rfl,rfl⟩) (fun _ _=>rfl) (fun _ _=>rfl)),hO.out.keep (fun b hb=>by
                      simp only [Option.some.injEq,Addr.mk.injEq,and_true] at hb
                      subst hb
                      exact putL_block (gs i) hne13 [.bool false,.slice none 0 0,.slice none 0 0] w3 (k*3)) (fun v b h=>OwnQ.putT h RT4 (by decide) (k*3) [.bool false,.slice none 0 0,.slice none 0 0])⟩
                   case measure=>simp [intOf] <;> omega
              ·have hiM:i=M:=by omega
               have hd:decide ((i:Int) < (M:Int))=false:=decide_eq_false (by omega)
               rw [hiM] at hT
               clear hiM hi
               obtain ⟨w3,hw3⟩:∃ w0:World,w0=wr:=⟨_,rfl⟩
               subst hw3
               have D3:=Lib.hid (hT.out.rd.cells HN.out)
               rw [HM.out] at D3
               obtain ⟨ga',e6,-,hRg,hka⟩:=hT.out.hd_base (by have:=hrL.out;omega)
               simp only [Option.some.injEq,Addr.mk.injEq,and_true] at e6
               subst e6
               rw [HM.out] at hka
               obtain ⟨⟨_,j0⟩,i0⟩:=hRg.may r (by omega)
               obtain ⟨c0,c1,c2,c3,c4,c5,c6⟩:=D3.out.c7
               clear c0 c1 c2 c3 c5 c6
               have hOW:OwnRow 3 (OwnQp 115) 49 w0.heap.size w3 (.slice (some ⟨g13,0,none⟩) (n0+L.length) N) (tab (n0+L.length) (pvN s v k)):=by rw [HN.out];exact hO.out
               have hT5:=Lib.hid (((hT.out.setHdr' rfl hrL.out hOW HNG.out).congr (A':=fun i=>(mv (bnd n0 L) s v k).D.A (mvBas bas r k i)) (fun i j h _=>pv_end i j (by rw [← HM.out];exact h)) (fun _ _=>⟨rfl,rfl⟩) (fun _ _=>rfl) (fun _ _=>rfl)))
               rw [HN.out] at hT5
               clear hT hO hOW
               go_upto_region 32 with (fail)
               go_cut [6] (fun s6 wx=>s6=.int .i64 r∧Hid (TabO w0 wx bt n0 L (fun i=>(mv (bnd n0 L) s v k).D.A (mvBas bas r k i)) (mv (bnd n0 L) s v k).a (mv (bnd n0 L) s v k).b bas row (fun i=>if i=r then g13 else gs i) (fun i=>if i=r then N else ks i) al ab (some ⟨gr,0,none⟩) (some ⟨ga,0,none⟩) (some ⟨gv,0,none⟩) (some ⟨gh,oh,none⟩) kl kb kr ka kv kh))
               case first=>
                as_aux_lemma=>
                 go_wp2_with fail
                 go_meet
                 exact ⟨rfl,hT5.out⟩
               case rest=>
                as_aux_lemma=>
                 clear hT5 D3 j0 i0 c4 hws hRg
                 obtain ⟨rfl,hT⟩:=hcut
                 clear w3
                 obtain ⟨w3,hw3⟩:∃ w0:World,w0=wc:=⟨_,rfl⟩
                 subst hw3
                 obtain ⟨gb,e6,-,hRb,hkb⟩:=hT.out.ba_base (by have:=hrL.out;omega)
                 subst e6
                 obtain ⟨gr',e6,-,hRr,hkr⟩:=hT.out.ro_base (by have:=hrL.out;omega)
                 simp only [Option.some.injEq,Addr.mk.injEq,and_true] at e6
                 subst e6
                 have hbr:gb≠gr:=fun e=>by
                  have:=hT.out.db (by rw [e])
                  cases this
                 have hrb:gr≠gb:=fun e=>hbr e.symm
                 rw [HM.out] at hkb
                 rw [HN.out] at hkr
                 obtain ⟨⟨_,j0⟩,i0⟩:=hRb.may r (by omega)
                 obtain ⟨⟨_,j1⟩,i1⟩:=hRr.may k (by omega)
                 obtain ⟨⟨_,j2⟩,i2⟩:=hRr.may v (by omega)
                 have D3:=Lib.hid (hT.out.rd.cells HN.out)
                 rw [HM.out] at D3
                 have hbb:bt≠gb:=hT.out.rt.ne hRb (by decide)
                 have hbr2:bt≠gr:=hT.out.rt.ne hRr (by decide)
                 have hvk2:v≠k:=fun e=>by rw [← e,bv] at bk;cases bk
                 have hkv3:k≠v:=fun e=>hvk2 e.symm
                 go_upto_region 33 with (fail)
                 have b4:=drew_ext w3
                 have XE:=b4
                 refine wp_region_noPanic ?_
                 refine wp_region_last_drew (st:=22) (S:=fun w'=>w'.cell? ⟨bt,0,none⟩=some (.int .i64 n0)∧w'.cell? ⟨bt,1,none⟩=some (.slice al M kl)∧w'.cell? ⟨bt,2,none⟩=some (.slice (some ⟨gb,0,none⟩) M kb)∧w'.cell? ⟨bt,3,none⟩=some (.slice (some ⟨gr,0,none⟩) N kr)∧w'.cell? ⟨bt,4,none⟩=some (.slice (some ⟨ga,0,none⟩) M ka)∧w'.cell? ⟨bt,5,none⟩=some (.slice (some ⟨gv,0,none⟩) N kv)∧w'.cell? ⟨bt,6,none⟩=some (.slice (some ⟨gh,oh,none⟩) M kh)) (by kernel_rfl) ((D3.out.ext XE).c7) (fun hHeld=>?_)
                 refine tkL 0 hHeld ?_
                 simp only [jP,jA,jB,jC,jD,jE,jF]
                 refine tkL 1 hHeld ?_
                 simp only [jP,jA,jB,jC,jD,jE,jF]
                 refine tkL 2 hHeld ?_
                 simp only [jP,jA,jB,jC,jD,jE,jF]
                 refine tkL 3 hHeld ?_
                 simp only [jP,jA,jB,jC,jD,jE,jF]
                 refine tkL 4 hHeld ?_
                 simp only [jP,jA,jB,jC,jD,jE,jF]
                 refine tkL 5 hHeld ?_
                 simp only [jP,jA,jB,jC,jD,jE,jF]
                 refine tkL 6 hHeld ?_
                 simp only [jP,jA,jB,jC,jD,jE,jF]
                 refine tkL 7 hHeld ?_
                 simp only [jP,jA,jB,jC,jD,jE,jF]
                 refine tkL 8 hHeld ?_
                 simp only [jP,jA,jB,jC,jD,jE,jF]
                 refine tkL 9 hHeld ?_
                 simp only [jP,jA,jB,jC,jD,jE,jF]
                 refine tkL 10 hHeld ?_
                 simp only [jP,jA,jB,jC,jD,jE,jF]
                 refine tkL 11 hHeld ?_
                 simp only [jP,jA,jB,jC,jD,jE,jF]
                 refine tkL 12 hHeld ?_
                 simp only [jP,jA,jB,jC,jD,jE,jF]
                 refine tkL 13 hHeld ?_
                 simp only [jP,jA,jB,jC,jD,jE,jF]
                 refine tkL 14 hHeld ?_
                 simp only [jP,jA,jB,jC,jD,jE,jF]
                 refine tkL 15 hHeld ?_
                 simp only [jP,jA,jB,jC,jD,jE,jF]
                 refine tkL 16 hHeld ?_
                 simp only [jP,jA,jB,jC,jD,jE,jF]
                 refine tkL 17 hHeld ?_
                 simp only [jP,jA,jB,jC,jD,jE,jF]
                 refine rdL 18 (by kernel_rfl) rfl (fun K hK=>?_)
                 go_simp
                 refine hK.out _ _ (((D3.out.ext XE).putL hbb r [.int .i64 k]).c7) (fun hHeld=>?_)
                 clear hK K
                 try simp only [jP,jA,jB,jC,jD,jE,jF]
                 refine tkL 19 hHeld ?_
                 simp only [jP,jA,jB,jC,jD,jE,jF]
                 refine rdL 20 (by kernel_rfl) rfl (fun K hK=>?_)
                 go_simp
                 refine hK.out _ _ ((((D3.out.ext XE).putL hbb r [.int .i64 k]).putL hbr2 k [.int .i64 r]).c7) (fun hHeld=>?_)
                 clear hK K
                 try simp only [jP,jA,jB,jC,jD,jE,jF]
                 refine tkL 21 hHeld ?_
                 simp only [jP,jA,jB,jC,jD,jE,jF]
                 refine wpAnyL_ready (rs:=[22]) (by kernel_rfl) (by simp) ?_
                 refine AllReadyL.last (o:=_) rfl (fun K hK=>?_)
                 go_simp
                 refine hK.out _ _ ?_
                 clear hK K
                 try simp only [jP,jA,jB,jC,jD,jE,jF]
                 refine wpAnyL_done (by kernel_rfl) ?_ _
                 refine NoPanic.normal ?_
                 go_wp2_with fail
                 have hT9:=Lib.hid ((((hT.out.ext XE).setBas' (k:=k) rfl hrL.out).setRow' (v:=k) (z:=(r:Int)) rfl (by rw [HN.out];exact hk)).setRow' (v:=v) (z := -1) rfl (by rw [HN.out];exact hv))
                 clear hT D3 hHeld j0 j1 j2 i0 i1 i2
                 refine bodyPost_end (v:=.tuple #[]) (by kernel_rfl) rfl ?_
                 refine hR.out _ _ ⟨rfl,fun i=>if i=r then g13 else gs i,fun i=>if i=r then N else ks i,?_⟩
                 have hb9:mvBas bas r k=fun i=>if i=r then k else bas i:=by
                  funext i;rfl
                 have hr9:mvRow row v k (row v)=fun u=>if u=v then -1 else if u=k then (r:Int) else row u:=by
                  funext u;rw [h0r.out];rfl
                 rw [hb9,hr9]
                 exact hT9.out.atW (by kernel_rfl)
end Go.Proofs.YthpaifdfafjlcaaGreat
