/- A group of texts: Frame, FrameN, FrameD, FrameR, FrameE, FrameA -/
import Derived.Test.YthpaifdfafjlcaaGreatRows
import Derived.Test.YthpaifdfafjlcaaGreatNumAll
import Derived.ProofKit
import Derived.OpenShut
import Derived.JoinedCond
import Derived.Test.YthpaifdfafjlcaaGreatRatPlain
import Derived.Lib.SmallJoins
import Derived.Test.YthpaifdfafjlcaaGreatRowAll
import Derived.Deep.Strs
import Derived.Deep.Slices
import Derived.Test.YthpaifdfafjlcaaGreatLinPlain
import Derived.Test.YthpaifdfafjlcaaGreatAtom
namespace Go.Proofs.YthpaifdfafjlcaaGreat
open Go.ChangeShapes Go.WideShapes Go.ChangeAt Go.RowKit Go.Att

theorem bulk_one {H:Type} (d:DataW H):1≤Rows.uptoBulk d:=by
 cases d with
 | lit l=>cases l <;> simp [Rows.uptoBulk]
 | _=>simp [Rows.uptoBulk]
theorem bulk_len {H:Type} (l:List (DataW H)):l.length≤Rows.uptoBulkAll l:=by
 induction l with
 | nil=>simp [Rows.uptoBulkAll]
 | cons x r ih=>have:=bulk_one x;simp only [Rows.uptoBulkAll,List.length_cons];omega
theorem bulk_small {H:Type} {l:List (DataW H)} (hk:Rows.uptoSmall H l=true):Rows.uptoBulkAll l≤1048576:=of_decide_eq_true hk
theorem bulk_cons {H:Type} (d:DataW H) (l:List (DataW H)):Rows.uptoBulkAll (d :: l)=Rows.uptoBulk d+Rows.uptoBulkAll l:=by simp only [Rows.uptoBulkAll]
theorem bulk_nil {H:Type}:Rows.uptoBulkAll ([]:List (DataW H))=0:=by simp only [Rows.uptoBulkAll]

theorem nats_of {H:Type} {enc:TypeId × Value→H} {P:Program} {W:World} {spare:Nat→Bool} {held:Bool} {t e:TypeId} {k:IntKind} {a0:Option Addr} {len0 cap0 fuel:Nat} {d:DataW H} {ps:List MemPlace}
  (ht:P.underlying t=some (.slice e)) (he:P.underlying e=some (.int k)) (hc:P.cellsOf e=1) (hk:k.signed=false) (hf:DataW.trod enc P W 0 spare held fuel t [.slice a0 len0 cap0]=some (d,ps)):
  ∃ xs:List Nat,RdI k W (.slice a0 len0 cap0) xs∧Fit (2 ^ k.bits) xs∧xs.length+1≤Rows.uptoBulk d:=by
 rcases open_ints ht he hc hf with ⟨hcs,hx⟩ | ⟨x,l,c,zs,hcs,_,hl,hm,hz,hx,hcell,hwz⟩
 ·simp at hcs
  obtain ⟨rfl,rfl,rfl⟩:=hcs
  exact ⟨[],RdI.nil _ _,Fit.nil _,bulk_one d⟩
 ·simp at hcs
  obtain ⟨rfl,rfl,rfl⟩:=hcs
  simp only [Prod.mk.injEq] at hx
  obtain ⟨rfl,_⟩:=hx
  have hlen:len0≤zs.length:=by rw [hz];split <;> omega
  have hwf:∀ n∈zs,0≤n∧n < 2 ^ k.bits:=by
   intro n hn
   have:=hwz n hn
   cases k <;> simp [IntKind.signed] at hk <;> simp [Lit.wf,IntKind.min,IntKind.max,IntKind.bits,IntKind.signed] at this ⊢ <;> omega
  have hl2:(zs.take len0).length=len0:=by rw [List.length_take];omega
  refine ⟨(zs.take len0).map Int.toNat,?_,?_,?_⟩
  ·unfold RdI RdV
   rw [len_ints,List.length_map,hl2,Nat.mul_one]
   refine ⟨rfl,some x,cap0,rfl,hl,hm,(fun h=>by cases h),fun i hi=>?_⟩
   have hci:=hcell i (by omega)
   have hsp:x=⟨x.block,x.off,none⟩:=by
    have h0:=hcell 0 (by omega)
    obtain ⟨b,o,sp⟩:=x
    cases sp with
    | none=>rfl
    | some s=>
     simp [Addr.add,World.cell?] at h0
     split at h0 <;> simp at h0
   refine ⟨x.block,x.off,by rw [← hsp],?_⟩
   rw [hsp,Addr.add_lit] at hci
   rw [hci]
   simp [ints,hi,List.getD]
   have hi2:i < zs.length:=by omega
   rw [List.getElem?_eq_getElem hi2]
   have:=hwf zs[i] (List.getElem_mem hi2)
   simp
   omega
  ·intro y hy
   obtain ⟨n,hn,rfl⟩:=List.mem_map.1 hy
   have:=hwf n (List.mem_of_mem_take hn)
   have e:((2 ^ k.bits:Nat):Int)=2 ^ k.bits:=by simp
   omega
  ·rw [List.length_map]
   simp only [Rows.uptoBulk]
   have:=bulk_len (H:=H) (lits k (zs.take len0))
   simp [lits] at this ⊢
   omega
theorem open_nats {H:Type} {enc:TypeId × Value→H} {P:Program} {W:World} {spare:Nat→Bool} {held:Bool} {t e:TypeId} {k:IntKind} {v:Value} {r:Reach} {b0:Nat} {d:DataW H} {ps:List MemPlace}
  (ht:P.underlying t=some (.slice e)) (he:P.underlying e=some (.int k)) (hc:P.cellsOf e=1) (hk:k.signed=false) (hval:Value.okWide P W r b0 t v) (h:DataW.Trod enc P W 0 spare held t v d ps):
  ∃ xs:List Nat,RdI k W v xs∧Fit (2 ^ k.bits) xs∧xs.length+1≤Rows.uptoBulk d:=by
 obtain ⟨a0,len0,cap0,rfl⟩:=okWide_slice ht hval
 obtain ⟨fuel,hf⟩:=h
 exact nats_of ht he hc hk (by simpa [Value.cells] using hf)
theorem wf_int {a:Int} (h:(Lit.int .i64 a).wf=true) : -9223372036854775808≤a∧a≤9223372036854775807:=by
 simp [Lit.wf,IntKind.min,IntKind.max,IntKind.bits,IntKind.signed] at h;omega
open Go.ChangeShapes Go.WideShapes Go.ChangeAt Go.RowKit Go.Att Go.Joins

open Go.ChangeShapes Go.WideShapes Go.ChangeAt Go.RowKit Go.Att Go.Joins

set_option maxRecDepth 100000 in
theorem trod_N {H:Type} {enc:TypeId × Value→H} {W:World} {spare:Nat→Bool} {held:Bool} {fuel:Nat} {cs:List Value} {y:DataW H × List MemPlace}
  (h:DataW.trod enc Tryz.prog W 0 spare held fuel 73 cs=some y):
  ∃ (x0 x1 x2:Value) (s:Bool) (xs ys:List Nat),cs=[x0,x1,x2]∧RdN W (.agg #[x0,x1,x2]) s xs ys∧xs.length+ys.length+4≤Rows.uptoBulk y.1:=by
 obtain ⟨y0,y1,y2,n,rfl,hl,h0,h1,h2⟩:=Go.Deep.trod_struct3 Tryz.underlying73 h
 have e0:Tryz.prog.cellsOf 4=1:=by kernel_rfl
 have e1:Tryz.prog.cellsOf 47=1:=by kernel_rfl
 dsimp only at h0 h1 h2
 rw [e0] at h0
 rw [e1] at h1 h2
 have hl3:cs.length=3:=hl.trans (by kernel_rfl)
 match cs,hl3 with
 | [c0,c1,c2],_=>
  simp only [List.drop_zero,List.drop_succ_cons,List.take_succ_cons,List.take_zero] at h0 h1 h2
  obtain ⟨s,e0,rfl⟩:=DataW.trod_bool Tryz.underlying4 h0
  obtain ⟨a1,l1,k1,e1⟩:=slice_form Tryz.underlying47 h1
  obtain ⟨a2,l2,k2,e2⟩:=slice_form Tryz.underlying47 h2
  simp at e0 e1 e2
  subst e0 e1 e2
  obtain ⟨xs,rx,fx,lx⟩:=nats_of (d:=y1.1) (ps:=y1.2) Tryz.underlying47 Tryz.underlying115 (by kernel_rfl) rfl h1
  obtain ⟨ys,ry,fy,ly⟩:=nats_of (d:=y2.1) (ps:=y2.2) Tryz.underlying47 Tryz.underlying115 (by kernel_rfl) rfl h2
  refine ⟨_,_,_,s,xs,ys,rfl,⟨_,_,rfl,⟨rx,fx⟩,⟨ry,fy⟩⟩,?_⟩
  simp only [Rows.uptoBulk,Rows.uptoBulkAll]
  omega

open Go.ChangeShapes Go.WideShapes Go.ChangeAt Go.RowKit Go.Att Go.Joins

theorem pw_map {ι α:Type} {k:Nat} {R:List Value→α→Prop} {C:ι→List Value} {A:ι→α}:∀ (L:List ι),(∀ i∈L,(C i).length=k∧R (C i) (A i))→Pw k R (L.map C) (L.map A)
 | [],_=>trivial
 | i :: L,h=>⟨h i (List.mem_cons_self ..),pw_map L fun j hj=>h j (List.mem_cons_of_mem _ hj)⟩
theorem bulk_mem {H:Type}:∀ {l:List (DataW H)} {d:DataW H},d∈l→Rows.uptoBulk d≤Rows.uptoBulkAll l
 | x :: r,d,h=>by
  rw [bulk_cons]
  rcases List.mem_cons.1 h with rfl | h
  ·omega
  ·have:=bulk_mem h;omega
theorem row_of {H α:Type} [Inhabited α] {enc:TypeId × Value→H} {P:Program} {W:World} {spare:Nat→Bool} {held:Bool} {t e:TypeId} {k:Nat} {T:World→Value→α→Prop} {g:α→Nat} {a0:Option Addr} {len0 cap0 fuel:Nat} {d:DataW H} {ps:List MemPlace}
  (ht:P.underlying t=some (.slice e)) (hC:P.cellsOf e=k) (hk:0 < k)
  (hel:∀ n cs y,DataW.trod enc P W 0 spare held n e cs=some y→∃ a:α,cs.length=k∧T W (.agg cs.toArray) a∧g a≤Rows.uptoBulk y.1)
  (h:DataW.trod enc P W 0 spare held fuel t [.slice a0 len0 cap0]=some (d,ps)):
  ∃ l:List α,RdRow k T W (.slice a0 len0 cap0) l∧(∀ a∈l,g a≤Rows.uptoBulk d)∧l.length+1≤Rows.uptoBulk d:=by
 rcases Go.Deep.open_slice ht h with ⟨hcs,hx⟩ | ⟨x,l,c,m,n,D,Pl,hcs,_,hl,hm,hmm,hx,hi⟩
 ·simp at hcs
  obtain ⟨rfl,rfl,rfl⟩:=hcs
  exact ⟨[],⟨[],RdV.nil _ _,trivial⟩,fun a ha=>by simp at ha,bulk_one d⟩
 ·simp at hcs
  obtain ⟨rfl,rfl,rfl⟩:=hcs
  simp only [Prod.mk.injEq] at hx
  obtain ⟨rfl,_⟩:=hx
  have hlm:len0≤m:=by rw [hmm];split <;> omega
  have h1:∀ i,i < len0→∃ z:List Value × α,z.1.length=k∧T W (.agg z.1.toArray) z.2∧g z.2≤Rows.uptoBulk (D i)∧∀ j,j < k→W.cell? (x.add (i*k+j))=z.1[j]?:=by
   intro i hi0
   obtain ⟨cs',hc,htr⟩:=hi i (by omega)
   obtain ⟨a,hlen,hT,hg⟩:=hel _ _ _ htr
   obtain ⟨_,_,hcell⟩:=World.cells?_some hc
   refine ⟨(cs',a),hlen,hT,hg,fun j hj=>?_⟩
   have:=hcell j (by omega)
   rw [hC,Go.Deep.add_add] at this
   exact this
  obtain ⟨Z,hZ⟩:=Go.Deep.choose_lt h1
  have hP:Pw k (fun c a=>T W (.agg c.toArray) a) ((List.range len0).map fun i=>(Z i).1) ((List.range len0).map fun i=>(Z i).2):=pw_map _ fun i hi=>⟨(hZ i (List.mem_range.1 hi)).1,(hZ i (List.mem_range.1 hi)).2.1⟩
  have hQ:Pw k (fun c i=>c=(Z i).1) ((List.range len0).map fun i=>(Z i).1) ((List.range len0).map id):=pw_map _ fun i hi=>⟨(hZ i (List.mem_range.1 hi)).1,rfl⟩
  refine ⟨(List.range len0).map fun i=>(Z i).2,⟨_,?_,hP⟩,?_,?_⟩
  ·have hfl:=hP.flat
   simp only [List.length_map,List.length_range] at hfl ⊢
   refine ⟨hfl,some x,cap0,rfl,hl,hm,(fun h=>by cases h),fun i hi0=>?_⟩
   rw [hfl] at hi0
   have hdiv:i / k < len0:=(Nat.div_lt_iff_lt_mul hk).2 hi0
   have hmod:i % k < k:=Nat.mod_lt _ hk
   have hid:i / k*k+i % k=i:=by rw [Nat.mul_comm];exact Nat.div_add_mod i k
   obtain ⟨cq,_,e2,e3⟩:=hQ.at (i / k) (by simpa using hdiv)
   have e2':cq=(Z (i / k)).1:=by simpa using e2
   have hcell:=(hZ (i / k) hdiv).2.2.2 (i % k) hmod
   have e4:=e3 (i % k) hmod
   rw [e2',← hcell,hid] at e4
   have hsome:∃ u,W.cell? (x.add 0)=some u:=by
    have hl0:0 < len0:=Nat.lt_of_le_of_lt (Nat.zero_le _) hdiv
    have h0:0 < (Z 0).1.length:=by rw [(hZ 0 hl0).1];exact hk
    have h9:=(hZ 0 hl0).2.2.2 0 hk
    rw [Nat.zero_mul] at h9
    exact ⟨_,h9.trans (List.getElem?_eq_getElem h0)⟩
   have hsp:x=⟨x.block,x.off,none⟩:=by
    obtain ⟨u,h0⟩:=hsome
    obtain ⟨b,o,sp⟩:=x
    cases sp with
    | none=>rfl
    | some s=>
     simp [Addr.add,World.cell?] at h0
     split at h0 <;> simp at h0
   refine ⟨x.block,x.off,by rw [← hsp],?_⟩
   rw [hsp,Addr.add_lit] at e4
   exact e4.symm
  ·intro a ha
   obtain ⟨i,hi0,rfl⟩:=List.mem_map.1 ha
   have h2:=(hZ i (List.mem_range.1 hi0)).2.2.1
   have h3:Rows.uptoBulk (D i)≤Rows.uptoBulkAll ((List.range len0).map D):=bulk_mem (List.mem_map.2 ⟨i,hi0,rfl⟩)
   simp only [Rows.uptoBulk]
   omega
  ·have:=bulk_len ((List.range len0).map D)
   simp only [List.length_map,List.length_range,Rows.uptoBulk] at this ⊢
   omega

def bN (n:NN):Nat:=n.2.1.length+n.2.2.length
set_option maxRecDepth 100000 in
theorem open_rowN {H:Type} {enc:TypeId × Value→H} {W:World} {spare:Nat→Bool} {held:Bool} {t:TypeId} {v:Value} {r:Reach} {b0:Nat} {d:DataW H} {ps:List MemPlace} (ht:Tryz.prog.underlying t=some (.slice 73))
  (hval:Value.okWide Tryz.prog W r b0 t v) (h:DataW.Trod enc Tryz.prog W 0 spare held t v d ps):
  ∃ l:List NN,RdRow 3 RdNp W v l∧(∀ p∈l,bN p≤Rows.uptoBulk d)∧l.length+1≤Rows.uptoBulk d:=by
 obtain ⟨a0,len0,cap0,rfl⟩:=okWide_slice ht hval
 obtain ⟨fuel,hf⟩:=h
 refine row_of ht (by kernel_rfl) (by decide) (fun n cs y hy=>?_) (by simpa [Value.cells] using hf)
 obtain ⟨x0,x1,x2,s,xs,ys,rfl,r0,hb⟩:=trod_N hy
 exact ⟨(s,xs,ys),rfl,r0,by unfold bN;dsimp only;omega⟩
open Go.ChangeShapes Go.WideShapes Go.ChangeAt Go.RowKit Go.Att Go.Joins

set_option maxRecDepth 100000 in
theorem trod_T {H:Type} {enc:TypeId × Value→H} {W:World} {spare:Nat→Bool} {held:Bool} {fuel:Nat} {cs:List Value} {y:DataW H × List MemPlace}
  (h:DataW.trod enc Tryz.prog W 0 spare held fuel 91 cs=some y):
  ∃ t:Int × NN,cs.length=4∧RdNT W (.agg cs.toArray) t∧bN t.2≤Rows.uptoBulk y.1:=by
 obtain ⟨y0,y1,n,rfl,hl,h0,h1⟩:=trod_struct2 Tryz.underlying91 h
 have e0:Tryz.prog.cellsOf 3=1:=by kernel_rfl
 have e1:Tryz.prog.cellsOf 73=3:=by kernel_rfl
 dsimp only at h0 h1
 rw [e0] at h0
 rw [e1] at h1
 have hl4:cs.length=4:=hl.trans (by kernel_rfl)
 match cs,hl4 with
 | [c0,c1,c2,c3],_=>
  simp only [List.drop_zero,List.drop_succ_cons,List.take_succ_cons,List.take_zero] at h0 h1
  obtain ⟨z,e0,rfl,wz⟩:=DataW.trod_int Tryz.underlying3 h0
  simp at e0
  subst e0
  obtain ⟨b0,b1,b2,s,xs,ys,e2,⟨y',z',e3,r3⟩,hb⟩:=trod_N h1
  obtain ⟨rfl,rfl,rfl⟩:=agg3_inj e3
  simp only [List.cons.injEq,and_true] at e2
  obtain ⟨rfl,rfl,rfl⟩:=e2
  refine ⟨(z,s,xs,ys),rfl,⟨_,_,rfl,_,_,rfl,r3⟩,?_⟩
  simp only [Rows.uptoBulk,Rows.uptoBulkAll,bN]
  omega

set_option maxRecDepth 100000 in
theorem trod_E {H:Type} {enc:TypeId × Value→H} {W:World} {spare:Nat→Bool} {held:Bool} {fuel:Nat} {cs:List Value} {y:DataW H × List MemPlace}
  (h:DataW.trod enc Tryz.prog W 0 spare held fuel 75 cs=some y):
  ∃ (l:List (Int × NN)) (n:NN),cs.length=4∧RdNE W (.agg cs.toArray) l n∧(∀ t∈l,bN t.2≤Rows.uptoBulk y.1)∧bN n≤Rows.uptoBulk y.1∧l.length+1≤Rows.uptoBulk y.1:=by
 obtain ⟨y0,y1,n,rfl,hl,h0,h1⟩:=trod_struct2 Tryz.underlying75 h
 have e0:Tryz.prog.cellsOf 71=1:=by kernel_rfl
 have e1:Tryz.prog.cellsOf 73=3:=by kernel_rfl
 dsimp only at h0 h1
 rw [e0] at h0
 rw [e1] at h1
 have hl4:cs.length=4:=hl.trans (by kernel_rfl)
 match cs,hl4 with
 | [c0,c1,c2,c3],_=>
  simp only [List.drop_zero,List.drop_succ_cons,List.take_succ_cons,List.take_zero] at h0 h1
  obtain ⟨a0,l0,k0,e2⟩:=slice_form Tryz.underlying71 h0
  simp at e2
  subst e2
  obtain ⟨l,rd,hb,hn⟩:=row_of (T:=RdNT) (g:=fun t=>bN t.2) (k:=4) (d:=y0.1) (ps:=y0.2) Tryz.underlying71 (by kernel_rfl) (by decide) (fun n cs y hy=>trod_T hy) h0
  obtain ⟨b0,b1,b2,s,xs,ys,e2,r2,hb2⟩:=trod_N h1
  simp only [List.cons.injEq,and_true] at e2
  obtain ⟨rfl,rfl,rfl⟩:=e2
  have r2':=r2
  obtain ⟨y',z',e3,-⟩:=r2'
  obtain ⟨rfl,rfl,rfl⟩:=agg3_inj e3
  refine ⟨l,(s,xs,ys),rfl,⟨_,_,_,rfl,rd,r2⟩,fun t ht=>?_,?_,?_⟩
  ·have:=hb t ht
   simp only [Rows.uptoBulk,Rows.uptoBulkAll]
   omega
  ·simp only [Rows.uptoBulk,Rows.uptoBulkAll,bN]
   omega
  ·simp only [Rows.uptoBulk,Rows.uptoBulkAll]
   omega

open Go.ChangeShapes Go.WideShapes Go.ChangeAt Go.RowKit Go.Att Go.Joins

def mxl:List (Int × NN)→Nat
 | []=>0
 | t :: l=>max (bN t.2) (mxl l)
theorem mxl_in:∀ {l:List (Int × NN)} {t:Int × NN},t∈l→bN t.2≤mxl l
 | x :: l,t,h=>by
  unfold mxl
  rcases List.mem_cons.1 h with rfl | h
  ·omega
  ·have:=mxl_in h;omega
theorem mxl_le:∀ {l:List (Int × NN)} {B:Nat},(∀ t∈l,bN t.2≤B)→mxl l≤B
 | [],_,_=>Nat.zero_le _
 | x :: l,B,h=>by
  unfold mxl
  have h1:=h x List.mem_cons_self
  have h2:=mxl_le (l:=l) fun t ht=>h t (List.mem_cons_of_mem _ ht)
  omega
def bA (p:NAT):Nat:=max (bN p.1.2) (mxl p.1.1)
set_option maxRecDepth 100000 in
theorem trod_A {H:Type} {enc:TypeId × Value→H} {W:World} {spare:Nat→Bool} {held:Bool} {fuel:Nat} {cs:List Value} {y:DataW H × List MemPlace}
  (h:DataW.trod enc Tryz.prog W 0 spare held fuel 77 cs=some y):
  ∃ p:NAT,cs.length=5∧RdNA W (.agg cs.toArray) p∧bA p≤Rows.uptoBulk y.1:=by
 obtain ⟨y0,y1,n,rfl,hl,h0,h1⟩:=trod_struct2 Tryz.underlying77 h
 have e0:Tryz.prog.cellsOf 75=4:=by kernel_rfl
 have e1:Tryz.prog.cellsOf 3=1:=by kernel_rfl
 dsimp only at h0 h1
 rw [e0] at h0
 rw [e1] at h1
 have hl5:cs.length=5:=hl.trans (by kernel_rfl)
 match cs,hl5 with
 | [c0,c1,c2,c3,c4],_=>
  simp only [List.drop_zero,List.drop_succ_cons,List.take_succ_cons,List.take_zero] at h0 h1
  obtain ⟨z,e4,rfl,wz⟩:=DataW.trod_int Tryz.underlying3 h1
  simp at e4
  subst e4
  obtain ⟨l,n,-,r,b1,b2,-⟩:=trod_E h0
  refine ⟨((l,n),z),rfl,⟨_,_,_,_,rfl,r⟩,?_⟩
  have:=mxl_le b1
  simp only [Rows.uptoBulk,Rows.uptoBulkAll,bA]
  omega
set_option maxRecDepth 100000 in
theorem open_rowA {H:Type} {enc:TypeId × Value→H} {W:World} {spare:Nat→Bool} {held:Bool} {t:TypeId} {v:Value} {r:Reach} {b0:Nat} {d:DataW H} {ps:List MemPlace} (ht:Tryz.prog.underlying t=some (.slice 77))
  (hval:Value.okWide Tryz.prog W r b0 t v) (h:DataW.Trod enc Tryz.prog W 0 spare held t v d ps):
  ∃ l:List NAT,RdRow 5 RdNA W v l∧(∀ p∈l,bA p≤Rows.uptoBulk d)∧l.length+1≤Rows.uptoBulk d:=by
 obtain ⟨a0,len0,cap0,rfl⟩:=okWide_slice ht hval
 obtain ⟨fuel,hf⟩:=h
 exact row_of ht (by kernel_rfl) (by decide) (fun n cs y hy=>trod_A hy) (by simpa [Value.cells] using hf)
end Go.Proofs.YthpaifdfafjlcaaGreat
