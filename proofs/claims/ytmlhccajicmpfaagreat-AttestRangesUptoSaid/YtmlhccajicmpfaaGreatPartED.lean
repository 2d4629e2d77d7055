/- A group of texts: FrameN, FrameD, FrameR, FrameE, Frame15, FrameA, RowB, FrameQ -/
import Derived.Test.YtmlhccajicmpfaaGreatSq
import Derived.Test.YtmlhccajicmpfaaGreatPartEC
import Derived.Test.YtmlhccajicmpfaaGreatPartAB
import Derived.Lib.SmallJoins
import Derived.Test.YtmlhccajicmpfaaGreatPartAC
import Derived.Deep.Strs
import Derived.Deep.Slices
import Derived.Test.YtmlhccajicmpfaaGreatPartAF
import Derived.Test.YtmlhccajicmpfaaGreatNet
import Derived.Test.YtmlhccajicmpfaaGreatPartDB
import Derived.OpenShut
set_option maxHeartbeats 40000000
set_option maxRecDepth 100000
set_option linter.unusedSimpArgs false
namespace Go.Proofs.YtmlhccajicmpfaaGreat
open Go.ChangeShapes Go.WideShapes Go.ChangeAt Go.RowKit Go.Att Go.Joins

open Go.ChangeShapes Go.WideShapes Go.ChangeAt Go.RowKit Go.Att Go.Joins

theorem trod_N {H:Type} {enc:TypeId × Value→H} {W:World} {spare:Nat→Bool} {held:Bool} {fuel:Nat} {cs:List Value} {y:DataW H × List MemPlace}
  (h:DataW.trod enc Tryz.prog W 0 spare held fuel 102 cs=some y):
  ∃ (x0 x1 x2:Value) (s:Bool) (xs ys:List Nat),cs=[x0,x1,x2]∧RdN W (.agg #[x0,x1,x2]) s xs ys∧xs.length+ys.length+4≤Rows.uptoBulk y.1:=by
 obtain ⟨y0,y1,y2,n,rfl,hl,h0,h1,h2⟩:=Go.Deep.trod_struct3 Tryz.underlying102 h
 have e0:Tryz.prog.cellsOf 4=1:=by kernel_rfl
 have e1:Tryz.prog.cellsOf 36=1:=by kernel_rfl
 dsimp only at h0 h1 h2
 rw [e0] at h0
 rw [e1] at h1 h2
 have hl3:cs.length=3:=hl.trans kR
 match cs,hl3 with
 | [c0,c1,c2],_=>
  simp only [List.drop_zero,List.drop_succ_cons,List.take_succ_cons,List.take_zero] at h0 h1 h2
  obtain ⟨s,e0,rfl⟩:=DataW.trod_bool Tryz.underlying4 h0
  obtain ⟨a1,l1,k1,e1⟩:=slice_form Tryz.underlying36 h1
  obtain ⟨a2,l2,k2,e2⟩:=slice_form Tryz.underlying36 h2
  simp at e0 e1 e2
  subst e0 e1 e2
  obtain ⟨xs,rx,fx,lx⟩:=nats_of (d:=y1.1) (ps:=y1.2) Tryz.underlying36 Tryz.underlying156 kR rfl h1
  obtain ⟨ys,ry,fy,ly⟩:=nats_of (d:=y2.1) (ps:=y2.2) Tryz.underlying36 Tryz.underlying156 kR rfl h2
  refine ⟨_,_,_,s,xs,ys,rfl,⟨_,_,rfl,⟨rx,fx⟩,⟨ry,fy⟩⟩,?_⟩
  simp only [Rows.uptoBulk,Rows.uptoBulkAll]
  omega

open Go.ChangeShapes Go.WideShapes Go.ChangeAt Go.RowKit Go.Att Go.Joins

theorem pw_map {ι α:Type} {k:Nat} {R:List Value→α→Prop} {C:ι→List Value} {A:ι→α}:∀ (L:List ι),(∀ i∈L,(C i).length=k∧R (C i) (A i))→Pw k R (L.map C) (L.map A)
 | [],_=>trivial
 | i :: L,h=>⟨h i (List.mem_cons_self ..),pw_map L fun j hj=>h j (List.mem_cons_of_mem _ hj)⟩
theorem bulk_mem {H:Type}:∀ {l:List (DataW H)} {d:DataW H},d∈l→Rows.uptoBulk d≤Rows.uptoBulkAll l
 | x :: r,d,h=>by
  rw [bulk_cons]
  rcases List.mem_cons.1 h with rfl | h
  ·omega
  have:=bulk_mem h;omega
theorem row_of {H α:Type} [Inhabited α] {enc:TypeId × Value→H} {P:Program} {W:World} {spare:Nat→Bool} {held:Bool} {t e:TypeId} {k:Nat} {T:World→Value→α→Prop} {g:α→Nat} {a0:Option Addr} {len0 cap0 fuel:Nat} {d:DataW H} {ps:List MemPlace}
  (ht:P.underlying t=some (.slice e)) (hC:P.cellsOf e=k) (hk:0 < k)
  (hel:∀ n cs y,DataW.trod enc P W 0 spare held n e cs=some y→∃ a:α,cs.length=k∧T W (.agg cs.toArray) a∧g a≤Rows.uptoBulk y.1)
  (h:DataW.trod enc P W 0 spare held fuel t [.slice a0 len0 cap0]=some (d,ps)):
  ∃ l:List α,RdRow k T W (.slice a0 len0 cap0) l∧(∀ a∈l,g a≤Rows.uptoBulk d)∧l.length+1≤Rows.uptoBulk d:=by
 rcases Go.Deep.open_slice ht h with ⟨hcs,hx⟩ | ⟨x,l,c,m,n,D,Pl,hcs,_,hl,hm,hmm,hx,hi⟩
 ·simp at hcs
  obtain ⟨rfl,rfl,rfl⟩:=hcs
  exact ⟨[],⟨[],RdV.nil _ _,trivial⟩,fun a ha=>by simp at ha,bulk_one d⟩
 simp at hcs
 obtain ⟨rfl,rfl,rfl⟩:=hcs
 simp only [Prod.mk.injEq] at hx
 obtain ⟨rfl,_⟩:=hx
 have hlm:len0≤m:=by rw [hmm];split <;> omega
 have h1:∀ i,i < len0→∃ z:List Value × α,z.1.length=k∧T W (.agg z.1.toArray) z.2∧g z.2≤Rows.uptoBulk (D i)∧∀ j,j < k→W.cell? (x.add (i*k+j))=z.1[j]?:=by
  intro i hi0
  obtain ⟨cs',hc,htr⟩:=hi i oM
  obtain ⟨a,hlen,hT,hg⟩:=hel _ _ _ htr
  obtain ⟨_,_,hcell⟩:=World.cells?_some hc
  refine ⟨(cs',a),hlen,hT,hg,fun j hj=>?_⟩
  have:=hcell j oM
  rw [hC,Go.Deep.add_add] at this
  exact this
 obtain ⟨Z,hZ⟩:=Go.Deep.choose_lt h1
 have hP:Pw k (fun c a=>T W (.agg c.toArray) a) ((List.range len0).map fun i=>(Z i).1) ((List.range len0).map fun i=>(Z i).2):=pw_map _ fun i hi=>⟨(hZ i (List.mem_range.1 hi)).1,(hZ i (List.mem_range.1 hi)).2.1⟩
 have hQ:Pw k (fun c i=>c=(Z i).1) ((List.range len0).map fun i=>(Z i).1) ((List.range len0).map id):=pw_map _ fun i hi=>⟨(hZ i (List.mem_range.1 hi)).1,rfl⟩
 refine ⟨(List.range len0).map fun i=>(Z i).2,⟨_,?_,hP⟩,?_,?_⟩
 ·have hfl:=hP.flat
  simp only [List.length_map,List.length_range] at hfl ⊢
  refine ⟨hfl,some x,cap0,rfl,hl,hm,(fun h=>by cases h),fun i hi0=>?_⟩
  rw [hfl] at hi0
  have hdiv:i / k < len0:=(Nat.div_lt_iff_lt_mul hk).2 hi0
  have hmod:i % k < k:=Nat.mod_lt _ hk
  have hid:i / k*k+i % k=i:=by rw [Nat.mul_comm];exact Nat.div_add_mod i k
  obtain ⟨cq,_,e2,e3⟩:=hQ.at (i / k) (by simpa using hdiv)
  have e2':cq=(Z (i / k)).1:=by simpa using e2
  have hcell:=(hZ (i / k) hdiv).2.2.2 (i % k) hmod
  have e4:=e3 (i % k) hmod
  rw [e2',← hcell,hid] at e4
  have hsome:∃ u,W.cell? (x.add 0)=some u:=by
   have hl0:0 < len0:=Nat.lt_of_le_of_lt (Nat.zero_le _) hdiv
   have h0:0 < (Z 0).1.length:=by rw [(hZ 0 hl0).1];exact hk
   have h9:=(hZ 0 hl0).2.2.2 0 hk
   rw [Nat.zero_mul] at h9
   exact ⟨_,h9.trans (List.getElem?_eq_getElem h0)⟩
  have hsp:x=⟨x.block,x.off,none⟩:=by
   obtain ⟨u,h0⟩:=hsome
   obtain ⟨b,o,sp⟩:=x
   cases sp with
   | none=>rfl
   | some s=>
    simp [Addr.add,World.cell?] at h0
    split at h0 <;> simp at h0
  refine ⟨x.block,x.off,by rw [← hsp],?_⟩
  rw [hsp,Addr.add_lit] at e4
  exact e4.symm
 ·intro a ha
  obtain ⟨i,hi0,rfl⟩:=List.mem_map.1 ha
  have h2:=(hZ i (List.mem_range.1 hi0)).2.2.1
  have h3:Rows.uptoBulk (D i)≤Rows.uptoBulkAll ((List.range len0).map D):=bulk_mem (List.mem_map.2 ⟨i,hi0,rfl⟩)
  simp only [Rows.uptoBulk]
  omega
 have:=bulk_len ((List.range len0).map D)
 simp only [List.length_map,List.length_range,Rows.uptoBulk] at this ⊢
 omega

def bN (n:NN):Nat:=n.2.1.length+n.2.2.length
theorem open_rowN {H:Type} {enc:TypeId × Value→H} {W:World} {spare:Nat→Bool} {held:Bool} {t:TypeId} {v:Value} {r:Reach} {b0:Nat} {d:DataW H} {ps:List MemPlace} (ht:Tryz.prog.underlying t=some (.slice 102))
  (hval:Value.okWide Tryz.prog W r b0 t v) (h:DataW.Trod enc Tryz.prog W 0 spare held t v d ps):
  ∃ l:List NN,RdRow 3 RdNp W v l∧(∀ p∈l,bN p≤Rows.uptoBulk d)∧l.length+1≤Rows.uptoBulk d:=by
 obtain ⟨a0,len0,cap0,rfl⟩:=okWide_slice ht hval
 obtain ⟨fuel,hf⟩:=h
 refine row_of ht kR dC (fun n cs y hy=>?_) (by simpa [Value.cells] using hf)
 obtain ⟨x0,x1,x2,s,xs,ys,rfl,r0,hb⟩:=trod_N hy
 exact ⟨(s,xs,ys),rfl,r0,by unfold bN;dsimp only;omega⟩
open Go.ChangeShapes Go.WideShapes Go.ChangeAt Go.RowKit Go.Att Go.Joins

theorem trod_T {H:Type} {enc:TypeId × Value→H} {W:World} {spare:Nat→Bool} {held:Bool} {fuel:Nat} {cs:List Value} {y:DataW H × List MemPlace}
  (h:DataW.trod enc Tryz.prog W 0 spare held fuel 111 cs=some y):
  ∃ t:Int × NN,cs.length=4∧RdNT W (.agg cs.toArray) t∧bN t.2≤Rows.uptoBulk y.1:=by
 obtain ⟨y0,y1,n,rfl,hl,h0,h1⟩:=trod_struct2 Tryz.underlying111 h
 have e0:Tryz.prog.cellsOf 3=1:=by kernel_rfl
 have e1:Tryz.prog.cellsOf 102=3:=by kernel_rfl
 dsimp only at h0 h1
 rw [e0] at h0
 rw [e1] at h1
 have hl4:cs.length=4:=hl.trans kR
 match cs,hl4 with
 | [c0,c1,c2,c3],_=>
  simp only [List.drop_zero,List.drop_succ_cons,List.take_succ_cons,List.take_zero] at h0 h1
  obtain ⟨z,e0,rfl,wz⟩:=DataW.trod_int Tryz.underlying3 h0
  simp at e0
  subst e0
  obtain ⟨b0,b1,b2,s,xs,ys,e2,⟨y',z',e3,r3⟩,hb⟩:=trod_N h1
  obtain ⟨rfl,rfl,rfl⟩:=agg3_inj e3
  simp only [List.cons.injEq,and_true] at e2
  obtain ⟨rfl,rfl,rfl⟩:=e2
  refine ⟨(z,s,xs,ys),rfl,⟨_,_,rfl,_,_,rfl,r3⟩,?_⟩
  simp only [Rows.uptoBulk,Rows.uptoBulkAll,bN]
  omega

theorem trod_E {H:Type} {enc:TypeId × Value→H} {W:World} {spare:Nat→Bool} {held:Bool} {fuel:Nat} {cs:List Value} {y:DataW H × List MemPlace}
  (h:DataW.trod enc Tryz.prog W 0 spare held fuel 107 cs=some y):
  ∃ (l:List (Int × NN)) (n:NN),cs.length=4∧RdNE W (.agg cs.toArray) l n∧(∀ t∈l,bN t.2≤Rows.uptoBulk y.1)∧bN n≤Rows.uptoBulk y.1∧l.length+1≤Rows.uptoBulk y.1:=by
 obtain ⟨y0,y1,n,rfl,hl,h0,h1⟩:=trod_struct2 Tryz.underlying107 h
 have e0:Tryz.prog.cellsOf 105=1:=by kernel_rfl
 have e1:Tryz.prog.cellsOf 102=3:=by kernel_rfl
 dsimp only at h0 h1
 rw [e0] at h0
 rw [e1] at h1
 have hl4:cs.length=4:=hl.trans kR
 match cs,hl4 with
 | [c0,c1,c2,c3],_=>
  simp only [List.drop_zero,List.drop_succ_cons,List.take_succ_cons,List.take_zero] at h0 h1
  obtain ⟨a0,l0,k0,e2⟩:=slice_form Tryz.underlying105 h0
  simp at e2
  subst e2
  obtain ⟨l,rd,hb,hn⟩:=row_of (T:=RdNT) (g:=fun t=>bN t.2) (k:=4) (d:=y0.1) (ps:=y0.2) Tryz.underlying105 kR dC (fun n cs y hy=>trod_T hy) h0
  obtain ⟨b0,b1,b2,s,xs,ys,e2,r2,hb2⟩:=trod_N h1
  simp only [List.cons.injEq,and_true] at e2
  obtain ⟨rfl,rfl,rfl⟩:=e2
  have r2':=r2
  obtain ⟨y',z',e3,-⟩:=r2'
  obtain ⟨rfl,rfl,rfl⟩:=agg3_inj e3
  refine ⟨l,(s,xs,ys),rfl,⟨_,_,_,rfl,rd,r2⟩,fun t ht=>?_,?_,?_⟩
  ·have:=hb t ht
   simp only [Rows.uptoBulk,Rows.uptoBulkAll]
   omega
  ·simp only [Rows.uptoBulk,Rows.uptoBulkAll,bN]
   omega
  simp only [Rows.uptoBulk,Rows.uptoBulkAll]
  omega

open Go.ChangeShapes Go.WideShapes Go.ChangeAt Go.RowKit Go.Att Go.Joins

theorem trod_four {H:Type} {enc:TypeId × Value→H} {P:Program} {W:World} {base:Nat} {spare:Nat→Bool} {held:Bool} {t:TypeId} {f0 f1 f2 f3:Field} {fuel:Nat} {cs:List Value} {x:DataW H × List MemPlace} (ht:P.underlying t=some (.struct #[f0,f1,f2,f3])) (h:DataW.trod enc P W base spare held fuel t cs=some x):
  ∃ y0 y1 y2 y3 n,cs.length=P.cellsOf t∧DataW.trod enc P W base spare held n f0.type ((cs.drop f0.offset).take (P.cellsOf f0.type))=some y0∧
   DataW.trod enc P W base spare held n f1.type ((cs.drop f1.offset).take (P.cellsOf f1.type))=some y1∧
   DataW.trod enc P W base spare held n f2.type ((cs.drop f2.offset).take (P.cellsOf f2.type))=some y2∧
   DataW.trod enc P W base spare held n f3.type ((cs.drop f3.offset).take (P.cellsOf f3.type))=some y3:=by
 obtain ⟨xs,n,_,rfl,hl,hlen,hf⟩:=DataW.trod_struct ht h
 match xs,hlen with
 | [y0,y1,y2,y3],_=>exact ⟨y0,y1,y2,y3,n,hl,by simpa using hf 0 f0 rfl,by simpa using hf 1 f1 rfl,by simpa using hf 2 f2 rfl,by simpa using hf 3 f3 rfl⟩
theorem trod_row {H α:Type} [Inhabited α] {enc:TypeId × Value→H} {P:Program} {W:World} {spare:Nat→Bool} {held:Bool} {t e:TypeId} {k:Nat} {T:World→Value→α→Prop} {fuel:Nat} {cs:List Value} {y:DataW H × List MemPlace}
  (ht:P.underlying t=some (.slice e)) (hC:P.cellsOf e=k) (hk:0 < k)
  (hel:∀ n cs y,DataW.trod enc P W 0 spare held n e cs=some y→∃ a:α,cs.length=k∧T W (.agg cs.toArray) a)
  (h:DataW.trod enc P W 0 spare held fuel t cs=some y):∃ l:List α,cs.length=1∧RowT k T W (.agg cs.toArray) l:=by
 obtain ⟨a0,l0,k0,rfl⟩:=slice_form ht h
 obtain ⟨l,rd,-,-⟩:=row_of (T:=T) (g:=fun _=>0) (k:=k) (d:=y.1) (ps:=y.2) ht hC hk (fun n cs y hy=>by
  obtain ⟨a,h1,h2⟩:=hel n cs y hy
  exact ⟨a,h1,h2,Nat.zero_le _⟩) h
 obtain ⟨a,c,he,-,-⟩:=rd.shape
 simp only [Value.slice.injEq] at he
 obtain ⟨rfl,rfl,rfl⟩:=he
 exact ⟨l,rfl,a0,k0,rfl,rd⟩
theorem trod_RowN {H:Type} {enc:TypeId × Value→H} {W:World} {spare:Nat→Bool} {held:Bool} {fuel:Nat} {cs:List Value} {y:DataW H × List MemPlace}
  (h:DataW.trod enc Tryz.prog W 0 spare held fuel 34 cs=some y):∃ l:List NN,cs.length=1∧RowT 3 RdNp W (.agg cs.toArray) l:=
 trod_row Tryz.underlying34 kR dC (fun n cs y hy=>by
  obtain ⟨x0,x1,x2,s,xs,ys,rfl,r0,-⟩:=trod_N hy
  exact ⟨(s,xs,ys),rfl,r0⟩) h
theorem trod_RowI {H:Type} {enc:TypeId × Value→H} {W:World} {spare:Nat→Bool} {held:Bool} {fuel:Nat} {cs:List Value} {y:DataW H × List MemPlace}
  (h:DataW.trod enc Tryz.prog W 0 spare held fuel 85 cs=some y):∃ l:List Int,cs.length=1∧RowT 1 IntT W (.agg cs.toArray) l:=
 trod_row Tryz.underlying85 kR dC (fun n cs y hy=>by
  obtain ⟨z,rfl,-,-⟩:=DataW.trod_int Tryz.underlying3 hy
  exact ⟨z,rfl,rfl⟩) h
theorem trod_Lay {H:Type} {enc:TypeId × Value→H} {W:World} {spare:Nat→Bool} {held:Bool} {fuel:Nat} {cs:List Value} {y:DataW H × List MemPlace}
  (h:DataW.trod enc Tryz.prog W 0 spare held fuel 160 cs=some y):∃ l:Lay NN,cs.length=4∧RdLay RdNp W (.agg cs.toArray) l:=by
 obtain ⟨y0,y1,y2,y3,n,hl,h0,h1,h2,h3⟩:=trod_four Tryz.underlying160 h
 have e0:Tryz.prog.cellsOf 3=1:=by kernel_rfl
 have e1:Tryz.prog.cellsOf 158=1:=by kernel_rfl
 have e2:Tryz.prog.cellsOf 34=1:=by kernel_rfl
 have e3:Tryz.prog.cellsOf 122=1:=by kernel_rfl
 dsimp only at h0 h1 h2 h3
 rw [e0] at h0
 rw [e1] at h1
 rw [e2] at h2
 rw [e3] at h3
 have hl4:cs.length=4:=hl.trans kR
 match cs,hl4 with
 | [c0,c1,c2,c3],_=>
  simp only [List.drop_zero,List.drop_succ_cons,List.take_succ_cons,List.take_zero] at h0 h1 h2 h3
  obtain ⟨z,g0,-,-⟩:=DataW.trod_int Tryz.underlying3 h0
  simp at g0
  subst g0
  obtain ⟨lw,-,rw'⟩:=trod_row (T:=RowT 3 RdNp) (k:=1) Tryz.underlying158 kR dC (fun n cs y hy=>trod_RowN hy) h1
  obtain ⟨lb,-,rb⟩:=trod_RowN h2
  obtain ⟨lg,-,rg⟩:=trod_row (T:=RowT 1 IntT) (k:=1) Tryz.underlying122 kR dC (fun n cs y hy=>trod_RowI hy) h3
  obtain ⟨a,m,g1,k1⟩:=cells_RowT rw'
  obtain ⟨b,n,g2,k2⟩:=cells_RowT rb
  obtain ⟨c,k,g3,k3⟩:=cells_RowT rg
  simp only [List.cons.injEq,and_true] at g1 g2 g3
  subst g1 g2 g3
  exact ⟨⟨z,lw,lb,lg⟩,rfl,_,_,_,rfl,k1,k2,k3⟩
theorem trod_Net {H:Type} {enc:TypeId × Value→H} {W:World} {spare:Nat→Bool} {held:Bool} {fuel:Nat} {cs:List Value} {y:DataW H × List MemPlace}
  (h:DataW.trod enc Tryz.prog W 0 spare held fuel 24 cs=some y):∃ n:Nt NN,cs.length=2∧RdNet RdNp W (.agg cs.toArray) n:=by
 obtain ⟨y0,y1,n,rfl,hl,h0,h1⟩:=trod_struct2 Tryz.underlying24 h
 have e0:Tryz.prog.cellsOf 3=1:=by kernel_rfl
 have e1:Tryz.prog.cellsOf 22=1:=by kernel_rfl
 dsimp only at h0 h1
 rw [e0] at h0
 rw [e1] at h1
 have hl2:cs.length=2:=hl.trans kR
 match cs,hl2 with
 | [c0,c1],_=>
  simp only [List.drop_zero,List.drop_succ_cons,List.take_succ_cons,List.take_zero] at h0 h1
  obtain ⟨z,g0,-,-⟩:=DataW.trod_int Tryz.underlying3 h0
  simp at g0
  subst g0
  obtain ⟨l,-,r⟩:=trod_row (T:=RdLay RdNp) (k:=4) Tryz.underlying22 kR dC (fun n cs y hy=>trod_Lay hy) h1
  obtain ⟨a,c,g1,k1⟩:=cells_RowT r
  simp only [List.cons.injEq,and_true] at g1
  subst g1
  exact ⟨(z,l),rfl,_,rfl,k1⟩
open Go.ChangeShapes Go.WideShapes Go.ChangeAt Go.RowKit Go.Att Go.Joins

def mxl:List (Int × NN)→Nat
 | []=>0
 | t :: l=>max (bN t.2) (mxl l)
theorem mxl_le:∀ {l:List (Int × NN)} {B:Nat},(∀ t∈l,bN t.2≤B)→mxl l≤B
 | [],_,_=>Nat.zero_le _
 | x :: l,B,h=>by
  unfold mxl
  have h1:=h x List.mem_cons_self
  have h2:=mxl_le (l:=l) fun t ht=>h t (List.mem_cons_of_mem _ ht)
  omega
def bA (p:NAT):Nat:=max (bN p.1.2) (mxl p.1.1)
theorem trod_A {H:Type} {enc:TypeId × Value→H} {W:World} {spare:Nat→Bool} {held:Bool} {fuel:Nat} {cs:List Value} {y:DataW H × List MemPlace}
  (h:DataW.trod enc Tryz.prog W 0 spare held fuel 109 cs=some y):
  ∃ p:NAT,cs.length=5∧RdNA W (.agg cs.toArray) p∧bA p≤Rows.uptoBulk y.1:=by
 obtain ⟨y0,y1,n,rfl,hl,h0,h1⟩:=trod_struct2 Tryz.underlying109 h
 have e0:Tryz.prog.cellsOf 107=4:=by kernel_rfl
 have e1:Tryz.prog.cellsOf 3=1:=by kernel_rfl
 dsimp only at h0 h1
 rw [e0] at h0
 rw [e1] at h1
 have hl5:cs.length=5:=hl.trans kR
 match cs,hl5 with
 | [c0,c1,c2,c3,c4],_=>
  simp only [List.drop_zero,List.drop_succ_cons,List.take_succ_cons,List.take_zero] at h0 h1
  obtain ⟨z,e4,rfl,wz⟩:=DataW.trod_int Tryz.underlying3 h1
  simp at e4
  subst e4
  obtain ⟨l,n,-,r,b1,b2,-⟩:=trod_E h0
  refine ⟨((l,n),z),rfl,⟨_,_,_,_,rfl,r⟩,?_⟩
  have:=mxl_le b1
  simp only [Rows.uptoBulk,Rows.uptoBulkAll,bA]
  omega
open Go.ChangeShapes Go.WideShapes Go.ChangeAt Go.RowKit Go.Att Go.Joins

theorem row_ofB {H α:Type} [Inhabited α] {enc:TypeId × Value→H} {P:Program} {W:World} {spare:Nat→Bool} {held:Bool} {t e:TypeId} {k:Nat} {T:World→Value→α→Prop} {a0:Option Addr} {len0 cap0 fuel:Nat} {d:DataW H} {ps:List MemPlace}
  (ht:P.underlying t=some (.slice e)) (hC:P.cellsOf e=k) (hk:0 < k)
  (hel:∀ n cs y,Rows.uptoBulk y.1 < Rows.uptoBulk d→DataW.trod enc P W 0 spare held n e cs=some y→∃ a:α,cs.length=k∧T W (.agg cs.toArray) a)
  (h:DataW.trod enc P W 0 spare held fuel t [.slice a0 len0 cap0]=some (d,ps)):
  ∃ l:List α,RdRow k T W (.slice a0 len0 cap0) l:=by
 rcases Go.Deep.open_slice ht h with ⟨hcs,hx⟩ | ⟨x,l,c,m,n,D,Pl,hcs,_,hl,hm,hmm,hx,hi⟩
 ·simp at hcs
  obtain ⟨rfl,rfl,rfl⟩:=hcs
  exact ⟨[],⟨[],RdV.nil _ _,trivial⟩⟩
 simp at hcs
 obtain ⟨rfl,rfl,rfl⟩:=hcs
 simp only [Prod.mk.injEq] at hx
 obtain ⟨rfl,_⟩:=hx
 have hlm:len0≤m:=by rw [hmm];split <;> omega
 have h1:∀ i,i < len0→∃ z:List Value × α,z.1.length=k∧T W (.agg z.1.toArray) z.2∧∀ j,j < k→W.cell? (x.add (i*k+j))=z.1[j]?:=by
  intro i hi0
  obtain ⟨cs',hc,htr⟩:=hi i oM
  have hlt:Rows.uptoBulk (D i) < Rows.uptoBulk (DataW.slice ((List.range len0).map D) ((List.range (m - len0)).map fun j=>D (len0+j))):=by
   have h3:Rows.uptoBulk (D i)≤Rows.uptoBulkAll ((List.range len0).map D):=bulk_mem (List.mem_map.2 ⟨i,List.mem_range.2 hi0,rfl⟩)
   simp only [Rows.uptoBulk]
   omega
  obtain ⟨a,hlen,hT⟩:=hel _ _ _ hlt htr
  obtain ⟨_,_,hcell⟩:=World.cells?_some hc
  refine ⟨(cs',a),hlen,hT,fun j hj=>?_⟩
  have:=hcell j oM
  rw [hC,Go.Deep.add_add] at this
  exact this
 obtain ⟨Z,hZ⟩:=Go.Deep.choose_lt h1
 have hP:Pw k (fun c a=>T W (.agg c.toArray) a) ((List.range len0).map fun i=>(Z i).1) ((List.range len0).map fun i=>(Z i).2):=pw_map _ fun i hi=>⟨(hZ i (List.mem_range.1 hi)).1,(hZ i (List.mem_range.1 hi)).2.1⟩
 have hQ:Pw k (fun c i=>c=(Z i).1) ((List.range len0).map fun i=>(Z i).1) ((List.range len0).map id):=pw_map _ fun i hi=>⟨(hZ i (List.mem_range.1 hi)).1,rfl⟩
 refine ⟨(List.range len0).map fun i=>(Z i).2,⟨_,?_,hP⟩⟩
 ·have hfl:=hP.flat
  simp only [List.length_map,List.length_range] at hfl ⊢
  refine ⟨hfl,some x,cap0,rfl,hl,hm,(fun h=>by cases h),fun i hi0=>?_⟩
  rw [hfl] at hi0
  have hdiv:i / k < len0:=(Nat.div_lt_iff_lt_mul hk).2 hi0
  have hmod:i % k < k:=Nat.mod_lt _ hk
  have hid:i / k*k+i % k=i:=by rw [Nat.mul_comm];exact Nat.div_add_mod i k
  obtain ⟨cq,_,e2,e3⟩:=hQ.at (i / k) (by simpa using hdiv)
  have e2':cq=(Z (i / k)).1:=by simpa using e2
  have hcell:=(hZ (i / k) hdiv).2.2 (i % k) hmod
  have e4:=e3 (i % k) hmod
  rw [e2',← hcell,hid] at e4
  have hsome:∃ u,W.cell? (x.add 0)=some u:=by
   have hl0:0 < len0:=Nat.lt_of_le_of_lt (Nat.zero_le _) hdiv
   have h0:0 < (Z 0).1.length:=by rw [(hZ 0 hl0).1];exact hk
   have h9:=(hZ 0 hl0).2.2 0 hk
   rw [Nat.zero_mul] at h9
   exact ⟨_,h9.trans (List.getElem?_eq_getElem h0)⟩
  have hsp:x=⟨x.block,x.off,none⟩:=by
   obtain ⟨u,h0⟩:=hsome
   obtain ⟨b,o,sp⟩:=x
   cases sp with
   | none=>rfl
   | some s=>
    simp [Addr.add,World.cell?] at h0
    split at h0 <;> simp at h0
  refine ⟨x.block,x.off,by rw [← hsp],?_⟩
  rw [hsp,Addr.add_lit] at e4
  exact e4.symm
open Go.ChangeShapes Go.WideShapes Go.ChangeAt Go.RowKit Go.Att Go.Joins

theorem trod_three {H:Type} {enc:TypeId × Value→H} {P:Program} {W:World} {base:Nat} {spare:Nat→Bool} {held:Bool} {t:TypeId} {f0 f1 f2:Field} {fuel:Nat} {cs:List Value} {x:DataW H × List MemPlace} (ht:P.underlying t=some (.struct #[f0,f1,f2])) (h:DataW.trod enc P W base spare held fuel t cs=some x):
  ∃ y0 y1 y2 n,x.1=.agg [y0.1,y1.1,y2.1]∧cs.length=P.cellsOf t∧DataW.trod enc P W base spare held n f0.type ((cs.drop f0.offset).take (P.cellsOf f0.type))=some y0∧
   DataW.trod enc P W base spare held n f1.type ((cs.drop f1.offset).take (P.cellsOf f1.type))=some y1∧
   DataW.trod enc P W base spare held n f2.type ((cs.drop f2.offset).take (P.cellsOf f2.type))=some y2:=by
 obtain ⟨xs,n,_,rfl,hl,hlen,hf⟩:=DataW.trod_struct ht h
 match xs,hlen with
 | [y0,y1,y2],_=>exact ⟨y0,y1,y2,n,rfl,hl,by simpa using hf 0 f0 rfl,by simpa using hf 1 f1 rfl,by simpa using hf 2 f2 rfl⟩
theorem trod_Fm {H:Type} {enc:TypeId × Value→H} {W:World} {spare:Nat→Bool} {held:Bool}:∀ (b:Nat) {fuel:Nat} {cs:List Value} {y:DataW H × List MemPlace},Rows.uptoBulk y.1≤b→
  DataW.trod enc Tryz.prog W 0 spare held fuel 29 cs=some y→∃ f:Fm,cs.length=3∧RdFn b W (.agg cs.toArray) f
 | 0,_,_,y,hb,_=>by have:=bulk_one y.1;omega
 | b+1,fuel,cs,y,hb,h=>by
  obtain ⟨y0,y1,y2,n,hy,hl,h0,h1,h2⟩:=trod_three Tryz.underlying29 h
  have e0:Tryz.prog.cellsOf 3=1:=by kernel_rfl
  have e1:Tryz.prog.cellsOf 27=1:=by kernel_rfl
  dsimp only at h0 h1 h2
  rw [e0] at h0 h1
  rw [e1] at h2
  have hl3:cs.length=3:=hl.trans kR
  match cs,hl3 with
  | [c0,c1,c2],_=>
   simp only [List.drop_zero,List.drop_succ_cons,List.take_succ_cons,List.take_zero] at h0 h1 h2
   obtain ⟨z0,g0,-,-⟩:=DataW.trod_int Tryz.underlying3 h0
   obtain ⟨z1,g1,-,-⟩:=DataW.trod_int Tryz.underlying3 h1
   simp at g0 g1
   subst g0 g1
   obtain ⟨a0,l0,k0,g2⟩:=slice_form Tryz.underlying27 h2
   simp at g2
   subst g2
   have hy2:Rows.uptoBulk y2.1≤b:=by
    rw [hy] at hb
    simp only [Rows.uptoBulk,Rows.uptoBulkAll] at hb
    omega
   obtain ⟨l,rd⟩:=row_ofB (T:=RdFn b) (k:=3) (d:=y2.1) (ps:=y2.2) Tryz.underlying27 kR dC (fun m cs' y' hlt hy'=>trod_Fm b oM hy') h2
   obtain ⟨a,c,he,-,-⟩:=rd.shape
   simp only [Value.slice.injEq] at he
   obtain ⟨rfl,rfl,rfl⟩:=he
   exact ⟨.mk z0 z1 l,rfl,_,rfl,rd⟩
theorem trod_Sd {H:Type} {enc:TypeId × Value→H} {W:World} {spare:Nat→Bool} {held:Bool} {fuel:Nat} {cs:List Value} {y:DataW H × List MemPlace}
  (h:DataW.trod enc Tryz.prog W 0 spare held fuel 104 cs=some y):∃ p:NN × NN,cs.length=6∧RdNDp W (.agg cs.toArray) p:=by
 obtain ⟨xs,m,_,rfl,hl,hlen,hf⟩:=DataW.trod_array Tryz.underlying104 h
 have hN:Tryz.prog.cellsOf 102=3:=by kernel_rfl
 have hl6:cs.length=6:=hl.trans kR
 rw [hN] at hf
 match xs,hlen,cs,hl6 with
 | [y0,y1],_,[c0,c1,c2,c3,c4,c5],_=>
  have h0:=hf 0 dC
  have h1:=hf 1 dC
  simp only [Nat.zero_mul,Nat.one_mul,List.drop_zero,List.drop_succ_cons,List.take_succ_cons,List.take_zero,List.getElem?_cons_zero,List.getElem?_cons_succ] at h0 h1
  obtain ⟨a0,a1,a2,s,xs,ys,e0,r0,l0⟩:=trod_N h0
  obtain ⟨b0,b1,b2,s',xs',ys',e1,r1,l1⟩:=trod_N h1
  simp only [List.cons.injEq,and_true] at e0 e1
  obtain ⟨rfl,rfl,rfl⟩:=e0
  obtain ⟨rfl,rfl,rfl⟩:=e1
  exact ⟨((s,xs,ys),(s',xs',ys')),rfl,_,_,_,_,_,_,rfl,r0,r1⟩
theorem trod_Pr {H:Type} {enc:TypeId × Value→H} {W:World} {spare:Nat→Bool} {held:Bool} {fuel:Nat} {cs:List Value} {y:DataW H × List MemPlace}
  (h:DataW.trod enc Tryz.prog W 0 spare held fuel 31 cs=some y):∃ p:Pr (NN × NN) NAT,cs.length=5∧RdPr RdNDp RdNA W (.agg cs.toArray) p:=by
 obtain ⟨y0,y1,y2,n,hy,hl,h0,h1,h2⟩:=trod_three Tryz.underlying31 h
 have e0:Tryz.prog.cellsOf 25=1:=by kernel_rfl
 have e1:Tryz.prog.cellsOf 26=1:=by kernel_rfl
 have e2:Tryz.prog.cellsOf 29=3:=by kernel_rfl
 dsimp only at h0 h1 h2
 rw [e0] at h0
 rw [e1] at h1
 rw [e2] at h2
 have hl5:cs.length=5:=hl.trans kR
 match cs,hl5 with
 | [c0,c1,c2,c3,c4],_=>
  simp only [List.drop_zero,List.drop_succ_cons,List.take_succ_cons,List.take_zero] at h0 h1 h2
  obtain ⟨lb,-,rb⟩:=trod_row (T:=RdNDp) (k:=6) Tryz.underlying25 kR dC (fun n cs y hy=>trod_Sd hy) h0
  obtain ⟨la,-,ra⟩:=trod_row (T:=RdNA) (k:=5) Tryz.underlying26 kR dC (fun n cs y hy=>by
   obtain ⟨p,g1,g2,-⟩:=trod_A hy
   exact ⟨p,g1,g2⟩) h1
  obtain ⟨f,-,rf⟩:=trod_Fm (Rows.uptoBulk y2.1) (Nat.le_refl _) h2
  obtain ⟨a,m,g1,k1⟩:=cells_RowT rb
  obtain ⟨b,k,g2,k2⟩:=cells_RowT ra
  simp only [List.cons.injEq,and_true] at g1 g2
  subst g1 g2
  obtain ⟨x,y,n',hv,-⟩:=RdFm.op ⟨_,rf⟩
  have hv':c2=.int .i64 f.k∧c3=.int .i64 f.a∧c4=.slice x f.sub.length y:=by simpa using hv
  obtain ⟨rfl,rfl,rfl⟩:=hv'
  exact ⟨(lb,la,f),rfl,a,m,b,k,_,rfl,k1,k2,_,rf⟩
theorem open_Q {H:Type} {enc:TypeId × Value→H} {W:World} {spare:Nat→Bool} {held:Bool} {v:Value} {r:Reach} {b0:Nat} {d:DataW H} {ps:List MemPlace}
  (hval:Value.okWide Tryz.prog W r b0 33 v) (h:DataW.Trod enc Tryz.prog W 0 spare held 33 v d ps):
  ∃ q:Nt NN × Pr (NN × NN) NAT,RdQy RdNp RdNDp RdNA W v q:=by
 obtain ⟨cs,rfl,hsz⟩:=okWide_struct Tryz.underlying33 hval
 obtain ⟨fuel,hf⟩:=h
 obtain ⟨cs⟩:=cs
 obtain ⟨y0,y1,n,hy,hl,h0,h1⟩:=trod_struct2 Tryz.underlying33 hf
 have e0:Tryz.prog.cellsOf 24=2:=by kernel_rfl
 have e1:Tryz.prog.cellsOf 31=5:=by kernel_rfl
 dsimp only at h0 h1
 rw [e0] at h0
 rw [e1] at h1
 have hl7:=hl.trans (show Tryz.prog.cellsOf 33=7 by kernel_rfl)
 simp only [Value.cells] at h0 h1 hl7
 match cs,hl7 with
 | [c0,c1,c2,c3,c4,c5,c6],_=>
  simp only [List.drop_zero,List.drop_succ_cons,List.take_succ_cons,List.take_zero] at h0 h1
  obtain ⟨m,-,rn⟩:=trod_Net h0
  obtain ⟨p,-,rp⟩:=trod_Pr h1
  obtain ⟨s0,hv,hr⟩:=rn
  have hv':c0=.int .i64 m.1∧c1=s0:=by simpa using hv
  obtain ⟨rfl,rfl⟩:=hv'
  exact ⟨(m,p),_,c2,c3,c4,c5,c6,rfl,⟨_,rfl,hr⟩,rp⟩
end Go.Proofs.YtmlhccajicmpfaaGreat
