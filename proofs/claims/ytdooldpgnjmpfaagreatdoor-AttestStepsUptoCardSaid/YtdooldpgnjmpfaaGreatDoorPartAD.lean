/- A group of texts: FrameD, FrameR, Bq -/
import Derived.Test.YtdooldpgnjmpfaaGreatDoorPartAB
import Derived.Test.YtdooldpgnjmpfaaGreatDoorPartAC
import Derived.Deep.Strs
import Derived.Deep.Slices
namespace Go.Proofs.YtdooldpgnjmpfaaGreatDoor
open Go.ChangeShapes Go.WideShapes Go.ChangeAt Go.RowKit Go.Att Go.Joins

set_option maxRecDepth 100000 in
theorem trod_N {H:Type} {enc:TypeId × Value→H} {W:World} {spare:Nat→Bool} {held:Bool} {fuel:Nat} {cs:List Value} {y:DataW H × List MemPlace}
  (h:DataW.trod enc Tryz.prog W 0 spare held fuel 71 cs=some y):
  ∃ (x0 x1 x2:Value) (s:Bool) (xs ys:List Nat),cs=[x0,x1,x2]∧RdN W (.agg #[x0,x1,x2]) s xs ys∧xs.length+ys.length+4≤Rows.uptoBulk y.1:=by
 obtain ⟨y0,y1,y2,n,rfl,hl,h0,h1,h2⟩:=Go.Deep.trod_struct3 Tryz.underlying71 h
 have e0:Tryz.prog.cellsOf 4=1:=by kernel_rfl
 have e1:Tryz.prog.cellsOf 57=1:=by kernel_rfl
 dsimp only at h0 h1 h2
 rw [e0] at h0
 rw [e1] at h1 h2
 have hl3:cs.length=3:=hl.trans (by kernel_rfl)
 match cs,hl3 with
 | [c0,c1,c2],_=>
  simp only [List.drop_zero,List.drop_succ_cons,List.take_succ_cons,List.take_zero] at h0 h1 h2
  obtain ⟨s,e0,rfl⟩:=DataW.trod_bool Tryz.underlying4 h0
  obtain ⟨a1,l1,k1,e1⟩:=slice_form Tryz.underlying57 h1
  obtain ⟨a2,l2,k2,e2⟩:=slice_form Tryz.underlying57 h2
  simp at e0 e1 e2
  subst e0 e1 e2
  obtain ⟨xs,rx,fx,lx⟩:=nats_of (d:=y1.1) (ps:=y1.2) Tryz.underlying57 Tryz.underlying119 (by kernel_rfl) rfl h1
  obtain ⟨ys,ry,fy,ly⟩:=nats_of (d:=y2.1) (ps:=y2.2) Tryz.underlying57 Tryz.underlying119 (by kernel_rfl) rfl h2
  refine ⟨_,_,_,s,xs,ys,rfl,⟨_,_,rfl,⟨rx,fx⟩,⟨ry,fy⟩⟩,?_⟩
  simp only [Rows.uptoBulk,Rows.uptoBulkAll]
  omega

open Go.ChangeShapes Go.WideShapes Go.ChangeAt Go.RowKit Go.Att Go.Joins

theorem pw_map {ι α:Type} {k:Nat} {R:List Value→α→Prop} {C:ι→List Value} {A:ι→α}:∀ (L:List ι),(∀ i∈L,(C i).length=k∧R (C i) (A i))→Pw k R (L.map C) (L.map A)
 | [],_=>trivial
 | i :: L,h=>⟨h i (List.mem_cons_self ..),pw_map L fun j hj=>h j (List.mem_cons_of_mem _ hj)⟩
theorem bulk_mem {H:Type}:∀ {l:List (DataW H)} {d:DataW H},d∈l→Rows.uptoBulk d≤Rows.uptoBulkAll l
 | x :: r,d,h=>by
  rw [bulk_cons]
  rcases List.mem_cons.1 h with rfl | h
  ·omega
  ·have:=bulk_mem h;omega
theorem row_of {H α:Type} [Inhabited α] {enc:TypeId × Value→H} {P:Program} {W:World} {spare:Nat→Bool} {held:Bool} {t e:TypeId} {k:Nat} {T:World→Value→α→Prop} {g:α→Nat} {a0:Option Addr} {len0 cap0 fuel:Nat} {d:DataW H} {ps:List MemPlace}
  (ht:P.underlying t=some (.slice e)) (hC:P.cellsOf e=k) (hk:0 < k)
  (hel:∀ n cs y,DataW.trod enc P W 0 spare held n e cs=some y→∃ a:α,cs.length=k∧T W (.agg cs.toArray) a∧g a≤Rows.uptoBulk y.1)
  (h:DataW.trod enc P W 0 spare held fuel t [.slice a0 len0 cap0]=some (d,ps)):
  ∃ l:List α,RdRow k T W (.slice a0 len0 cap0) l∧(∀ a∈l,g a≤Rows.uptoBulk d)∧l.length+1≤Rows.uptoBulk d:=by
 rcases Go.Deep.open_slice ht h with ⟨hcs,hx⟩ | ⟨x,l,c,m,n,D,Pl,hcs,_,hl,hm,hmm,hx,hi⟩
 ·simp at hcs
  obtain ⟨rfl,rfl,rfl⟩:=hcs
  exact ⟨[],⟨[],RdV.nil _ _,trivial⟩,fun a ha=>by simp at ha,bulk_one d⟩
 ·simp at hcs
  obtain ⟨rfl,rfl,rfl⟩:=hcs
  simp only [Prod.mk.injEq] at hx
  obtain ⟨rfl,_⟩:=hx
  have hlm:len0≤m:=by rw [hmm];split <;> omega
  have h1:∀ i,i < len0→∃ z:List Value × α,z.1.length=k∧T W (.agg z.1.toArray) z.2∧g z.2≤Rows.uptoBulk (D i)∧∀ j,j < k→W.cell? (x.add (i*k+j))=z.1[j]?:=by
   intro i hi0
   obtain ⟨cs',hc,htr⟩:=hi i (by omega)
   obtain ⟨a,hlen,hT,hg⟩:=hel _ _ _ htr
   obtain ⟨_,_,hcell⟩:=World.cells?_some hc
   refine ⟨(cs',a),hlen,hT,hg,fun j hj=>?_⟩
   have:=hcell j (by omega)
   rw [hC,Go.Deep.add_add] at this
   exact this
  obtain ⟨Z,hZ⟩:=Go.Deep.choose_lt h1
  have hP:Pw k (fun c a=>T W (.agg c.toArray) a) ((List.range len0).map fun i=>(Z i).1) ((List.range len0).map fun i=>(Z i).2):=pw_map _ fun i hi=>⟨(hZ i (List.mem_range.1 hi)).1,(hZ i (List.mem_range.1 hi)).2.1⟩
  have hQ:Pw k (fun c i=>c=(Z i).1) ((List.range len0).map fun i=>(Z i).1) ((List.range len0).map id):=pw_map _ fun i hi=>⟨(hZ i (List.mem_range.1 hi)).1,rfl⟩
  refine ⟨(List.range len0).map fun i=>(Z i).2,⟨_,?_,hP⟩,?_,?_⟩
  ·have hfl:=hP.flat
   simp only [List.length_map,List.length_range] at hfl ⊢
   refine ⟨hfl,some x,cap0,rfl,hl,hm,(fun h=>by cases h),fun i hi0=>?_⟩
   rw [hfl] at hi0
   have hdiv:i / k < len0:=(Nat.div_lt_iff_lt_mul hk).2 hi0
   have hmod:i % k < k:=Nat.mod_lt _ hk
   have hid:i / k*k+i % k=i:=by rw [Nat.mul_comm];exact Nat.div_add_mod i k
   obtain ⟨cq,_,e2,e3⟩:=hQ.at (i / k) (by simpa using hdiv)
   have e2':cq=(Z (i / k)).1:=by simpa using e2
   have hcell:=(hZ (i / k) hdiv).2.2.2 (i % k) hmod
   have e4:=e3 (i % k) hmod
   rw [e2',← hcell,hid] at e4
   have hsome:∃ u,W.cell? (x.add 0)=some u:=by
    have hl0:0 < len0:=Nat.lt_of_le_of_lt (Nat.zero_le _) hdiv
    have h0:0 < (Z 0).1.length:=by rw [(hZ 0 hl0).1];exact hk
    have h9:=(hZ 0 hl0).2.2.2 0 hk
    rw [Nat.zero_mul] at h9
    exact ⟨_,h9.trans (List.getElem?_eq_getElem h0)⟩
   have hsp:x=⟨x.block,x.off,none⟩:=by
    obtain ⟨u,h0⟩:=hsome
    obtain ⟨b,o,sp⟩:=x
    cases sp with
    | none=>rfl
    | some s=>
     simp [Addr.add,World.cell?] at h0
     split at h0 <;> simp at h0
   refine ⟨x.block,x.off,by rw [← hsp],?_⟩
   rw [hsp,Addr.add_lit] at e4
   exact e4.symm
  ·intro a ha
   obtain ⟨i,hi0,rfl⟩:=List.mem_map.1 ha
   have h2:=(hZ i (List.mem_range.1 hi0)).2.2.1
   have h3:Rows.uptoBulk (D i)≤Rows.uptoBulkAll ((List.range len0).map D):=bulk_mem (List.mem_map.2 ⟨i,hi0,rfl⟩)
   simp only [Rows.uptoBulk]
   omega
  ·have:=bulk_len ((List.range len0).map D)
   simp only [List.length_map,List.length_range,Rows.uptoBulk] at this ⊢
   omega

def bN (n:NN):Nat:=n.2.1.length+n.2.2.length
set_option maxRecDepth 100000 in
theorem open_rowN {H:Type} {enc:TypeId × Value→H} {W:World} {spare:Nat→Bool} {held:Bool} {t:TypeId} {v:Value} {r:Reach} {b0:Nat} {d:DataW H} {ps:List MemPlace} (ht:Tryz.prog.underlying t=some (.slice 71))
  (hval:Value.okWide Tryz.prog W r b0 t v) (h:DataW.Trod enc Tryz.prog W 0 spare held t v d ps):
  ∃ l:List NN,RdRow 3 RdNp W v l∧(∀ p∈l,bN p≤Rows.uptoBulk d)∧l.length+1≤Rows.uptoBulk d:=by
 obtain ⟨a0,len0,cap0,rfl⟩:=okWide_slice ht hval
 obtain ⟨fuel,hf⟩:=h
 refine row_of ht (by kernel_rfl) (by decide) (fun n cs y hy=>?_) (by simpa [Value.cells] using hf)
 obtain ⟨x0,x1,x2,s,xs,ys,rfl,r0,hb⟩:=trod_N hy
 exact ⟨(s,xs,ys),rfl,r0,by unfold bN;dsimp only;omega⟩
end Go.Proofs.YtdooldpgnjmpfaaGreatDoor

namespace Go.Att
open Go.RowKit
theorem Rm.c3 {w:World} {b:Nat} (h:Rm w b 3):∃ x0 x1 x2,w.cell? ⟨b,0,none⟩=some x0∧w.cell? ⟨b,1,none⟩=some x1∧w.cell? ⟨b,2,none⟩=some x2∧w.frozen? ⟨b,0,none⟩=false∧w.frozen? ⟨b,1,none⟩=false∧w.frozen? ⟨b,2,none⟩=false:=by
 obtain ⟨x0,h0,g0⟩:=h.at 0 (by omega)
 obtain ⟨x1,h1,g1⟩:=h.at 1 (by omega)
 obtain ⟨x2,h2,g2⟩:=h.at 2 (by omega)
 exact ⟨x0,x1,x2,h0,h1,h2,g0,g1,g2⟩
theorem agg3_inj {x y z x' y' z':Value} (h:Value.agg #[x,y,z]=.agg #[x',y',z']):x=x'∧y=y'∧z=z':=by
 simpa only [Value.agg.injEq,Array.mk.injEq,List.cons.injEq,and_true] using h
theorem RdQ.op3 {w:World} {x y z:Value} {q:Rat} (h:RdQ w (.agg #[x,y,z]) q):∃ s a l c a' l' c',x=.bool s∧y=.slice a l c∧z=.slice a' l' c':=by
 obtain ⟨s,a,l,c,a',l',c',e,-⟩:=h.op
 obtain ⟨rfl,rfl,rfl⟩:=agg3_inj e
 exact ⟨_,_,_,_,_,_,_,rfl,rfl,rfl⟩
theorem RdP.op3 {w:World} {x y z:Value} {q:Rat} (h:RdP w (.agg #[x,y,z]) q):∃ s a l c a' l' c',x=.bool s∧y=.slice a l c∧z=.slice a' l' c':=by
 obtain ⟨s,a,l,c,a',l',c',e,-⟩:=h.op
 obtain ⟨rfl,rfl,rfl⟩:=agg3_inj e
 exact ⟨_,_,_,_,_,_,_,rfl,rfl,rfl⟩
def Bo (w:World) (b o:Nat) (cs:List Value):Prop:=∀ j v,cs[j]?=some v→w.cell? ⟨b,o+j,none⟩=some v
theorem Bo.ext {w w':World} {b o:Nat} {cs:List Value} (h:Bo w b o cs) (e:Ext w w'):Bo w' b o cs:=fun j v hv=>e.cell (h j v hv)
theorem Bo.of {w:World} {b o n:Nat} {cs:List Value} (h:∀ j,j < n→w.cell? ⟨b,o+j,none⟩=cs[j]?) (hn:cs.length=n:=by rfl):Bo w b o cs:=fun j v hv=>by
 rw [h j (by have:=(List.getElem?_eq_some_iff.1 hv).1;omega),hv]
theorem Bo.c6 {w:World} {b o:Nat} {x0 x1 x2 x3 x4 x5:Value} {l:List Value} (h:Bo w b o (x0 :: x1 :: x2 :: x3 :: x4 :: x5 :: l)):w.cell? ⟨b,o,none⟩=some x0∧w.cell? ⟨b,o+1,none⟩=some x1∧w.cell? ⟨b,o+2,none⟩=some x2∧w.cell? ⟨b,o+3,none⟩=some x3∧w.cell? ⟨b,o+4,none⟩=some x4∧w.cell? ⟨b,o+5,none⟩=some x5:=
 ⟨h 0 _ rfl,h 1 _ rfl,h 2 _ rfl,h 3 _ rfl,h 4 _ rfl,h 5 _ rfl⟩
theorem Bo.putL {w:World} {b o:Nat} {cs:List Value} (h:Bo w b o cs) {c:Nat} (hne:b≠c) (i:Nat) (l:List Value):Bo (Att.putL w c i l) b o cs:=fun j v hv=>by
 rw [World.cell?_of_block (putL_block c hne l w i)]
 exact h j v hv
theorem Bo.lt {w:World} {b o:Nat} {x:Value} {cs:List Value} (h:Bo w b o (x :: cs)):b < w.heap.size:=World.block_lt_of_cell? w _ (h 0 x rfl)
def Bq (e t:TypeId) (w:World) (b:Nat) (q:Rat):Prop:=∃ x y z,Bx w b [x,y,z]∧Rt w b 3 t∧OwnQ e 0 w (.agg #[x,y,z]) q
section
variable {e t:TypeId}
theorem Bq.ext {w w':World} {b:Nat} {q:Rat} (h:Bq e t w b q) (x:Ext w w'):Bq e t w' b q:=by
 obtain ⟨_,_,_,h1,h2,h3⟩:=h
 exact ⟨_,_,_,h1.ext x,h2.ext x,h3.ext x⟩
theorem Bq.put {w:World} {b c:Nat} {q:Rat} (h:Bq e t w b q) {t':TypeId} (hc:Rt w c 3 t') (ht:e≠t') (hne:b≠c) (x y z:Value):Bq e t (put3 w c x y z) b q:=by
 obtain ⟨_,_,_,h1,h2,h3⟩:=h
 exact ⟨_,_,_,h1.put3 hne x y z,h2.putL hne 0 [x,y,z],h3.putT hc ht 0 [x,y,z]⟩
theorem Bq.set {w:World} {c:Nat} {q:Rat} (hc:Rt w c 3 t) (ht:e≠t) {x y z:Value} (h:OwnQ e 0 w (.agg #[x,y,z]) q):Bq e t (put3 w c x y z) c q:=
 ⟨_,_,_,(hc.putL_at [x,y,z] rfl).1,(hc.putL_at [x,y,z] rfl).2,h.putT hc ht 0 [x,y,z]⟩
theorem Bq.new {w:World} {x y z:Value} {q:Rat} (h:OwnQ e 0 w (.agg #[x,y,z]) q):Bq e t (w.alloc (.cells #[x,y,z] t)) w.heap.size q:=
 ⟨_,_,_,Bx.new w [x,y,z] _,Rt.new w [x,y,z] _,h.ext (Ext.alloc _ _)⟩
theorem Bq.rt {w:World} {b:Nat} {q:Rat} (h:Bq e t w b q):Rt w b 3 t:=by
 obtain ⟨_,_,_,-,h,-⟩:=h
 exact h
theorem Bq.lt {w:World} {b:Nat} {q:Rat} (h:Bq e t w b q):b < w.heap.size:=h.rt.lt
theorem Bq.op {w:World} {b:Nat} {q:Rat} (h:Bq e t w b q):∃ s a l c a' l' c',Hid (Bx w b [.bool s,.slice a l c,.slice a' l' c'])∧Hid (Rt w b 3 t)∧Hid (OwnQ e 0 w (.agg #[.bool s,.slice a l c,.slice a' l' c']) q):=by
 obtain ⟨x,y,z,h1,h2,h3⟩:=h
 obtain ⟨_,_,_,_,_,_,_,rfl,rfl,rfl⟩:=RdQ.op3 h3.rd
 exact ⟨_,_,_,_,_,_,_,h1,h2,h3⟩
end
def Bp (e t:TypeId) (w:World) (b:Nat) (q:Rat):Prop:=∃ x y z,Bx w b [x,y,z]∧Rt w b 3 t∧OwnP e 0 w (.agg #[x,y,z]) q
section
variable {e t:TypeId}
theorem Bp.ext {w w':World} {b:Nat} {q:Rat} (h:Bp e t w b q) (x:Ext w w'):Bp e t w' b q:=by
 obtain ⟨_,_,_,h1,h2,h3⟩:=h
 exact ⟨_,_,_,h1.ext x,h2.ext x,h3.ext x⟩
theorem Bp.set {w:World} {c:Nat} {q:Rat} (hc:Rt w c 3 t) (ht:e≠t) {x y z:Value} (h:OwnP e 0 w (.agg #[x,y,z]) q):Bp e t (put3 w c x y z) c q:=
 ⟨_,_,_,(hc.putL_at [x,y,z] rfl).1,(hc.putL_at [x,y,z] rfl).2,h.putT hc ht 0 [x,y,z]⟩
theorem Bp.new {w:World} {x y z:Value} {q:Rat} (h:OwnP e 0 w (.agg #[x,y,z]) q):Bp e t (w.alloc (.cells #[x,y,z] t)) w.heap.size q:=
 ⟨_,_,_,Bx.new w [x,y,z] _,Rt.new w [x,y,z] _,h.ext (Ext.alloc _ _)⟩
theorem Bp.rt {w:World} {b:Nat} {q:Rat} (h:Bp e t w b q):Rt w b 3 t:=by
 obtain ⟨_,_,_,-,h,-⟩:=h
 exact h
theorem Bp.lt {w:World} {b:Nat} {q:Rat} (h:Bp e t w b q):b < w.heap.size:=h.rt.lt
theorem Bp.op {w:World} {b:Nat} {q:Rat} (h:Bp e t w b q):∃ s a l c a' l' c',Hid (Bx w b [.bool s,.slice a l c,.slice a' l' c'])∧Hid (Rt w b 3 t)∧Hid (OwnP e 0 w (.agg #[.bool s,.slice a l c,.slice a' l' c']) q):=by
 obtain ⟨x,y,z,h1,h2,h3⟩:=h
 obtain ⟨_,_,_,_,_,_,_,rfl,rfl,rfl⟩:=RdP.op3 h3.rd
 exact ⟨_,_,_,_,_,_,_,h1,h2,h3⟩
end
end Go.Att
