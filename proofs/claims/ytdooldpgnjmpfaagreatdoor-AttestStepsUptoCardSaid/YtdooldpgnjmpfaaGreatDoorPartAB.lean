/- A group of texts: Frame, DoorS, Rat, RatN, RatB, FrameN -/
import Derived.Test.YtdooldpgnjmpfaaGreatDoorRows
import Derived.Test.YtdooldpgnjmpfaaGreatDoorPartAA
import Derived.ProofKit
import Derived.OpenShut
import Derived.JoinedCond
import Derived.Test.YtdooldpgnjmpfaaGreatDoorCards
import Derived.Test.YtdooldpgnjmpfaaGreatDoorTie
import Derived.WalkKit
import Derived.Deep.DeepHandedRow
import Derived.Lib.LaidTab
import Derived.Lib.TrailingZeros
import Derived.Lib.ItoaNum
import Derived.Lib.SmallJoins
namespace Go.Proofs.YtdooldpgnjmpfaaGreatDoor
open Go.ChangeShapes Go.WideShapes Go.ChangeAt Go.RowKit Go.Att

theorem bulk_one {H:Type} (d:DataW H):1≤Rows.uptoBulk d:=by
 cases d with
 | lit l=>cases l <;> simp [Rows.uptoBulk]
 | _=>simp [Rows.uptoBulk]
theorem bulk_len {H:Type} (l:List (DataW H)):l.length≤Rows.uptoBulkAll l:=by
 induction l with
 | nil=>simp [Rows.uptoBulkAll]
 | cons x r ih=>have:=bulk_one x;simp only [Rows.uptoBulkAll,List.length_cons];omega
theorem bulk_small {H:Type} {l:List (DataW H)} (hk:Rows.uptoSmall H l=true):Rows.uptoBulkAll l≤1048576:=of_decide_eq_true hk
theorem bulk_cons {H:Type} (d:DataW H) (l:List (DataW H)):Rows.uptoBulkAll (d :: l)=Rows.uptoBulk d+Rows.uptoBulkAll l:=by simp only [Rows.uptoBulkAll]
theorem bulk_nil {H:Type}:Rows.uptoBulkAll ([]:List (DataW H))=0:=by simp only [Rows.uptoBulkAll]

theorem nats_of {H:Type} {enc:TypeId × Value→H} {P:Program} {W:World} {spare:Nat→Bool} {held:Bool} {t e:TypeId} {k:IntKind} {a0:Option Addr} {len0 cap0 fuel:Nat} {d:DataW H} {ps:List MemPlace}
  (ht:P.underlying t=some (.slice e)) (he:P.underlying e=some (.int k)) (hc:P.cellsOf e=1) (hk:k.signed=false) (hf:DataW.trod enc P W 0 spare held fuel t [.slice a0 len0 cap0]=some (d,ps)):
  ∃ xs:List Nat,RdI k W (.slice a0 len0 cap0) xs∧Fit (2 ^ k.bits) xs∧xs.length+1≤Rows.uptoBulk d:=by
 rcases open_ints ht he hc hf with ⟨hcs,hx⟩ | ⟨x,l,c,zs,hcs,_,hl,hm,hz,hx,hcell,hwz⟩
 ·simp at hcs
  obtain ⟨rfl,rfl,rfl⟩:=hcs
  exact ⟨[],RdI.nil _ _,Fit.nil _,bulk_one d⟩
 ·simp at hcs
  obtain ⟨rfl,rfl,rfl⟩:=hcs
  simp only [Prod.mk.injEq] at hx
  obtain ⟨rfl,_⟩:=hx
  have hlen:len0≤zs.length:=by rw [hz];split <;> omega
  have hwf:∀ n∈zs,0≤n∧n < 2 ^ k.bits:=by
   intro n hn
   have:=hwz n hn
   cases k <;> simp [IntKind.signed] at hk <;> simp [Lit.wf,IntKind.min,IntKind.max,IntKind.bits,IntKind.signed] at this ⊢ <;> omega
  have hl2:(zs.take len0).length=len0:=by rw [List.length_take];omega
  refine ⟨(zs.take len0).map Int.toNat,?_,?_,?_⟩
  ·unfold RdI RdV
   rw [len_ints,List.length_map,hl2,Nat.mul_one]
   refine ⟨rfl,some x,cap0,rfl,hl,hm,(fun h=>by cases h),fun i hi=>?_⟩
   have hci:=hcell i (by omega)
   have hsp:x=⟨x.block,x.off,none⟩:=by
    have h0:=hcell 0 (by omega)
    obtain ⟨b,o,sp⟩:=x
    cases sp with
    | none=>rfl
    | some s=>
     simp [Addr.add,World.cell?] at h0
     split at h0 <;> simp at h0
   refine ⟨x.block,x.off,by rw [← hsp],?_⟩
   rw [hsp,Addr.add_lit] at hci
   rw [hci]
   simp [ints,hi,List.getD]
   have hi2:i < zs.length:=by omega
   rw [List.getElem?_eq_getElem hi2]
   have:=hwf zs[i] (List.getElem_mem hi2)
   simp
   omega
  ·intro y hy
   obtain ⟨n,hn,rfl⟩:=List.mem_map.1 hy
   have:=hwf n (List.mem_of_mem_take hn)
   have e:((2 ^ k.bits:Nat):Int)=2 ^ k.bits:=by simp
   omega
  ·rw [List.length_map]
   simp only [Rows.uptoBulk]
   have:=bulk_len (H:=H) (lits k (zs.take len0))
   simp [lits] at this ⊢
   omega
theorem open_nats {H:Type} {enc:TypeId × Value→H} {P:Program} {W:World} {spare:Nat→Bool} {held:Bool} {t e:TypeId} {k:IntKind} {v:Value} {r:Reach} {b0:Nat} {d:DataW H} {ps:List MemPlace}
  (ht:P.underlying t=some (.slice e)) (he:P.underlying e=some (.int k)) (hc:P.cellsOf e=1) (hk:k.signed=false) (hval:Value.okWide P W r b0 t v) (h:DataW.Trod enc P W 0 spare held t v d ps):
  ∃ xs:List Nat,RdI k W v xs∧Fit (2 ^ k.bits) xs∧xs.length+1≤Rows.uptoBulk d:=by
 obtain ⟨a0,len0,cap0,rfl⟩:=okWide_slice ht hval
 obtain ⟨fuel,hf⟩:=h
 exact nats_of ht he hc hk (by simpa [Value.cells] using hf)
set_option maxRecDepth 100000 in
theorem open_u8s {H:Type} {enc:TypeId × Value→H} {W:World} {spare:Nat→Bool} {held:Bool} {v:Value} {r:Reach} {b0:Nat} {d:DataW H} {ps:List MemPlace}
    (hval:Value.okWide Tryz.prog W r b0 190 v) (h:DataW.Trod enc Tryz.prog W 0 spare held 190 v d ps):∃ xs:List Nat,(RdI .u8 W v xs∧Fit 256 xs)∧xs.length+1≤Rows.uptoBulk d:=by
  obtain ⟨xs,h1,h2,h3⟩:=open_nats Tryz.underlying190 Tryz.underlying5 (by kernel_rfl) rfl hval h
  exact ⟨xs,⟨h1,h2⟩,h3⟩
theorem wf_int {a:Int} (h:(Lit.int .i64 a).wf=true) : -9223372036854775808≤a∧a≤9223372036854775807:=by
 simp [Lit.wf,IntKind.min,IntKind.max,IntKind.bits,IntKind.signed] at h;omega
open Go.ChangeShapes Go.WideShapes Go.ChangeAt Go.RowKit

noncomputable def withCells (cs:Array Value):Obj→Obj
 | .cells _ t frozen=>.cells cs t frozen
 | o=>o
noncomputable def byteCells (l:List Nat):Array Value:=(l.map fun n=>Value.int .u8 ((n:Nat):Int)).toArray
noncomputable def powCells:Array Value:=((List.range 20).map fun n=>Value.int .u64 ((10 ^ n:Nat):Int)).toArray
noncomputable def laidWorld (os:Os):World:=
 { World.holding Tryz.prog os ⟨#[],#[],[]⟩ with heap:=(((((World.holding Tryz.prog os ⟨#[],#[],[]⟩).heap.modify 3 (withCells (byteCells Go.Pinned.utf8FirstZ))).modify 4 (withCells (byteCells ([128,191,160,191,128,159,144,191,128,143] ++ List.replicate 22 0)))).modify 1 (withCells (byteCells Lib.deBruijn32tab))).modify 2 (withCells (byteCells Lib.deBruijn64tab))).modify 0 (withCells powCells) }
theorem met_tail {P:Program} {W:World} {x:String × DataW Unit} {rest:List (String × DataW Unit)} (h:laidMet P (x :: rest) W):laidMet P rest W:=by
 obtain ⟨ps,⟨g',t',cs,fuel,p,q,-,-,-,-,h5,h6⟩,hn,ha⟩:=h
 subst h6
 exact ⟨q,h5,(List.nodup_append.1 hn).2.1,fun b off hm=>ha b off (List.mem_append.2 (.inr hm))⟩
theorem gPow : Tryz.prog.globalNamed "internal/strconv.uint64pow10" = some 0 := by kernel_rfl
theorem tabAt {W : World} (h : laidMetH Tryz.prog Rows.attestStepsUptoRow.laid W) : Lib.TabIs Tryz.prog W "internal/strconv.uint64pow10" .u64 Lib.pow10Tab := by
 have h2:laidMet Tryz.prog Rows.attestStepsUptoRow.laid W:=h
 have h3:=met_tail (met_tail h2)
 exact Lib.tabIs_of_head (g:=0) (n:=20) gPow (by kernel_rfl) Tryz.underlying237 Tryz.underlying175 (by kernel_rfl) (by kernel_rfl) h3
end Go.Proofs.YtdooldpgnjmpfaaGreatDoor

namespace Go.Att
open Go.RowKit

def dens (d:Nat):List Nat:=if d=1 then [] else limbs d
def RdQ (w:World) (v:Value) (q:Rat):Prop:=∃ n d,v=.agg #[.bool (decide (q.num < 0)),n,d]∧RdL w n (limbs q.num.natAbs)∧RdL w d (dens q.den)
def OwnQ (e:TypeId) (B:Nat) (w:World) (v:Value) (q:Rat):Prop:=∃ n d,v=.agg #[.bool (decide (q.num < 0)),n,d]∧OwnL e B w n (limbs q.num.natAbs)∧OwnL e B w d (dens q.den)
theorem OwnQ.rd {e:TypeId} {B:Nat} {w:World} {v:Value} {q:Rat} (h:OwnQ e B w v q):RdQ w v q:=by
 obtain ⟨n,d,rfl,h1,h2⟩:=h
 exact ⟨n,d,rfl,h1.rd,h2.rd⟩
theorem RdQ.ext {w w':World} {v:Value} {q:Rat} (h:RdQ w v q) (x:Ext w w'):RdQ w' v q:=by
 obtain ⟨n,d,rfl,h1,h2⟩:=h
 exact ⟨n,d,rfl,h1.ext x,h2.ext x⟩
theorem OwnQ.ext {e:TypeId} {B:Nat} {w w':World} {v:Value} {q:Rat} (h:OwnQ e B w v q) (x:Ext w w'):OwnQ e B w' v q:=by
 obtain ⟨n,d,rfl,h1,h2⟩:=h
 exact ⟨n,d,rfl,h1.ext x,h2.ext x⟩
theorem OwnQ.mono {e:TypeId} {B B':Nat} {w:World} {v:Value} {q:Rat} (h:OwnQ e B w v q) (hB:B'≤B):OwnQ e B' w v q:=by
 obtain ⟨n,d,rfl,h1,h2⟩:=h
 exact ⟨n,d,rfl,h1.mono hB,h2.mono hB⟩
@[irreducible] def bel (d:Nat):List Nat:=if dens d=[] then [1] else dens d
theorem bel_one {d:Nat} (h:dens d=[]):bel d=[1]:=by unfold bel;exact if_pos h
theorem bel_same {d:Nat} (h:dens d≠[]):bel d=dens d:=by unfold bel;exact if_neg h
theorem nv_bel (q:Rat):nv (bel q.den)=q.den:=by
 unfold bel dens
 by_cases h1:q.den=1
 ·rw [if_pos h1,if_pos rfl,h1];rfl
 ·rw [if_neg h1,if_neg (fun h2=>q.den_nz (by have:=nv_limbs q.den;rw [h2] at this;exact this.symm)),nv_limbs]
theorem bel_len (d:Nat):(bel d).length≤(limbs d).length+1:=by
 unfold bel dens
 by_cases h1:d=1
 ·rw [if_pos h1,if_pos rfl];simp
 ·rw [if_neg h1]
  by_cases h:limbs d=[]
  ·rw [if_pos h];simp
  ·rw [if_neg h];omega

def Box3 (w:World) (b:Nat) (x y z:Value):Prop:=w.cell? ⟨b,0,none⟩=some x∧w.cell? ⟨b,1,none⟩=some y∧w.cell? ⟨b,2,none⟩=some z
theorem Box3.ext {w w':World} {b:Nat} {x y z:Value} (h:Box3 w b x y z) (e:Ext w w'):Box3 w' b x y z:=⟨e.cell h.1,e.cell h.2.1,e.cell h.2.2⟩
theorem Box3.new (w:World) (x y z:Value) (t:TypeId):Box3 (w.alloc (.cells #[x,y,z] t)) w.heap.size x y z:=by
 refine ⟨?_,?_,?_⟩ <;> simp
theorem agg_eq {a b:Bool} {x y:Value} (h:a=b):Value.agg #[.bool a,x,y]=.agg #[.bool b,x,y]:=by rw [h]
theorem drew_ext (w:World):Ext w w.drew:=Below.drew (Below.refl _ _)
theorem Box3.drew {w:World} {b:Nat} {x y z:Value} (h:Box3 w b x y z):Box3 w.drew b x y z:=h.ext (drew_ext w)

def put3 (w:World) (c:Nat) (x y z:Value):World:=((w.setCell ⟨c,0,none⟩ x).setCell ⟨c,1,none⟩ y).setCell ⟨c,2,none⟩ z
def Room3 (w:World) (c:Nat):Prop:=∃ x y z t,w.heap[c]?=some (.cells #[x,y,z] t (0,0))
theorem Room3.ext {w w':World} {c:Nat} (h:Room3 w c) (e:Ext w w'):Room3 w' c:=by
 obtain ⟨x,y,z,t,h⟩:=h
 exact ⟨x,y,z,t,by rw [e.block c (Array.getElem?_eq_some_iff.1 h).1];exact h⟩
theorem Room3.new (w:World) (x y z:Value) (t:TypeId):Room3 (w.alloc (.cells #[x,y,z] t)) w.heap.size:=⟨x,y,z,t,by show (w.heap.push _)[w.heap.size]?=_;simp⟩
theorem Room3.cells {w:World} {c:Nat} (h:Room3 w c):∃ x y z,w.cell? ⟨c,0,none⟩=some x∧w.cell? ⟨c,1,none⟩=some y∧w.cell? ⟨c,2,none⟩=some z∧
  w.frozen? ⟨c,0,none⟩=false∧w.frozen? ⟨c,1,none⟩=false∧w.frozen? ⟨c,2,none⟩=false:=by
 obtain ⟨x,y,z,t,h⟩:=h
 refine ⟨x,y,z,?_,?_,?_,frozen_of_row w c 0 _ t h,frozen_of_row w c 1 _ t h,frozen_of_row w c 2 _ t h⟩ <;> rw [cell_of_row w c _ _ t (0,0) h] <;> rfl
theorem put3_block (w:World) (c:Nat) (x y z:Value) (k:Nat) (hk:k≠c):(put3 w c x y z).heap[k]?=w.heap[k]?:=by
 unfold put3
 rw [Below.heap_setCell _ _ _ _ hk,Below.heap_setCell _ _ _ _ hk,Below.heap_setCell _ _ _ _ hk]
theorem put3_below {B:Nat} {a w:World} (h:Below B a w) {c:Nat} (hc:B≤c) (x y z:Value):Below B a (put3 w c x y z):=((h.setCell hc x).setCell hc y).setCell hc z
theorem Box3.put {w:World} {b:Nat} {x y z:Value} (h:Box3 w b x y z) {c:Nat} (hne:b≠c) (x' y' z':Value):Box3 (put3 w c x' y' z') b x y z:=by
 have e:∀ i,(put3 w c x' y' z').cell? ⟨b,i,none⟩=w.cell? ⟨b,i,none⟩:=fun i=>World.cell?_of_block (put3_block w c x' y' z' b hne)
 exact ⟨(e 0).trans h.1,(e 1).trans h.2.1,(e 2).trans h.2.2⟩
theorem owns_put {w:World} {B c:Nat} {e:TypeId} {size:Nat} {v:Value} {n:Nat} {xs:List Value} (o:w.ownsRow B e size v n xs) (hc:c < B) (x y z:Value):(put3 w c x y z).ownsRow B e size v n xs:=by
 rcases o with ⟨h1,h2 | ⟨g,cap,cur,hv,hg,hh,r⟩⟩
 ·exact ⟨h1,.inl h2⟩
 ·exact ⟨h1,.inr ⟨g,cap,cur,hv,hg,by rw [put3_block _ _ _ _ _ _ (by omega)];exact hh,r⟩⟩
theorem owns_put_new {w:World} {B c:Nat} {e:TypeId} {size:Nat} {v:Value} {n:Nat} {xs:List Value} (o:w.ownsRow B e size v n xs) {w':World} (x:Ext w w') (hc:c < B∨w.heap.size≤c) (x0 y0 z0:Value):(put3 w' c x0 y0 z0).ownsRow B e size v n xs:=by
 rcases o with ⟨h1,h2 | ⟨g,cap,cur,hv,hg,hh,r⟩⟩
 ·exact ⟨h1,.inl h2⟩
 ·have hl:=(Array.getElem?_eq_some_iff.1 hh).1
  exact ⟨h1,.inr ⟨g,cap,cur,hv,hg,by rw [put3_block _ _ _ _ _ _ (by omega),x.block g hl];exact hh,r⟩⟩
theorem OwnL.put_new {e:TypeId} {B c:Nat} {w w':World} {v:Value} {xs:List Nat} (h:OwnL e B w v xs) (x:Ext w w') (hc:c < B∨w.heap.size≤c) (x0 y0 z0:Value):OwnL e B (put3 w' c x0 y0 z0) v xs:=⟨owns_put_new h.1 x hc x0 y0 z0,h.2⟩
theorem Room3.put {w:World} {b c:Nat} (h:Room3 w b) (hne:b≠c) (x y z:Value):Room3 (put3 w c x y z) b:=by
 obtain ⟨x',y',z',t,h⟩:=h
 exact ⟨x',y',z',t,by rw [put3_block _ _ _ _ _ _ hne];exact h⟩
theorem Box3.put_at {w:World} {c:Nat} (h:Room3 w c) (x y z:Value):Box3 (put3 w c x y z) c x y z:=by
 obtain ⟨x',y',z',t,h⟩:=h
 have h0:=heap_setCell_same w c 0 _ t x h
 have h1:=heap_setCell_same _ c 1 _ t y h0
 have h2:=heap_setCell_same _ c 2 _ t z h1
 refine ⟨?_,?_,?_⟩ <;> (unfold put3;rw [cell_of_row _ c _ _ t (0,0) h2];simp)
theorem OwnL.put {e:TypeId} {B c:Nat} {w:World} {v:Value} {xs:List Nat} (h:OwnL e B w v xs) (hc:c < B) (x y z:Value):OwnL e B (put3 w c x y z) v xs:=⟨owns_put h.1 hc x y z,h.2⟩

theorem boxR (w:World) (u0 u1 u2:Value) (t:TypeId):∃ W,W=w.alloc (.cells #[u0,u1,u2] t)∧Ext w W∧Room3 W w.heap.size∧W.heap.size=w.heap.size+1:=
 ⟨_,rfl,Ext.alloc _ _,Room3.new _ _ _ _ _,by simp⟩
theorem box1 (w:World) (x y z:Value) (t:TypeId):∃ W,W=w.alloc (.cells #[x,y,z] t)∧Ext w W∧Box3 W w.heap.size x y z∧Room3 W w.heap.size∧W.heap.size=w.heap.size+1:=
 ⟨_,rfl,Ext.alloc _ _,Box3.new _ _ _ _ _,Room3.new _ _ _ _ _,by simp⟩
theorem box1R (w:World) (x y z u0 u1 u2:Value) (t t':TypeId):∃ W,W=(w.alloc (.cells #[x,y,z] t)).alloc (.cells #[u0,u1,u2] t')∧Ext w W∧Box3 W w.heap.size x y z∧Room3 W w.heap.size∧Room3 W (w.heap.size+1)∧W.heap.size=w.heap.size+2:=by
 obtain ⟨W,hW,e,b,r,s⟩:=box1 w x y z t
 obtain ⟨V,hV,e',r',s'⟩:=boxR W u0 u1 u2 t'
 exact ⟨V,by rw [hV,hW],e.trans e',b.ext e',r.ext e',by rw [← s];exact r',by omega⟩
theorem box2 (w:World) (x y z x' y' z':Value) (t t':TypeId):∃ W,W=(w.alloc (.cells #[x,y,z] t)).alloc (.cells #[x',y',z'] t')∧Ext w W∧Box3 W w.heap.size x y z∧Box3 W (w.heap.size+1) x' y' z'∧W.heap.size=w.heap.size+2:=by
 obtain ⟨W,hW,e,b,_,s⟩:=box1 w x y z t
 obtain ⟨V,hV,e',b',_,s'⟩:=box1 W x' y' z' t'
 exact ⟨V,by rw [hV,hW],e.trans e',b.ext e',by rw [← s];exact b',by omega⟩
theorem box2R (w:World) (x y z x' y' z' u0 u1 u2:Value) (t t' t'':TypeId):∃ W,W=((w.alloc (.cells #[x,y,z] t)).alloc (.cells #[x',y',z'] t')).alloc (.cells #[u0,u1,u2] t'')∧Ext w W∧Box3 W w.heap.size x y z∧Box3 W (w.heap.size+1) x' y' z'∧Room3 W (w.heap.size+1+1)∧W.heap.size=w.heap.size+3:=by
 obtain ⟨W,hW,e,b,b',s⟩:=box2 w x y z x' y' z' t t'
 obtain ⟨V,hV,e',r',s'⟩:=boxR W u0 u1 u2 t''
 exact ⟨V,by rw [hV,hW],e.trans e',b.ext e',b'.ext e',by rw [← s];exact r',by omega⟩
theorem box1RR (w:World) (x y z u0 u1 u2 v0 v1 v2:Value) (t t' t'':TypeId):∃ W,W=((w.alloc (.cells #[x,y,z] t)).alloc (.cells #[u0,u1,u2] t')).alloc (.cells #[v0,v1,v2] t'')∧Ext w W∧Box3 W w.heap.size x y z∧Room3 W (w.heap.size+1)∧Room3 W (w.heap.size+1+1)∧W.heap.size=w.heap.size+3:=by
 obtain ⟨W,hW,e,b,_,r,s⟩:=box1R w x y z u0 u1 u2 t t'
 obtain ⟨V,hV,e',r',s'⟩:=boxR W v0 v1 v2 t''
 exact ⟨V,by rw [hV,hW],e.trans e',b.ext e',r.ext e',by rw [show w.heap.size+1+1=W.heap.size by omega];exact r',by omega⟩

def sg (s:Bool) (n:Nat):Int:=if s then -(n:Int) else n
theorem sg_abs (s:Bool) (n:Nat):(sg s n).natAbs=n:=by cases s <;> simp [sg]
theorem sg_neg (s:Bool) (n:Nat):decide (sg s n < 0)=(s && decide (0 < n)):=by
 cases s
 ·have:¬ sg false n < 0:=by simp only [sg];simp
  simp [this]
 ·simp [sg]
theorem sg_self (x:Int):sg (decide (x < 0)) x.natAbs=x:=by
 unfold sg
 by_cases h:x < 0
 ·simp [h];omega
 ·simp [h];omega
@[irreducible] def mkQ (s:Bool) (n d:Nat):Rat:=mkRat (sg s n) d
theorem mkQ_den (s:Bool) (n d:Nat) (hd:d≠0):(mkQ s n d).den=d / Nat.gcd n d:=by
 unfold mkQ;rw [Rat.den_mkRat,if_neg hd,sg_abs,Nat.gcd_comm]
theorem mkQ_num' (s:Bool) (n d:Nat) (hd:d≠0):(mkQ s n d).num=sg s (n / Nat.gcd n d):=by
 unfold mkQ;rw [Rat.num_mkRat,if_neg hd,sg_abs,Nat.gcd_comm]
 have hg:(Nat.gcd n d) ∣ n:=Nat.gcd_dvd_left n d
 obtain ⟨k,hk⟩:=hg
 have hp:0 < Nat.gcd n d:=Nat.gcd_pos_of_pos_right _ (by omega)
 generalize Nat.gcd n d=g at*
 subst hk
 rw [Nat.mul_div_cancel_left _ hp]
 cases s
 ·simp only [sg];simp;rw [Int.mul_ediv_cancel_left _ (by omega)]
 ·simp only [sg];simp;rw [← Int.mul_neg,Int.mul_ediv_cancel_left _ (by omega)]
theorem mkQ_abs (s:Bool) (n d:Nat) (hd:d≠0):(mkQ s n d).num.natAbs=n / Nat.gcd n d:=by
 rw [mkQ_num' s n d hd,sg_abs]
theorem mkQ_neg (s:Bool) (n d:Nat) (hd:d≠0):decide ((mkQ s n d).num < 0)=(s && decide (0 < n / Nat.gcd n d)):=by
 rw [mkQ_num' s n d hd,sg_neg]
theorem mkQ_self (q:Rat):mkQ (decide (q.num < 0)) q.num.natAbs q.den=q:=by
 unfold mkQ;rw [sg_self,Rat.mkRat_self]
theorem limbs_zero:limbs 0=[]:=by unfold limbs;exact digs_zero _
theorem limbs_nil {x:Nat}:limbs x=[]↔x=0:=⟨fun h=>by have:=nv_limbs x;rw [h] at this;exact this.symm,fun h=>by rw [h,limbs_zero]⟩
theorem limbs_len_pos {x:Nat}:0 < (limbs x).length↔0 < x:=by
 rw [List.length_pos_iff,Ne,limbs_nil];omega

theorem mkQ_sg (s:Bool) (n d:Nat) (x:Int) (h:sg s n=x):mkQ s n d=mkRat x d:=by unfold mkQ;rw [h]
theorem sg_mul (s t:Bool) (n m:Nat):sg (s != t) (n*m)=sg s n*sg t m:=by
 cases s <;> cases t <;> simp [sg,Int.neg_mul,Int.mul_neg]
theorem mulQ (p q:Rat):mkQ (decide (p.num < 0) != decide (q.num < 0)) (p.num.natAbs*q.num.natAbs) (p.den*q.den)=p*q:=by
 rw [Rat.mul_def',mkQ_sg _ _ _ (p.num*q.num)]
 rw [sg_mul,sg_self,sg_self]
theorem invQ (q:Rat) (h:q.num≠0):mkQ (decide (q.num < 0)) q.den q.num.natAbs=q⁻¹:=by
 have hn:q.num.natAbs≠0:=by omega
 have hg:Nat.gcd q.den q.num.natAbs=1:=by rw [Nat.gcd_comm];exact q.reduced
 refine Rat.ext ?_ ?_
 ·rw [mkQ_num' _ _ _ hn,hg,Nat.div_one,Rat.num_inv]
  by_cases h0:q.num < 0
  ·rw [Int.sign_eq_neg_one_of_neg h0];simp [sg,h0]
  ·rw [Int.sign_eq_one_of_pos (by omega)];simp [sg,h0]
 ·rw [mkQ_den _ _ _ hn,hg,Nat.div_one,Rat.den_inv,if_neg h]
def sumS (s:Bool) (a:Nat) (t:Bool) (b:Nat):Bool:=if s=t then s else if b≤a then s else t
def sumN (s:Bool) (a:Nat) (t:Bool) (b:Nat):Nat:=if s=t then a+b else if b≤a then a - b else b - a
theorem sum_sg (s t:Bool) (a b:Nat):sg (sumS s a t b) (sumN s a t b)=sg s a+sg t b:=by
 unfold sumS sumN
 by_cases h:s=t
 ·subst h;rw [if_pos rfl,if_pos rfl];cases s <;> simp [sg];omega
 ·rw [if_neg h,if_neg h]
  by_cases hab:b≤a
  ·rw [if_pos hab,if_pos hab]
   cases s <;> cases t <;> simp [sg] at h ⊢ <;> omega
  ·rw [if_neg hab,if_neg hab]
   cases s <;> cases t <;> simp [sg] at h ⊢ <;> omega
theorem sumN_le (s t:Bool) (a b:Nat):sumN s a t b≤a+b:=by
 unfold sumN
 split
 ·omega
 ·split <;> omega
theorem sg_mulN (s:Bool) (a d:Nat):sg s (a*d)=sg s a*d:=by cases s <;> simp [sg,Int.neg_mul]
theorem addQ (p q:Rat):mkQ (sumS (decide (p.num < 0)) (p.num.natAbs*q.den) (decide (q.num < 0)) (q.num.natAbs*p.den)) (sumN (decide (p.num < 0)) (p.num.natAbs*q.den) (decide (q.num < 0)) (q.num.natAbs*p.den)) (p.den*q.den)=p+q:=by
 rw [Rat.add_def',mkQ_sg _ _ _ (p.num*q.den+q.num*p.den)]
 rw [sum_sg,sg_mulN,sg_mulN,sg_self,sg_self]
theorem neg_sign (q:Rat):(!decide (q.num < 0) && decide (0 < q.num.natAbs))=decide ((-q).num < 0):=by
 rw [Rat.neg_num]
 by_cases h:q.num < 0
 ·simp [h];omega
 ·by_cases h0:q.num=0
  ·simp [h0]
  ·have h1:(0:Int) < q.num:=by omega
   simp [h,h0,h1]

structure Sz (L:Nat) (q:Rat):Prop where
 num:(limbs q.num.natAbs).length≤L
 den:(limbs q.den).length≤L
theorem Sz.le {L M:Nat} {q:Rat} (h:Sz L q) (hM:L≤M):Sz M q:=⟨Nat.le_trans h.1 hM,Nat.le_trans h.2 hM⟩
theorem Sz.of {s:Bool} {n d L:Nat} (hd:d≠0) (hn:(limbs n).length≤L) (hl:(limbs d).length≤L):Sz L (mkQ s n d):=
 ⟨by rw [mkQ_abs _ _ _ hd];exact Nat.le_trans (limbs_mono (Nat.div_le_self _ _)) hn,by rw [mkQ_den _ _ _ hd];exact Nat.le_trans (limbs_mono (Nat.div_le_self _ _)) hl⟩
theorem Sz.mul {L M:Nat} {p q:Rat} (hp:Sz L p) (hq:Sz M q):Sz (L+M) (p*q):=by
 rw [← mulQ]
 exact Sz.of (Nat.mul_ne_zero p.den_nz q.den_nz) (limbs_mul hp.1 hq.1) (limbs_mul hp.2 hq.2)
theorem Sz.add {L M:Nat} {p q:Rat} (hp:Sz L p) (hq:Sz M q):Sz (L+M+1) (p+q):=by
 rw [← addQ]
 refine Sz.of (Nat.mul_ne_zero p.den_nz q.den_nz) (Nat.le_trans (limbs_mono (sumN_le _ _ _ _)) (limbs_add (limbs_mul hp.1 hq.2) (by rw [Nat.add_comm];exact limbs_mul hq.1 hp.2))) (Nat.le_trans (limbs_mul hp.2 hq.2) (Nat.le_succ _))
theorem Sz.neg {L:Nat} {q:Rat} (h:Sz L q):Sz L (-q):=⟨by rw [Rat.neg_num,Int.natAbs_neg];exact h.1,h.2⟩
theorem Sz.sub {L M:Nat} {p q:Rat} (hp:Sz L p) (hq:Sz M q):Sz (L+M+1) (p - q):=by
 rw [Rat.sub_eq_add_neg];exact hp.add hq.neg
theorem limbs_one_len:(limbs 1).length≤1:=(limbs_len _ _).2 (by decide)
theorem Sz.inv {L:Nat} {q:Rat} (h:Sz L q):Sz (L+1) q⁻¹:=by
 by_cases h0:q.num=0
 ·refine ⟨by rw [Rat.num_inv,h0];simp [limbs_zero],by rw [Rat.den_inv,if_pos h0];exact Nat.le_trans limbs_one_len (Nat.le_add_left _ _)⟩
 ·rw [← invQ q h0]
  exact (Sz.of (by omega) h.2 h.1).le (Nat.le_succ _)
theorem Sz.zero:Sz 1 0:=⟨by rw [Rat.zero_num];simp [limbs_zero],limbs_one_len⟩
open Go.RowKit

def RdP (w:World) (v:Value) (q:Rat):Prop:=∃ n d,v=.agg #[.bool (decide (q.num < 0)),n,d]∧RdB w n (bitsOf q.num.natAbs)∧RdB w d (bitsOf q.den)
def OwnP (e:TypeId) (B:Nat) (w:World) (v:Value) (q:Rat):Prop:=∃ n d,v=.agg #[.bool (decide (q.num < 0)),n,d]∧OwnB e B w n (bitsOf q.num.natAbs)∧OwnB e B w d (bitsOf q.den)
theorem OwnP.rd {e:TypeId} {B:Nat} {w:World} {v:Value} {q:Rat} (h:OwnP e B w v q):RdP w v q:=by
 obtain ⟨n,d,rfl,h1,h2⟩:=h
 exact ⟨n,d,rfl,h1.rd,h2.rd⟩
theorem RdP.ext {w w':World} {v:Value} {q:Rat} (h:RdP w v q) (x:Ext w w'):RdP w' v q:=by
 obtain ⟨n,d,rfl,h1,h2⟩:=h
 exact ⟨n,d,rfl,h1.ext x,h2.ext x⟩
theorem OwnP.ext {e:TypeId} {B:Nat} {w w':World} {v:Value} {q:Rat} (h:OwnP e B w v q) (x:Ext w w'):OwnP e B w' v q:=by
 obtain ⟨n,d,rfl,h1,h2⟩:=h
 exact ⟨n,d,rfl,h1.ext x,h2.ext x⟩
theorem OwnP.mono {e:TypeId} {B B':Nat} {w:World} {v:Value} {q:Rat} (h:OwnP e B w v q) (hB:B'≤B):OwnP e B' w v q:=by
 obtain ⟨n,d,rfl,h1,h2⟩:=h
 exact ⟨n,d,rfl,h1.mono hB,h2.mono hB⟩
theorem OwnB.put {e:TypeId} {B c:Nat} {w:World} {v:Value} {xs:List Bool} (h:OwnB e B w v xs) (hc:c < B) (x y z:Value):OwnB e B (put3 w c x y z) v xs:=owns_put h hc x y z

theorem bits_len_pos {x:Nat}:0 < (bitsOf x).length↔0 < x:=by
 have h:=bitsOf_len x 0
 rw [Nat.pow_zero] at h
 omega
theorem bits_one (x:Nat):(bitsOf x).length=1↔x=1:=by
 have h0:=bitsOf_len x 0
 have h1:=bitsOf_len x 1
 rw [Nat.pow_zero] at h0
 rw [Nat.pow_one] at h1
 omega
theorem bits_mul {a b La Lb:Nat} (ha:(bitsOf a).length≤La) (hb:(bitsOf b).length≤Lb):(bitsOf (a*b)).length≤La+Lb:=by
 refine (bitsOf_len _ _).2 ?_
 rw [Nat.pow_add]
 exact Nat.mul_lt_mul'' ((bitsOf_len _ _).1 ha) ((bitsOf_len _ _).1 hb)
structure Sb (L:Nat) (q:Rat):Prop where
 num:(bitsOf q.num.natAbs).length≤L
 den:(bitsOf q.den).length≤L
theorem Sb.le {L M:Nat} {q:Rat} (h:Sb L q) (hM:L≤M):Sb M q:=⟨Nat.le_trans h.1 hM,Nat.le_trans h.2 hM⟩
theorem Sb.neg {L:Nat} {q:Rat} (h:Sb L q):Sb L (-q):=⟨by rw [Rat.neg_num,Int.natAbs_neg];exact h.1,h.2⟩
theorem Sz.bits {L:Nat} {q:Rat} (h:Sz L q):Sb (32*L) q:=⟨bits_of_limbs h.1,bits_of_limbs h.2⟩

def RdN (w:World) (v:Value) (s:Bool) (xs ys:List Nat):Prop:=∃ a b,v=.agg #[.bool s,a,b]∧RdL w a xs∧RdL w b ys
theorem RdN.ext {w w':World} {v:Value} {s:Bool} {xs ys:List Nat} (h:RdN w v s xs ys) (x:Ext w w'):RdN w' v s xs ys:=by
 obtain ⟨a,b,rfl,h1,h2⟩:=h
 exact ⟨a,b,rfl,h1.ext x,h2.ext x⟩
def denOf (ys:List Nat):Nat:=if nv (ys.take 8)=0 then 1 else nv (ys.take 8)
theorem denOf_ne (ys:List Nat):denOf ys≠0:=by
 unfold denOf
 split
 ·decide
 ·assumption
@[irreducible] def qOf (s:Bool) (xs ys:List Nat):Rat:=mkQ s (nv (xs.take 8)) (denOf ys)
theorem qOf_eq (s:Bool) (xs ys:List Nat):qOf s xs ys=mkQ s (nv (xs.take 8)) (denOf ys):=by unfold qOf;rfl
theorem take8_len {xs:List Nat} (h:Fit W32 xs):(limbs (nv (xs.take 8))).length≤8:=Nat.le_trans (limbs_len_le (h.take 8)) (by rw [List.length_take];omega)
theorem denOf_len {ys:List Nat} (h:Fit W32 ys):(limbs (denOf ys)).length≤8:=by
 unfold denOf
 split
 ·exact Nat.le_trans limbs_one_len (by decide)
 ·exact take8_len h
theorem qOf_sz {s:Bool} {xs ys:List Nat} (hx:Fit W32 xs) (hy:Fit W32 ys):Sz 8 (qOf s xs ys):=by
 rw [qOf_eq];exact Sz.of (denOf_ne ys) (take8_len hx) (denOf_len hy)
theorem RdQ.zero (w:World):RdQ w (.agg #[.bool false,.slice none 0 0,.slice none 0 0]) 0:=by
 have h1:limbs (0:Rat).num.natAbs=[]:=by rw [Rat.zero_num];exact limbs_zero
 have h2:dens (0:Rat).den=[]:=rfl
 exact ⟨_,_,agg_eq (by rw [Rat.zero_num];rfl),by rw [h1];exact ⟨RdV.nil w 1,Fit.nil _⟩,by rw [h2];exact ⟨RdV.nil w 1,Fit.nil _⟩⟩
end Go.Att

namespace Go.Proofs.YtdooldpgnjmpfaaGreatDoor
open Go.ChangeShapes Go.WideShapes Go.ChangeAt Go.RowKit Go.Att Go.Joins

end Go.Proofs.YtdooldpgnjmpfaaGreatDoor
