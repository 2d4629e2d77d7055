/- A group of texts: FmB, Ty, PbR, FrameP, ShInts -/
import Derived.Test.YtdooldpgnjmpfaaGreatDoorPartAI
import Derived.Test.YtdooldpgnjmpfaaGreatDoorPartAH
import Derived.Test.YtdooldpgnjmpfaaGreatDoorPartAG
import Derived.Test.YtdooldpgnjmpfaaGreatDoorPartAB
import Derived.Shelf.Slices.Turned
import Derived.Shelf.Slices.Equal
import Derived.Shelf.Slices.Empties2
import Derived.Shelf.Slices.Clone
import Derived.Shelf.Slices.CompactI
import Derived.Shelf.SlSortCmp.NoneTotal
import Derived.Test.YtdooldpgnjmpfaaGreatDoorProg
namespace Go.Att
open Go.RowKit

theorem cell_same {w w':World} {b o:Nat} (h:w'.heap[b]?=w.heap[b]?):w'.cell? ⟨b,o,none⟩=w.cell? ⟨b,o,none⟩:=by
 simp [World.cell?,h]
theorem RdV.keepB {w w':World} {v:Value} {size n:Nat} {cells:List Value} (h:RdV w v size n cells) (hk:∀ g,v.ownBlock=some g→0 < n→g < w.heap.size→w'.heap[g]?=w.heap[g]?):RdV w' v size n cells:=by
 obtain ⟨h0,a,cap,rfl,h1,h2,h3,h5⟩:=h
 refine ⟨h0,a,cap,rfl,h1,h2,h3,fun i hi=>?_⟩
 obtain ⟨b,off,rfl,hc⟩:=h5 i hi
 refine ⟨b,off,rfl,?_⟩
 have hn:0 < n:=by
            rcases Nat.eq_zero_or_pos n with rfl | h;· rw [Nat.zero_mul] at h0;omega
            ·exact h
 have hlt:=World.block_lt_of_cell? w ⟨b,off+i,none⟩ (hc.trans (List.getElem?_eq_getElem hi))
 rw [← hc]
 exact cell_same (hk b rfl hn hlt)
def RdFs (S:Nat→Prop):Nat→World→Value→Fm→Prop
 | 0=>fun _ _ _=>False
 | n+1=>fun w v f=>∃ s,v=.agg #[.int .i64 f.k,.int .i64 f.a,s]∧(∀ g,s.ownBlock=some g→0 < f.sub.length→S g)∧RdRow 3 (RdFs S n) w s f.sub
section
variable {w w':World} {v:Value} {f:Fm} {n:Nat} {S S':Nat→Prop}
theorem RdFs.rd:∀ {n:Nat} {v:Value} {f:Fm},RdFs S n w v f→RdFn n w v f
 | 0,_,_,h=>h.elim
 | n+1,_,_,h=>by
  obtain ⟨s,rfl,-,h⟩:=h
  exact ⟨s,rfl,RdRow.mono h fun _ _ h=>RdFs.rd h⟩
theorem RdRow.keepB {α:Type} {k:Nat} {T T':World→Value→α→Prop} {l:List α} (h:RdRow k T w v l) (hk:∀ g,v.ownBlock=some g→0 < l.length→g < w.heap.size→w'.heap[g]?=w.heap[g]?) (hT:∀ u a,T w u a→T' w' u a):RdRow k T' w' v l:=by
 obtain ⟨E,h1,h2⟩:=h
 exact ⟨E,h1.keepB hk,h2.mono fun _ _ h=>hT _ _ h⟩
theorem RdFs.keep (hk:∀ g,S g→g < w.heap.size→w'.heap[g]?=w.heap[g]?):∀ {n:Nat} {v:Value} {f:Fm},RdFs S n w v f→RdFs S n w' v f
 | 0,_,_,h=>h.elim
 | n+1,_,_,h=>by
  obtain ⟨s,rfl,hs,h⟩:=h
  exact ⟨s,rfl,hs,h.keepB (fun g h1 h2 h3=>hk g (hs g h1 h2) h3) fun _ _ h=>RdFs.keep hk h⟩
theorem RdFs.ext (h:RdFs S n w v f) (x:Ext w w'):RdFs S n w' v f:=h.keep fun g _ hg=>x.block g hg
theorem RdV.lt {size:Nat} {cells:List Value} (h:RdV w v size n cells) (hs:0 < size) (hn:0 < n):∀ g,v.ownBlock=some g→g < w.heap.size:=by
 obtain ⟨h0,a,cap,rfl,h1,h2,h3,h5⟩:=h
 intro g hg
 have hi:0 < cells.length:=by rw [h0];exact Nat.mul_pos hn hs
 obtain ⟨b,off,rfl,hc⟩:=h5 0 hi
 have hlt:b < w.heap.size:=World.block_lt_of_cell? w ⟨b,off+0,none⟩ (hc.trans (List.getElem?_eq_getElem hi))
 have hg':b=g:=by simpa [Value.ownBlock] using hg
 omega
theorem RdFn.old:∀ {n:Nat} {v:Value} {f:Fm},RdFn n w v f→RdFs (fun g=>g < w.heap.size) n w v f
 | 0,_,_,h=>h.elim
 | n+1,_,_,h=>by
  obtain ⟨s,rfl,h⟩:=h
  refine ⟨s,rfl,fun g h1 h2=>?_,RdRow.mono h fun _ _ h=>RdFn.old h⟩
  obtain ⟨E,hE,-⟩:=h
  exact hE.lt (by decide) h2 g h1
theorem RdFs.succ:∀ {n:Nat} {v:Value} {f:Fm},RdFs S n w v f→RdFs S (n+1) w v f
 | 0,_,_,h=>h.elim
 | n+1,_,_,h=>by
  obtain ⟨s,rfl,hs,h⟩:=h
  exact ⟨s,rfl,hs,RdRow.mono h fun _ _ h=>RdFs.succ h⟩
theorem RdFs.le (h:RdFs S n w v f) {m:Nat} (hm:n≤m):RdFs S m w v f:=by
 induction hm with
 | refl=>exact h
 | step _ ih=>exact ih.succ
theorem RdFs.op (h:RdFs S (n+1) w v f):∃ a c,v=.agg #[.int .i64 f.k,.int .i64 f.a,.slice a f.sub.length c]∧RdRow 3 (RdFs S n) w (.slice a f.sub.length c) f.sub:=by
 obtain ⟨s,rfl,-,h⟩:=h
 obtain ⟨a,c,rfl,-,-⟩:=h.shape
 exact ⟨a,c,rfl,h⟩
theorem RdFs.shape (h:RdFs S n w v f):∃ a c,v=.agg #[.int .i64 f.k,.int .i64 f.a,.slice a f.sub.length c]:=by
 cases n with
 | zero=>exact h.elim
 | succ n=>
  obtain ⟨a,c,h,-⟩:=h.op
  exact ⟨a,c,h⟩
theorem RdFs.one {cs:List Value} (h:RdFs S n w (.agg cs.toArray) f):∀ u∈cs,u.oneCell'=true:=by
 obtain ⟨a,c,he⟩:=h.shape
 simp only [Value.agg.injEq] at he
 have he:=congrArg Array.toList he
 simp at he
 rw [he]
 intro u hu
 simp at hu
 rcases hu with rfl | rfl | rfl <;> rfl
end
def GrF (S:Nat→Prop) (n:Nat) (e:TypeId) (B:Nat) (w:World) (v:Value) (l:List Fm):Prop:=OwnRow 3 (RdFs (fun g=>S g∧v.ownBlock≠some g) n) e B w v l
section
variable {w w':World} {v:Value} {n B:Nat} {S:Nat→Prop} {e:TypeId} {l:List Fm}
theorem GrF.nil (S:Nat→Prop) (n:Nat) (e:TypeId) (B:Nat) (w:World):GrF S n e B w (.slice none 0 0) []:=OwnRow.nil _ _ _
theorem GrF.shape (h:GrF S n e B w v l):∃ a c,v=.slice a l.length c∧GrF S n e B w (.slice a l.length c) l:=by
 obtain ⟨a,c,rfl,-,-⟩:=(OwnRow.rd h).shape
 exact ⟨a,c,rfl,h⟩
theorem GrF.keep (h:GrF S n e B w v l) (hk:∀ g,S g∨v.ownBlock=some g→g < w.heap.size→w'.heap[g]?=w.heap[g]?):GrF S n e B w' v l:=by
 obtain ⟨E,hE,hP⟩:=h
 refine ⟨E,?_,hP.mono fun _ _ h=>RdFs.keep (fun g hg hlt=>hk g (.inl hg.1) hlt) h⟩
 obtain ⟨h1,h2⟩:=hE
 refine ⟨h1,?_⟩
 rcases h2 with h2 | ⟨g,cap,cur,hv,hg,hh,r⟩
 ·exact .inl h2
 ·exact .inr ⟨g,cap,cur,hv,hg,by rw [hk g (.inr (by rw [hv];rfl)) (Array.getElem?_eq_some_iff.1 hh).1];exact hh,r⟩
theorem GrF.ext (h:GrF S n e B w v l) (x:Ext w w'):GrF S n e B w' v l:=h.keep fun g _ hg=>x.block g hg
theorem GrF.le (h:GrF S n e B w v l) {m:Nat} (hm:n≤m):GrF S m e B w v l:=by
 obtain ⟨E,hE,hP⟩:=h
 exact ⟨E,hE,hP.mono fun _ _ h=>RdFs.le h hm⟩
theorem GrF.lt (h:GrF S n e B w v l):∀ g,v.ownBlock=some g→B≤g∧g < w.heap.size:=OwnRow.lt h
end
open Go.RowKit

def BlkT (e:TypeId) (w:World) (v:Value):Prop:=∀ g,v.ownBlock=some g→∃ cur,w.heap[g]?=some (.cells cur e (0,0))
def TyRow {α:Type} (k:Nat) (T:World→Value→α→Prop) (e:TypeId) (w:World) (v:Value) (l:List α):Prop:=RdRow k T w v l∧BlkT e w v
section
variable {α:Type} {k:Nat} {T S:World→Value→α→Prop} {e e':TypeId} {w w':World} {v v':Value} {l:List α}
theorem BlkT.lt (h:BlkT e w v) {g:Nat} (hg:v.ownBlock=some g):g < w.heap.size:=by
 obtain ⟨cur,h1⟩:=h g hg
 exact (Array.getElem?_eq_some_iff.1 h1).1
theorem BlkT.keep (h:BlkT e w v) (hk:∀ g,v.ownBlock=some g→w'.heap[g]?=w.heap[g]?):BlkT e w' v:=fun g hg=>by
 obtain ⟨cur,h1⟩:=h g hg
 exact ⟨cur,by rw [hk g hg];exact h1⟩
theorem TyRow.keep (h:TyRow k T e w v l) (hk:∀ g,v.ownBlock=some g→g < w.heap.size→w'.heap[g]?=w.heap[g]?) (hT:∀ u a,T w u a→T w' u a):TyRow k T e w' v l:=
 ⟨h.1.keepB (fun g h1 _ h3=>hk g h1 h3) hT,h.2.keep fun g hg=>hk g hg (h.2.lt hg)⟩
theorem TyRow.ext (h:TyRow k T e w v l) (hT:∀ {w w' v a},T w v a→Ext w w'→T w' v a) (x:Ext w w'):TyRow k T e w' v l:=h.keep (fun g _ hg=>x.block g hg) fun _ _ h=>hT h x
theorem TyRow.of {B:Nat} (h:OwnRow k T e B w v l):TyRow k T e w v l:=⟨h.rd,fun g hg=>by
 obtain ⟨E,⟨-,h1⟩,-⟩:=h
 rcases h1 with ⟨rfl,-⟩ | ⟨g',cap,cur,rfl,-,hh,-⟩
 ·cases hg
 ·have hgg:g'=g:=by simpa [Value.ownBlock] using hg
  exact ⟨cur,hgg ▸ hh⟩⟩
theorem BlkT.ne_own {B n size:Nat} {xs:List Value} (h:BlkT e w v) (hr:w.ownsRow B e' size v' n xs) (hne:e≠e') {g:Nat} (hg:v.ownBlock=some g):some g≠v'.ownBlock:=by
 intro he
 obtain ⟨cur,h1⟩:=h g hg
 obtain ⟨-,h2⟩:=hr
 rcases h2 with ⟨rfl,-⟩ | ⟨g',cap,cur',rfl,-,hh,-⟩
 ·cases he
 ·have hgg:g'=g:=by
   have:some g=some g':=he
   simpa using this.symm
  subst hgg
  rw [hh] at h1
  simp at h1
  exact hne h1.2.symm
theorem TyRow.grown {B n size:Nat} {xs:List Value} (h:TyRow k T e w v l) (hT:∀ u a,T w u a→T w' u a) (hr:w.ownsRow B e' size v' n xs) (hne:e≠e') (hg:w.grownBy w' v'.ownBlock):TyRow k T e w' v l:=
 h.keep (fun g hgv hlt=>hg.block g hlt (h.2.ne_own hr hne hgv)) hT
theorem TyRow.putT {c m:Nat} {t:TypeId} (h:TyRow k T e w v l) (hc:Rt w c m t) (hne:e≠t) (i:Nat) (cs:List Value) (hT:∀ u a,T w u a→T (Att.putL w c i cs) u a):TyRow k T e (Att.putL w c i cs) v l:=by
 refine h.keep (fun g hg _=>putL_block c (fun he=>?_) cs _ i) hT
 obtain ⟨cur,h1⟩:=h.2 g hg
 obtain ⟨cur',-,h2⟩:=hc
 rw [← he,h1] at h2
 simp at h2
 exact hne h2.2
theorem TyRow.nil (e:TypeId) (w:World):TyRow k T e w (.slice none 0 0) []:=TyRow.of (OwnRow.nil _ 0 _)
theorem TyRow.shape (h:TyRow k T e w v l):∃ a c,v=.slice a l.length c∧TyRow k T e w (.slice a l.length c) l:=by
 obtain ⟨a,c,rfl,-,-⟩:=h.1.shape
 exact ⟨a,c,rfl,h⟩
end
def RowY {α:Type} (k:Nat) (T:World→Value→α→Prop) (e:TypeId) (w:World) (v:Value) (l:List α):Prop:=∃ a c,v=.agg #[.slice a l.length c]∧TyRow k T e w (.slice a l.length c) l
section
variable {α:Type} {k:Nat} {T S:World→Value→α→Prop} {e e':TypeId} {w w':World} {v:Value} {l:List α}
theorem RowY.ext (h:RowY k T e w v l) (hT:∀ {w w' v a},T w v a→Ext w w'→T w' v a) (x:Ext w w'):RowY k T e w' v l:=by
 obtain ⟨a,c,rfl,h⟩:=h
 exact ⟨a,c,rfl,h.ext hT x⟩
theorem RowY.rd (h:RowY k T e w v l):RowT k T w v l:=by
 obtain ⟨a,c,rfl,h⟩:=h
 exact ⟨a,c,rfl,h.1⟩
theorem RowY.of (h:TyRow k T e w v l):∃ a c,v=.slice a l.length c∧RowY k T e w (.agg #[.slice a l.length c]) l:=by
 obtain ⟨a,c,rfl,h⟩:=h.shape
 exact ⟨a,c,rfl,a,c,rfl,h⟩
theorem cells_RowY {cs:List Value} (h:RowY k T e w (.agg cs.toArray) l):∃ a c,cs=[.slice a l.length c]∧TyRow k T e w (.slice a l.length c) l:=by
 obtain ⟨a,c,he,h⟩:=h
 exact ⟨a,c,by simpa using he,h⟩
theorem kdY (hne:e≠e') (hT:Kd e' T):Kd e' (RowY k T e):=⟨fun h X=>h.ext hT.ext X,fun h hr hg=>by
 obtain ⟨a,c,rfl,h⟩:=h
 exact ⟨a,c,rfl,h.grown (fun _ _ h=>hT.grown h hr hg) hr hne hg⟩,fun h u hu=>by
 obtain ⟨a,c,rfl,-⟩:=cells_RowY h
 simp at hu
 subst hu
 rfl⟩
theorem RowY.putT {c m:Nat} {t:TypeId} (h:RowY k T e w v l) (hc:Rt w c m t) (hne:e≠t) (i:Nat) (cs:List Value) (hT:∀ u a,T w u a→T (Att.putL w c i cs) u a):RowY k T e (Att.putL w c i cs) v l:=by
 obtain ⟨a,d,rfl,h⟩:=h
 exact ⟨a,d,rfl,h.putT hc hne i cs hT⟩
end
open Go.RowKit

abbrev Pq (α:Type):=(Int × Int) × List α × List (List Int)
def RdPq {α:Type} (A:World→Value→α→Prop) (C:World→Value→List Int→Prop) (w:World) (v:Value) (p:Pq α):Prop:=
 ∃ a c a' c',v=.agg #[.int .i64 p.1.1,.int .i64 p.1.2,.slice a p.2.1.length c,.slice a' p.2.2.length c']∧RdRow 5 A w (.slice a p.2.1.length c) p.2.1∧RdRow 1 C w (.slice a' p.2.2.length c') p.2.2
abbrev Sq (ν:Type):=(Int × List Int) × Int × List Int × List ν
def RdSq {ν:Type} (C:World→Value→List Int→Prop) (D:World→Value→List ν→Prop) (w:World) (v:Value) (s:Sq ν):Prop:=
 ∃ a c a' c' a'' c'',v=.agg #[.int .i64 s.1.1,.slice a s.1.2.length c,.int .i64 s.2.1,.slice a' s.2.2.1.length c',.slice a'' s.2.2.2.length c'']∧
  C w (.slice a s.1.2.length c) s.1.2∧C w (.slice a' s.2.2.1.length c') s.2.2.1∧D w (.slice a'' s.2.2.2.length c'') s.2.2.2
section
variable {α ν:Type} {A:World→Value→α→Prop} {C:World→Value→List Int→Prop} {D:World→Value→List ν→Prop} {w w':World} {v:Value} {p:Pq α} {s:Sq ν}
theorem RdPq.ext (h:RdPq A C w v p) (hA:∀ {w w' v a},A w v a→Ext w w'→A w' v a) (hC:∀ {w w' v a},C w v a→Ext w w'→C w' v a) (x:Ext w w'):RdPq A C w' v p:=by
 obtain ⟨a,c,a',c',rfl,h1,h2⟩:=h
 exact ⟨a,c,a',c',rfl,h1.ext hA x,h2.ext hC x⟩
theorem RdSq.ext (h:RdSq C D w v s) (hC:∀ {w w' v a},C w v a→Ext w w'→C w' v a) (hD:∀ {w w' v a},D w v a→Ext w w'→D w' v a) (x:Ext w w'):RdSq C D w' v s:=by
 obtain ⟨a,c,a',c',a'',c'',rfl,h1,h2,h3⟩:=h
 exact ⟨a,c,a',c',a'',c'',rfl,hC h1 x,hC h2 x,hD h3 x⟩
theorem cells_Sq {cs:List Value} (h:RdSq C D w (.agg cs.toArray) s):∃ a c a' c' a'' c'',cs=[.int .i64 s.1.1,.slice a s.1.2.length c,.int .i64 s.2.1,.slice a' s.2.2.1.length c',.slice a'' s.2.2.2.length c'']∧
  C w (.slice a s.1.2.length c) s.1.2∧C w (.slice a' s.2.2.1.length c') s.2.2.1∧D w (.slice a'' s.2.2.2.length c'') s.2.2.2:=by
 obtain ⟨a,c,a',c',a'',c'',he,h1,h2,h3⟩:=h
 exact ⟨a,c,a',c',a'',c'',by simpa using congrArg Array.toList (show cs.toArray=_ by simpa using he),h1,h2,h3⟩
theorem kdSq {e e' t:TypeId} {k:Nat} {T:World→Value→ν→Prop} (h1:e≠e') (h2:t≠e') (hT:Kd e' T):Kd e' (RdSq (TyRow 1 IntT e) (TyRow k T t)):=⟨fun h X=>h.ext (fun h X=>h.ext (fun h _=>h) X) (fun h X=>h.ext hT.ext X) X,fun h hr hg=>by
 obtain ⟨a,c,a',c',a'',c'',rfl,k1,k2,k3⟩:=h
 exact ⟨a,c,a',c',a'',c'',rfl,k1.grown (fun _ _ h=>h) hr h1 hg,k2.grown (fun _ _ h=>h) hr h1 hg,k3.grown (fun _ _ h=>hT.grown h hr hg) hr h2 hg⟩,fun h u hu=>by
 obtain ⟨a,c,a',c',a'',c'',rfl,-⟩:=cells_Sq h
 simp at hu
 rcases hu with rfl | rfl | rfl | rfl | rfl <;> rfl⟩
theorem RdRow.sq {a:Option Addr} {n c:Nat} {l:List (Sq ν)} (h:RdRow 5 (RdSq C D) w (.slice a n c) l) (i:Nat) (hi:i < l.length):
  ∃ b off x k y m z j,a=some ⟨b,off,none⟩∧Bo w b (off+i*5) [.int .i64 l[i].1.1,.slice x l[i].1.2.length k,.int .i64 l[i].2.1,.slice y l[i].2.2.1.length m,.slice z l[i].2.2.2.length j]∧
   C w (.slice x l[i].1.2.length k) l[i].1.2∧C w (.slice y l[i].2.2.1.length m) l[i].2.2.1∧D w (.slice z l[i].2.2.2.length j) l[i].2.2.2:=by
 obtain ⟨b1,o1,cs,he,hl,hT,hc⟩:=h.at (by decide) i hi
 obtain ⟨x,k,y,m,z,j,rfl,h1,h2,h3⟩:=cells_Sq hT
 exact ⟨b1,o1,x,k,y,m,z,j,he,Bo.of hc,h1,h2,h3⟩
end
def TruT (_:World) (v:Value) (b:Bool):Prop:=v=.agg #[.bool b]
theorem RdB.ofRow {w:World} {v:Value}:∀ {l:List Bool},RdRow 1 TruT w v l→RdB w v l:=fun {l} h=>by
 obtain ⟨E,h1,h2⟩:=h
 have:E.flatten=bools l:=by
  clear h1
  induction l generalizing E with
  | nil=>cases E with
   | nil=>rfl
   | cons _ _=>exact h2.elim
  | cons a l ih=>cases E with
   | nil=>exact h2.elim
   | cons c E=>
    have hc:c=[.bool a]:=by simpa [TruT] using h2.1.2
    rw [List.flatten_cons,ih E h2.2,hc]
    rfl
 rw [this] at h1
 exact h1
end Go.Att

namespace Go.Proofs.YtdooldpgnjmpfaaGreatDoor
open Go.ChangeShapes Go.WideShapes Go.ChangeAt Go.RowKit Go.Att Go.Joins

theorem trod_five {H:Type} {enc:TypeId × Value→H} {P:Program} {W:World} {base:Nat} {spare:Nat→Bool} {held:Bool} {t:TypeId} {f0 f1 f2 f3 f4:Field} {fuel:Nat} {cs:List Value} {x:DataW H × List MemPlace} (ht:P.underlying t=some (.struct #[f0,f1,f2,f3,f4])) (h:DataW.trod enc P W base spare held fuel t cs=some x):
  ∃ y0 y1 y2 y3 y4 n,x.1=.agg [y0.1,y1.1,y2.1,y3.1,y4.1]∧cs.length=P.cellsOf t∧DataW.trod enc P W base spare held n f0.type ((cs.drop f0.offset).take (P.cellsOf f0.type))=some y0∧
   DataW.trod enc P W base spare held n f1.type ((cs.drop f1.offset).take (P.cellsOf f1.type))=some y1∧
   DataW.trod enc P W base spare held n f2.type ((cs.drop f2.offset).take (P.cellsOf f2.type))=some y2∧
   DataW.trod enc P W base spare held n f3.type ((cs.drop f3.offset).take (P.cellsOf f3.type))=some y3∧
   DataW.trod enc P W base spare held n f4.type ((cs.drop f4.offset).take (P.cellsOf f4.type))=some y4:=by
 obtain ⟨xs,n,_,rfl,hl,hlen,hf⟩:=DataW.trod_struct ht h
 match xs,hlen with
 | [y0,y1,y2,y3,y4],_=>exact ⟨y0,y1,y2,y3,y4,n,rfl,hl,by simpa using hf 0 f0 rfl,by simpa using hf 1 f1 rfl,by simpa using hf 2 f2 rfl,by simpa using hf 3 f3 rfl,by simpa using hf 4 f4 rfl⟩
theorem trod_fourD {H:Type} {enc:TypeId × Value→H} {P:Program} {W:World} {base:Nat} {spare:Nat→Bool} {held:Bool} {t:TypeId} {f0 f1 f2 f3:Field} {fuel:Nat} {cs:List Value} {x:DataW H × List MemPlace} (ht:P.underlying t=some (.struct #[f0,f1,f2,f3])) (h:DataW.trod enc P W base spare held fuel t cs=some x):
  ∃ y0 y1 y2 y3 n,x.1=.agg [y0.1,y1.1,y2.1,y3.1]∧cs.length=P.cellsOf t∧DataW.trod enc P W base spare held n f0.type ((cs.drop f0.offset).take (P.cellsOf f0.type))=some y0∧
   DataW.trod enc P W base spare held n f1.type ((cs.drop f1.offset).take (P.cellsOf f1.type))=some y1∧
   DataW.trod enc P W base spare held n f2.type ((cs.drop f2.offset).take (P.cellsOf f2.type))=some y2∧
   DataW.trod enc P W base spare held n f3.type ((cs.drop f3.offset).take (P.cellsOf f3.type))=some y3:=by
 obtain ⟨xs,n,_,rfl,hl,hlen,hf⟩:=DataW.trod_struct ht h
 match xs,hlen with
 | [y0,y1,y2,y3],_=>exact ⟨y0,y1,y2,y3,n,rfl,hl,by simpa using hf 0 f0 rfl,by simpa using hf 1 f1 rfl,by simpa using hf 2 f2 rfl,by simpa using hf 3 f3 rfl⟩
theorem trod_rowB {H α:Type} [Inhabited α] {enc:TypeId × Value→H} {P:Program} {W:World} {spare:Nat→Bool} {held:Bool} {t e:TypeId} {k:Nat} {T:World→Value→α→Prop} (g:α→Nat) {fuel:Nat} {cs:List Value} {y:DataW H × List MemPlace}
  (ht:P.underlying t=some (.slice e)) (hC:P.cellsOf e=k) (hk:0 < k)
  (hel:∀ n cs y,DataW.trod enc P W 0 spare held n e cs=some y→∃ a:α,cs.length=k∧T W (.agg cs.toArray) a∧g a≤Rows.uptoBulk y.1)
  (h:DataW.trod enc P W 0 spare held fuel t cs=some y):∃ l:List α,cs.length=1∧RowT k T W (.agg cs.toArray) l∧∀ a∈l,g a≤Rows.uptoBulk y.1:=by
 obtain ⟨a0,l0,k0,rfl⟩:=slice_form ht h
 obtain ⟨l,rd,h1,-⟩:=row_of (T:=T) (g:=g) (k:=k) (d:=y.1) (ps:=y.2) ht hC hk (fun n cs y hy=>by
  obtain ⟨a,h1,h2,h3⟩:=hel n cs y hy
  exact ⟨a,h1,h2,h3⟩) h
 obtain ⟨a,c,he,-,-⟩:=rd.shape
 simp only [Value.slice.injEq] at he
 obtain ⟨rfl,rfl,rfl⟩:=he
 exact ⟨l,rfl,⟨a0,k0,rfl,rd⟩,h1⟩
def bS (s:Sq NN):Nat:=mxl (s.2.2.2.map fun t=>((0:Int),t))
theorem bS_in {s:Sq NN} {t:NN} (h:t∈s.2.2.2):bN t≤bS s:=mxl_in (t:=((0:Int),t)) (List.mem_map.2 ⟨t,h,rfl⟩)
theorem RdRow.sep {α:Type} {k:Nat} {T:World→Value→α→Prop} {p:α→Prop} {w:World} {v:Value} {l:List α} (h:RdRow k (fun w v a=>T w v a∧p a) w v l):RdRow k T w v l∧∀ a∈l,p a:=by
 obtain ⟨E,h1,h2⟩:=h
 refine ⟨⟨E,h1,h2.mono fun _ _ h=>h.1⟩,fun a ha=>?_⟩
 obtain ⟨i,hi,rfl⟩:=List.getElem_of_mem ha
 obtain ⟨c,-,h3,-⟩:=h2.at i hi
 exact h3.2
theorem trod_RowZ {H:Type} {enc:TypeId × Value→H} {W:World} {spare:Nat→Bool} {held:Bool} {fuel:Nat} {cs:List Value} {y:DataW H × List MemPlace}
  (h:DataW.trod enc Tryz.prog W 0 spare held fuel 44 cs=some y):∃ l:List Int,cs.length=1∧RowT 1 IntT W (.agg cs.toArray) l∧∀ z∈l,In64 z:=by
 obtain ⟨l,h1,a,c,h2,h3⟩:=trod_row (T:=fun w v z=>IntT w v z∧In64 z) (k:=1) Tryz.underlying44 (by kernel_rfl) (by decide) (fun n cs y hy=>by
  obtain ⟨z,rfl,-,wz⟩:=DataW.trod_int Tryz.underlying3 hy
  exact ⟨z,rfl,rfl,by have:=wf_int wz;unfold In64;omega⟩) h
 have:=RdRow.sep h3
 exact ⟨l,h1,⟨a,c,h2,this.1⟩,this.2⟩
set_option maxRecDepth 100000 in
theorem trod_Pq {H:Type} {enc:TypeId × Value→H} {W:World} {spare:Nat→Bool} {held:Bool} {fuel:Nat} {cs:List Value} {y:DataW H × List MemPlace}
  (h:DataW.trod enc Tryz.prog W 0 spare held fuel 25 cs=some y):∃ p:Pq NAT,cs.length=4∧RdPq RdNA (RowT 1 IntT) W (.agg cs.toArray) p∧(∀ c∈p.2.2,∀ z∈c,In64 z)∧∀ a∈p.2.1,bA a≤Rows.uptoBulk y.1:=by
 obtain ⟨y0,y1,y2,y3,n,hy,hl,h0,h1,h2,h3⟩:=trod_fourD Tryz.underlying25 h
 have e0:Tryz.prog.cellsOf 3=1:=by kernel_rfl
 have e1:Tryz.prog.cellsOf 22=1:=by kernel_rfl
 have e2:Tryz.prog.cellsOf 23=1:=by kernel_rfl
 dsimp only at h0 h1 h2 h3
 rw [e0] at h0 h1
 rw [e1] at h2
 rw [e2] at h3
 have hl4:cs.length=4:=hl.trans (by kernel_rfl)
 match cs,hl4 with
 | [c0,c1,c2,c3],_=>
  simp only [List.drop_zero,List.drop_succ_cons,List.take_succ_cons,List.take_zero] at h0 h1 h2 h3
  obtain ⟨z0,g0,-,-⟩:=DataW.trod_int Tryz.underlying3 h0
  obtain ⟨z1,g1,-,-⟩:=DataW.trod_int Tryz.underlying3 h1
  simp at g0 g1
  subst g0 g1
  obtain ⟨la,-,ra,ba⟩:=trod_rowB (T:=RdNA) (k:=5) bA Tryz.underlying22 (by kernel_rfl) (by decide) (fun n cs y hy=>trod_A hy) h2
  obtain ⟨lc,-,rc⟩:=trod_row (T:=fun w v c=>RowT 1 IntT w v c∧∀ z∈c,In64 z) (k:=1) Tryz.underlying23 (by kernel_rfl) (by decide) (fun n cs y hy=>trod_RowZ hy) h3
  obtain ⟨a,m,g2,k2⟩:=cells_RowT ra
  obtain ⟨b,k,g3,k3'⟩:=cells_RowT rc
  obtain ⟨k3,kz⟩:=RdRow.sep k3'
  simp only [List.cons.injEq,and_true] at g2 g3
  subst g2 g3
  exact ⟨((z0,z1),la,lc),rfl,⟨_,_,_,_,rfl,k2,k3⟩,kz,fun a ha=>by
   have:=ba a ha
   rw [hy]
   simp only [Rows.uptoBulk,Rows.uptoBulkAll]
   omega⟩
set_option maxRecDepth 100000 in
theorem open_Pq {H:Type} {enc:TypeId × Value→H} {W:World} {spare:Nat→Bool} {held:Bool} {v:Value} {r:Reach} {b0:Nat} {d:DataW H} {ps:List MemPlace}
  (hval:Value.okWide Tryz.prog W r b0 25 v) (h:DataW.Trod enc Tryz.prog W 0 spare held 25 v d ps):
  ∃ p:Pq NAT,RdPq RdNA (RowT 1 IntT) W v p∧(∀ c∈p.2.2,∀ z∈c,In64 z)∧∀ a∈p.2.1,bA a≤Rows.uptoBulk d:=by
 obtain ⟨cs,rfl,hsz⟩:=okWide_struct Tryz.underlying25 hval
 obtain ⟨fuel,hf⟩:=h
 obtain ⟨cs⟩:=cs
 obtain ⟨n,-,h1⟩:=trod_Pq hf
 exact ⟨n,h1⟩
set_option maxRecDepth 100000 in
theorem trod_Sq {H:Type} {enc:TypeId × Value→H} {W:World} {spare:Nat→Bool} {held:Bool} {fuel:Nat} {cs:List Value} {y:DataW H × List MemPlace}
  (h:DataW.trod enc Tryz.prog W 0 spare held fuel 80 cs=some y):∃ s:Sq NN,cs.length=5∧RdSq (RdRow 1 IntT) (RdRow 3 RdNp) W (.agg cs.toArray) s∧((∀ z∈s.1.2,In64 z)∧∀ z∈s.2.2.1,In64 z)∧bS s≤Rows.uptoBulk y.1:=by
 obtain ⟨y0,y1,y2,y3,y4,n,hy,hl,h0,h1,h2,h3,h4⟩:=trod_five Tryz.underlying80 h
 have e0:Tryz.prog.cellsOf 3=1:=by kernel_rfl
 have e1:Tryz.prog.cellsOf 44=1:=by kernel_rfl
 have e2:Tryz.prog.cellsOf 27=1:=by kernel_rfl
 dsimp only at h0 h1 h2 h3 h4
 rw [e0] at h0 h2
 rw [e1] at h1 h3
 rw [e2] at h4
 have hl5:cs.length=5:=hl.trans (by kernel_rfl)
 match cs,hl5 with
 | [c0,c1,c2,c3,c4],_=>
  simp only [List.drop_zero,List.drop_succ_cons,List.take_succ_cons,List.take_zero] at h0 h1 h2 h3 h4
  obtain ⟨z0,g0,-,-⟩:=DataW.trod_int Tryz.underlying3 h0
  obtain ⟨z1,g1,-,-⟩:=DataW.trod_int Tryz.underlying3 h2
  simp at g0 g1
  subst g0 g1
  obtain ⟨lc,-,rc,zc⟩:=trod_RowZ h1
  obtain ⟨lp,-,rp,zp⟩:=trod_RowZ h3
  obtain ⟨lt,-,rt,bt⟩:=trod_rowB (T:=RdNp) (k:=3) bN Tryz.underlying27 (by kernel_rfl) (by decide) (fun n cs y hy=>by
   obtain ⟨x0,x1,x2,s,xs,ys,rfl,r0,b0⟩:=trod_N hy
   exact ⟨(s,xs,ys),rfl,r0,by unfold bN;dsimp only;omega⟩) h4
  obtain ⟨a,m,g1,k1⟩:=cells_RowT rc
  obtain ⟨b,k,g2,k2⟩:=cells_RowT rp
  obtain ⟨c,j,g3,k3⟩:=cells_RowT rt
  simp only [List.cons.injEq,and_true] at g1 g2 g3
  subst g1 g2 g3
  exact ⟨((z0,lc),z1,lp,lt),rfl,⟨_,_,_,_,_,_,rfl,k1,k2,k3⟩,⟨zc,zp⟩,mxl_le fun t ht=>by
   obtain ⟨u,hu,rfl⟩:=List.mem_map.1 ht
   have:=bt u hu
   rw [hy]
   simp only [Rows.uptoBulk,Rows.uptoBulkAll]
   omega⟩
set_option maxRecDepth 100000 in
theorem open_Sqs {H:Type} {enc:TypeId × Value→H} {W:World} {spare:Nat→Bool} {held:Bool} {v:Value} {r:Reach} {b0:Nat} {d:DataW H} {ps:List MemPlace}
  (hval:Value.okWide Tryz.prog W r b0 26 v) (h:DataW.Trod enc Tryz.prog W 0 spare held 26 v d ps):
  ∃ l:List (Sq NN),RdRow 5 (RdSq (RdRow 1 IntT) (RdRow 3 RdNp)) W v l∧(∀ s∈l,(∀ z∈s.1.2,In64 z)∧∀ z∈s.2.2.1,In64 z)∧∀ s∈l,bS s≤Rows.uptoBulk d:=by
 obtain ⟨a0,l0,k0,rfl⟩:=okWide_slice Tryz.underlying26 hval
 obtain ⟨fuel,hf⟩:=h
 obtain ⟨l,rd,bd,-⟩:=row_of (T:=fun w v (s:Sq NN)=>RdSq (RdRow 1 IntT) (RdRow 3 RdNp) w v s∧(∀ z∈s.1.2,In64 z)∧∀ z∈s.2.2.1,In64 z) (g:=bS) (k:=5) Tryz.underlying26 (by kernel_rfl) (by decide) (fun n cs y hy=>by
  obtain ⟨s,h1,h2,h3,h4⟩:=trod_Sq hy
  exact ⟨s,h1,⟨h2,h3⟩,h4⟩) (by simpa [Value.cells] using hf)
 exact ⟨l,(RdRow.sep rd).1,(RdRow.sep rd).2,bd⟩
set_option maxRecDepth 100000 in
theorem open_bools {H:Type} {enc:TypeId × Value→H} {W:World} {spare:Nat→Bool} {held:Bool} {v:Value} {r:Reach} {b0:Nat} {d:DataW H} {ps:List MemPlace}
  (hval:Value.okWide Tryz.prog W r b0 28 v) (h:DataW.Trod enc Tryz.prog W 0 spare held 28 v d ps):
  ∃ l:List Bool,RdB W v l:=by
 obtain ⟨a0,l0,k0,rfl⟩:=okWide_slice Tryz.underlying28 hval
 obtain ⟨fuel,hf⟩:=h
 obtain ⟨l,rd,-,-⟩:=row_of (T:=TruT) (g:=fun _=>0) (k:=1) Tryz.underlying28 (by kernel_rfl) (by decide) (fun n cs y hy=>by
  obtain ⟨b,rfl,-⟩:=DataW.trod_bool Tryz.underlying4 hy
  exact ⟨b,rfl,rfl,Nat.zero_le _⟩) (by simpa [Value.cells] using hf)
 exact ⟨l,RdB.ofRow rd⟩
end Go.Proofs.YtdooldpgnjmpfaaGreatDoor

namespace Go.Proofs
open Go.Shelf
def Tryz.lays107_ren:Go.Shelf.Ren:=⟨fun | 107=>99 | 108=>128 | n=>n,fun | 28=>44 | 3=>3 | 4=>4 | 0=>0 | n=>n,fun | n=>n⟩
theorem Tryz.lays107:Go.Proofs.Lays.n107 Tryz.prog Tryz.lays107_ren:={
 mixed:=by kernel_rfl
 f107:=Tryz.func99.trans (congrArg some (by kernel_rfl))
 f108:=Tryz.func128.trans (congrArg some (by kernel_rfl))
 t0:=Tryz.underlying0
 a0:=Tryz.isAgg0
 z0:=Tryz.sizeOf0
 v0:=Tryz.zeroValue0
 t3:=Tryz.underlying3
 a3:=Tryz.isAgg3
 z3:=Tryz.sizeOf3
 v3:=Tryz.zeroValue3
 t4:=Tryz.underlying4
 a4:=Tryz.isAgg4
 z4:=Tryz.sizeOf4
 v4:=Tryz.zeroValue4
 t28:=Tryz.underlying44
 a28:=Tryz.isAgg44
 z28:=Tryz.sizeOf44
 v28:=Tryz.zeroValue44 }
def Tryz.lays111_ren:Go.Shelf.Ren:=⟨fun | 111=>37 | n=>n,fun | 28=>44 | 3=>3 | 4=>4 | 0=>0 | n=>n,fun | n=>n⟩
theorem Tryz.lays111:Go.Proofs.Lays.n111 Tryz.prog Tryz.lays111_ren:={
 mixed:=by kernel_rfl
 f111:=Tryz.func37.trans (congrArg some (by kernel_rfl))
 t0:=Tryz.underlying0
 a0:=Tryz.isAgg0
 z0:=Tryz.sizeOf0
 v0:=Tryz.zeroValue0
 t3:=Tryz.underlying3
 a3:=Tryz.isAgg3
 z3:=Tryz.sizeOf3
 v3:=Tryz.zeroValue3
 t4:=Tryz.underlying4
 a4:=Tryz.isAgg4
 z4:=Tryz.sizeOf4
 v4:=Tryz.zeroValue4
 t28:=Tryz.underlying44
 a28:=Tryz.isAgg44
 z28:=Tryz.sizeOf44
 v28:=Tryz.zeroValue44 }
def Tryz.lays2_15_ren:Go.Shelf.Ren:=⟨fun | 15=>56 | n=>n,fun | 22=>44 | 3=>3 | 4=>4 | n=>n,fun | n=>n⟩
theorem Tryz.lays2_15:Go.Proofs.Lays2.n15 Tryz.prog Tryz.lays2_15_ren:={
 mixed:=by kernel_rfl
 f15:=Tryz.func56.trans (congrArg some (by kernel_rfl))
 t3:=Tryz.underlying3
 a3:=Tryz.isAgg3
 z3:=Tryz.sizeOf3
 v3:=Tryz.zeroValue3
 t4:=Tryz.underlying4
 a4:=Tryz.isAgg4
 z4:=Tryz.sizeOf4
 v4:=Tryz.zeroValue4
 t22:=Tryz.underlying44
 a22:=Tryz.isAgg44
 z22:=Tryz.sizeOf44
 v22:=Tryz.zeroValue44
 i3:=by kernel_rfl }
def Tryz.lays2_20_ren:Go.Shelf.Ren:=⟨fun | 20=>60 | n=>n,fun | 22=>44 | 3=>3 | 4=>4 | 0=>0 | n=>n,fun | n=>n⟩
theorem Tryz.lays2_20:Go.Proofs.Lays2.n20 Tryz.prog Tryz.lays2_20_ren:={
 mixed:=by kernel_rfl
 f20:=Tryz.func60.trans (congrArg some (by kernel_rfl))
 t0:=Tryz.underlying0
 a0:=Tryz.isAgg0
 z0:=Tryz.sizeOf0
 v0:=Tryz.zeroValue0
 t3:=Tryz.underlying3
 a3:=Tryz.isAgg3
 z3:=Tryz.sizeOf3
 v3:=Tryz.zeroValue3
 t4:=Tryz.underlying4
 a4:=Tryz.isAgg4
 z4:=Tryz.sizeOf4
 v4:=Tryz.zeroValue4
 t22:=Tryz.underlying44
 a22:=Tryz.isAgg44
 z22:=Tryz.sizeOf44
 v22:=Tryz.zeroValue44
 i3:=by kernel_rfl }
def Tryz.laysF6_ren:Go.Shelf.Ren:=⟨fun | 6=>57 | 15=>92 | 14=>91 | 28=>125 | 29=>126 | 20=>117 | 21=>118 | 22=>119 | 23=>120 | 24=>121 | 25=>122 | 26=>123 | 27=>124 | 46=>139 | 47=>140 | 48=>141 | 49=>142 | 50=>143 | 57=>154 | n=>n,fun | 22=>44 | 24=>3 | 25=>141 | 3=>3 | 39=>173 | 0=>0 | 53=>119 | 55=>175 | 4=>4 | 46=>201 | 45=>200 | 50=>128 | 5=>5 | 9=>9 | 66=>219 | 70=>223 | 76=>233 | 77=>234 | n=>n,fun | n=>n⟩
theorem Tryz.laysF6:Go.Proofs.SlLaysF.n6 Tryz.prog Tryz.laysF6_ren:={
 mixed:=by kernel_rfl
 f6:=⟨Tryz.f57.name,by decide,Tryz.func57.trans (congrArg some (by kernel_rfl))⟩
 f14:=⟨Tryz.f91.name,by decide,Tryz.func91.trans (congrArg some (by kernel_rfl))⟩
 f15:=Tryz.func92.trans (congrArg some (by kernel_rfl))
 f20:=⟨Tryz.f117.name,by decide,Tryz.func117.trans (congrArg some (by kernel_rfl))⟩
 f21:=⟨Tryz.f118.name,by decide,Tryz.func118.trans (congrArg some (by kernel_rfl))⟩
 f22:=⟨Tryz.f119.name,by decide,Tryz.func119.trans (congrArg some (by kernel_rfl))⟩
 f23:=⟨Tryz.f120.name,by decide,Tryz.func120.trans (congrArg some (by kernel_rfl))⟩
 f24:=⟨Tryz.f121.name,by decide,Tryz.func121.trans (congrArg some (by kernel_rfl))⟩
 f25:=⟨Tryz.f122.name,by decide,Tryz.func122.trans (congrArg some (by kernel_rfl))⟩
 f26:=⟨Tryz.f123.name,by decide,Tryz.func123.trans (congrArg some (by kernel_rfl))⟩
 f27:=⟨Tryz.f124.name,by decide,Tryz.func124.trans (congrArg some (by kernel_rfl))⟩
 f28:=Tryz.func125.trans (congrArg some (by kernel_rfl))
 f29:=Tryz.func126.trans (congrArg some (by kernel_rfl))
 f46:=⟨Tryz.f139.name,by decide,Tryz.func139.trans (congrArg some (by kernel_rfl))⟩
 f47:=Tryz.func140.trans (congrArg some (by kernel_rfl))
 f48:=Tryz.func141.trans (congrArg some (by kernel_rfl))
 f49:=⟨Tryz.f142.name,by decide,Tryz.func142.trans (congrArg some (by kernel_rfl))⟩
 f50:=⟨Tryz.f143.name,by decide,Tryz.func143.trans (congrArg some (by kernel_rfl))⟩
 f57:=⟨Tryz.f154.name,by decide,Tryz.func154.trans (congrArg some (by kernel_rfl))⟩
 t0:=Tryz.underlying0
 a0:=Tryz.isAgg0
 z0:=Tryz.sizeOf0
 v0:=Tryz.zeroValue0
 t3:=Tryz.underlying3
 a3:=Tryz.isAgg3
 z3:=Tryz.sizeOf3
 v3:=Tryz.zeroValue3
 t4:=Tryz.underlying4
 a4:=Tryz.isAgg4
 z4:=Tryz.sizeOf4
 v4:=Tryz.zeroValue4
 t5:=Tryz.underlying5
 a5:=Tryz.isAgg5
 z5:=Tryz.sizeOf5
 v5:=Tryz.zeroValue5
 t9:=Tryz.underlying9
 a9:=Tryz.isAgg9
 z9:=Tryz.sizeOf9
 v9:=Tryz.zeroValue9
 t22:=Tryz.underlying44
 a22:=Tryz.isAgg44
 z22:=Tryz.sizeOf44
 v22:=Tryz.zeroValue44
 a24:=Tryz.isAgg3
 z24:=Tryz.sizeOf3
 t25:=Tryz.underlying141
 a25:=Tryz.isAgg141
 z25:=Tryz.sizeOf141
 v25:=Tryz.zeroValue141
 t39:=Tryz.underlying173
 a39:=Tryz.isAgg173
 z39:=Tryz.sizeOf173
 v39:=Tryz.zeroValue173
 t45:=Tryz.underlying200
 a45:=Tryz.isAgg200
 z45:=Tryz.sizeOf200
 v45:=Tryz.zeroValue200
 t46:=Tryz.underlying201
 a46:=Tryz.isAgg201
 z46:=Tryz.sizeOf201
 v46:=Tryz.zeroValue201
 t50:=Tryz.underlying128
 a50:=Tryz.isAgg128
 z50:=Tryz.sizeOf128
 v50:=Tryz.zeroValue128
 t53:=Tryz.underlying119
 a53:=Tryz.isAgg119
 z53:=Tryz.sizeOf119
 v53:=Tryz.zeroValue119
 t55:=Tryz.underlying175
 a55:=Tryz.isAgg175
 z55:=Tryz.sizeOf175
 v55:=Tryz.zeroValue175
 t66:=Tryz.underlying219
 a66:=Tryz.isAgg219
 z66:=Tryz.sizeOf219
 v66:=Tryz.zeroValue219
 t70:=Tryz.underlying223
 a70:=Tryz.isAgg223
 z70:=Tryz.sizeOf223
 v70:=Tryz.zeroValue223
 t76:=Tryz.underlying233
 a76:=Tryz.isAgg233
 z76:=Tryz.sizeOf233
 v76:=Tryz.zeroValue233
 t77:=Tryz.underlying234
 a77:=Tryz.isAgg234
 z77:=Tryz.sizeOf234
 v77:=Tryz.zeroValue234 }

end Go.Proofs
