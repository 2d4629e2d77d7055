/- A group of texts: SortP, SortW, PSortSwap, PSortRot, PSortCmp, PSortIns, PSortSymL, PSortSymR, PSortSym, PSortStable -/
import Derived.Test.YtnbbhpihlcglgaaRowAll
import Derived.Test.YtnbbhpihlcglgaaLimbAll
namespace Go.Att
open Go.RowKit
section
variable {α:Type} [Inhabited α]

def gt (E:List α) (i:Nat):α:=E.getD i default
theorem gt_set {E:List α} {i:Nat} (hi:i < E.length) (c:α) (k:Nat):gt (E.set i c) k=if k=i then c else gt E k:=by
 unfold gt
 rw [List.getD_eq_getElem?_getD,List.getD_eq_getElem?_getD,List.getElem?_set]
 by_cases h:k=i
 ·subst h
  rw [if_pos rfl,if_pos hi,if_pos rfl];rfl
 ·rw [if_neg (Ne.symm h),if_neg h]
theorem gt_lt {E:List α} {i:Nat} (hi:i < E.length):gt E i=E[i]:=by
 unfold gt
 rw [List.getD_eq_getElem?_getD,List.getElem?_eq_getElem hi];rfl
def swp (E:List α) (i j:Nat):List α:=(E.set i (gt E j)).set j (gt E i)
theorem len_swp (E:List α) (i j:Nat):(swp E i j).length=E.length:=by unfold swp;rw [List.length_set,List.length_set]
theorem gt_swp {E:List α} {i j:Nat} (hi:i < E.length) (hj:j < E.length) (k:Nat):gt (swp E i j) k=if k=j then gt E i else if k=i then gt E j else gt E k:=by
 unfold swp
 rw [gt_set (by rw [List.length_set];exact hj),gt_set hi]
inductive Sw (a b:Nat) (E:List α):List α→Prop
 | refl:Sw a b E E
 | step {F:List α} (i j:Nat):Sw a b E F→a≤i→i < b→a≤j→j < b→Sw a b E (swp F i j)
theorem Sw.len {a b:Nat} {E F:List α} (h:Sw a b E F):F.length=E.length:=by
 induction h with
 | refl=>rfl
 | step i j _ _ _ _ _ ih=>rw [len_swp,ih]
theorem Sw.out {a b:Nat} {E F:List α} (h:Sw a b E F) (hb:b≤E.length) {k:Nat} (hk:k < a∨b≤k):gt F k=gt E k:=by
 induction h with
 | refl=>rfl
 | step i j h0 _ _ _ _ ih=>rw [gt_swp (by rw [h0.len];omega) (by rw [h0.len];omega),if_neg (by omega),if_neg (by omega),ih]
theorem Sw.all {a b:Nat} {E F:List α} (h:Sw a b E F) (hb:b≤E.length) {P:α→Prop} (hP:∀ k,a≤k→k < b→P (gt E k)):∀ k,a≤k→k < b→P (gt F k):=by
 induction h with
 | refl=>exact hP
 | step i j h0 _ _ _ _ ih=>
  intro k h1 h2
  rw [gt_swp (by rw [h0.len];omega) (by rw [h0.len];omega)]
  split
  ·exact ih _ (by omega) (by omega)
  ·split
   ·exact ih _ (by omega) (by omega)
   ·exact ih _ h1 h2
theorem Sw.trans {a b:Nat} {E F G:List α} (h:Sw a b E F) (k:Sw a b F G):Sw a b E G:=by
 induction k with
 | refl=>exact h
 | step i j _ h1 h2 h3 h4 ih=>exact .step i j ih h1 h2 h3 h4
theorem Sw.mono {a b a' b':Nat} {E F:List α} (h:Sw a b E F) (ha:a'≤a) (hb:b≤b'):Sw a' b' E F:=by
 induction h with
 | refl=>exact .refl
 | step i j _ h1 h2 h3 h4 ih=>exact .step i j ih (by omega) (by omega) (by omega) (by omega)
theorem Sw.one {a b:Nat} (E:List α) (i j:Nat) (h1:a≤i) (h2:i < b) (h3:a≤j) (h4:j < b):Sw a b E (swp E i j):=.step i j .refl h1 h2 h3 h4

variable (key:α→Int)
def Up (a b:Nat) (E:List α):Prop:=∀ p q,a≤p→p < q→q < b→key (gt E p)≤key (gt E q)
def Ins (a i j:Nat) (E:List α):Prop:=∀ p q,a≤p→p < q→q≤i→q≠j→key (gt E p)≤key (gt E q)
variable {key}
theorem Ins.step {a i j:Nat} {E:List α} (h:Ins key a i j E) (h1:a < j) (h2:j≤i) (h3:i < E.length) (hk:key (gt E j) < key (gt E (j - 1))):Ins key a i (j - 1) (swp E j (j - 1)):=by
 intro p q k1 k2 k3 k4
 rw [gt_swp (by omega) (by omega),gt_swp (by omega) (by omega)]
 rw [if_neg k4]
 by_cases hq:q=j
 ·subst hq
  rw [if_pos rfl]
  by_cases hp:p=q - 1
  ·rw [if_pos hp];omega
  ·rw [if_neg hp,if_neg (by omega)]
   exact h p (q - 1) k1 (by omega) (by omega) (by omega)
 ·rw [if_neg hq]
  by_cases hp:p=j - 1
  ·rw [if_pos hp]
   exact h j q (by omega) (by omega) k3 hq
  ·rw [if_neg hp]
   by_cases hp2:p=j
   ·rw [if_pos hp2]
    exact h (j - 1) q (by omega) (by omega) k3 hq
   ·rw [if_neg hp2]
    exact h p q k1 k2 k3 hq
end
section
variable {α:Type}
def shl (f:Nat→α) (a k p:Nat):α:=if p=k then f a else if a≤p∧p < k then f (p+1) else f p
def shr (f:Nat→α) (m k p:Nat):α:=if p=k then f m else if k < p∧p≤m then f (p - 1) else f p
end
section
variable {α:Type} [Inhabited α]
variable {key:α→Int}
theorem Up.le {a b:Nat} {E:List α} (h:Up key a b E) {p q:Nat} (h1:a≤p) (h2:p≤q) (h3:q < b):key (gt E p)≤key (gt E q):=by
 by_cases hpq:p=q
 ·rw [hpq];exact Int.le_refl _
 ·exact h p q h1 (by omega) h3
theorem Up.one (a:Nat) {b:Nat} (h:b≤a+1) (E:List α):Up key a b E:=fun p q h1 h2 h3=>by omega
end
open Go.RowKit

def Tm (c:List Value):Prop:=∃ (z:Int) (s:Bool) (a:Option Addr) (l p:Nat) (a':Option Addr) (l' p':Nat),c=[.int .i64 z,.bool s,.slice a l p,.slice a' l' p']
theorem Tm.len {c:List Value} (h:Tm c):c.length=4:=by obtain ⟨_,_,_,_,_,_,_,_,rfl⟩:=h;rfl
def Sl (t:TypeId) (g S:Nat) (w:World) (E:List (List Value)):Prop:=
 ∃ cur:Array Value,w.heap[g]?=some (.cells cur t (0,0))∧cur.size=S∧E.length*4≤S∧(∀ i,i < E.length→Tm (gt E i))∧∀ i j,i < E.length→j < 4→cur[i*4+j]?=(gt E i)[j]?
theorem Sl.lt {t:TypeId} {g S:Nat} {w:World} {E:List (List Value)} (h:Sl t g S w E):g < w.heap.size:=by
 obtain ⟨cur,h,-⟩:=h
 exact (Array.getElem?_eq_some_iff.1 h).1
theorem Sl.at {t:TypeId} {g S:Nat} {w:World} {E:List (List Value)} (h:Sl t g S w E) (i:Nat) (hi:i < E.length):∃ z s a l p a' l' p',gt E i=[.int .i64 z,.bool s,.slice a l p,.slice a' l' p']∧w.cell? ⟨g,i*4,none⟩=some (.int .i64 z)∧w.cell? ⟨g,i*4+1,none⟩=some (.bool s)∧w.cell? ⟨g,i*4+2,none⟩=some (.slice a l p)∧w.cell? ⟨g,i*4+3,none⟩=some (.slice a' l' p')∧
  w.frozen? ⟨g,i*4,none⟩=false∧w.frozen? ⟨g,i*4+1,none⟩=false∧w.frozen? ⟨g,i*4+2,none⟩=false∧w.frozen? ⟨g,i*4+3,none⟩=false:=by
 obtain ⟨cur,h1,h2,h3,h4,h5⟩:=h
 obtain ⟨z,s,a,l,p,a',l',p',hx⟩:=h4 i hi
 have c0:=h5 i 0 hi (by decide)
 have c1:=h5 i 1 hi (by decide)
 have c2:=h5 i 2 hi (by decide)
 have c3:=h5 i 3 hi (by decide)
 rw [hx] at c0 c1 c2 c3
 refine ⟨z,s,a,l,p,a',l',p',hx,?_,?_,?_,?_,frozen_of_row w g _ _ t h1,frozen_of_row w g _ _ t h1,frozen_of_row w g _ _ t h1,frozen_of_row w g _ _ t h1⟩
 ·rw [cell_of_row w g _ _ t (0,0) h1];exact c0
 ·rw [cell_of_row w g _ _ t (0,0) h1];exact c1
 ·rw [cell_of_row w g _ _ t (0,0) h1];exact c2
 ·rw [cell_of_row w g _ _ t (0,0) h1];exact c3
theorem Sl.tm {t:TypeId} {g S:Nat} {w:World} {E:List (List Value)} (h:Sl t g S w E) (i:Nat) (hi:i < E.length):Tm (gt E i):=by
 obtain ⟨cur,h1,h2,h3,h4,h5⟩:=h
 exact h4 i hi
def Box4 (w:World) (g o:Nat) (x0 x1 x2 x3:Value):Prop:=w.cell? ⟨g,o,none⟩=some x0∧w.cell? ⟨g,o+1,none⟩=some x1∧w.cell? ⟨g,o+2,none⟩=some x2∧w.cell? ⟨g,o+3,none⟩=some x3
theorem Box4.ext {w w':World} {g o:Nat} {x0 x1 x2 x3:Value} (h:Box4 w g o x0 x1 x2 x3) (e:Ext w w'):Box4 w' g o x0 x1 x2 x3:=⟨e.cell h.1,e.cell h.2.1,e.cell h.2.2.1,e.cell h.2.2.2⟩
def put4 (w:World) (g o:Nat) (x0 x1 x2 x3:Value):World:=(((w.setCell ⟨g,o,none⟩ x0).setCell ⟨g,o+1,none⟩ x1).setCell ⟨g,o+2,none⟩ x2).setCell ⟨g,o+3,none⟩ x3
theorem Sl.set {t:TypeId} {g S:Nat} {w:World} {E:List (List Value)} (h:Sl t g S w E) (i:Nat) (hi:i < E.length) {x0 x1 x2 x3:Value} (hT:Tm [x0,x1,x2,x3]):Sl t g S (put4 w g (i*4) x0 x1 x2 x3) (E.set i [x0,x1,x2,x3]):=by
 obtain ⟨cur,h1,h2,h3,h4,h5⟩:=h
 refine ⟨_,heap_setCell_same _ g _ _ t x3 (heap_setCell_same _ g _ _ t x2 (heap_setCell_same _ g _ _ t x1 (heap_setCell_same _ g _ _ t x0 h1))),by simp [h2],by rw [List.length_set];exact h3,fun k hk=>?_,fun k j hk hj=>?_⟩
 ·rw [List.length_set] at hk
  rw [gt_set hi]
  split
  ·exact hT
  ·exact h4 k hk
 ·rw [List.length_set] at hk
  rw [gt_set hi]
  by_cases hki:k=i
  ·subst hki
   rw [if_pos rfl]
   match j,hj with
   | 0,_=>simp [Array.getElem?_setIfInBounds];omega
   | 1,_=>simp [Array.getElem?_setIfInBounds];omega
   | 2,_=>simp [Array.getElem?_setIfInBounds];omega
   | 3,_=>simp [Array.getElem?_setIfInBounds];omega
  ·rw [if_neg hki,← h5 k j hk hj]
   rw [Array.getElem?_setIfInBounds_ne (by omega),Array.getElem?_setIfInBounds_ne (by omega),Array.getElem?_setIfInBounds_ne (by omega),Array.getElem?_setIfInBounds_ne (by omega)]
theorem Sl.drew {t:TypeId} {g S:Nat} {w:World} {E:List (List Value)} (h:Sl t g S w E):Sl t g S w.drew E:=h
theorem Sl.ext {t:TypeId} {g S:Nat} {w w':World} {E:List (List Value)} (h:Sl t g S w E) (x:Ext w w'):Sl t g S w' E:=by
 obtain ⟨cur,h1,r⟩:=h
 exact ⟨cur,by rw [x.block g (Array.getElem?_eq_some_iff.1 h1).1];exact h1,r⟩
end Go.Att

namespace Go.Proofs.Ytnbbhpihlcglgaa
open Go.RowKit Go.Att

open Go.RowKit Go.Att

end Go.Proofs.Ytnbbhpihlcglgaa

namespace Go.Att
end Go.Att
namespace Go.Proofs.Ytnbbhpihlcglgaa
open Go.RowKit Go.Att

open Go.RowKit Go.Att

open Go.RowKit Go.Att

open Go.RowKit Go.Att

open Go.RowKit Go.Att

open Go.RowKit Go.Att

end Go.Proofs.Ytnbbhpihlcglgaa
