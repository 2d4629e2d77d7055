/- A group of texts: SortP, SortW, PSortSwap, PSortRot, PSortCmp, PSortIns, PSortSymL, PSortSymR, PSortSym, PSortStable -/
import Derived.Test.YtdooldpgnjmpfaaGreatDoorSq
import Derived.Test.YtdooldpgnjmpfaaGreatDoorPartAC
import Derived.Test.YtdooldpgnjmpfaaGreatDoorPartAE
namespace Go.Att
open Go.RowKit
section
variable {α:Type} [Inhabited α]

def gt (E:List α) (i:Nat):α:=E.getD i default
theorem gt_set {E:List α} {i:Nat} (hi:i < E.length) (c:α) (k:Nat):gt (E.set i c) k=if k=i then c else gt E k:=by
 unfold gt
 rw [List.getD_eq_getElem?_getD,List.getD_eq_getElem?_getD,List.getElem?_set]
 by_cases h:k=i
 ·subst h
  rw [if_pos rfl,if_pos hi,if_pos rfl];rfl
 ·rw [if_neg (Ne.symm h),if_neg h]
theorem gt_lt {E:List α} {i:Nat} (hi:i < E.length):gt E i=E[i]:=by
 unfold gt
 rw [List.getD_eq_getElem?_getD,List.getElem?_eq_getElem hi];rfl
def swp (E:List α) (i j:Nat):List α:=(E.set i (gt E j)).set j (gt E i)
theorem len_swp (E:List α) (i j:Nat):(swp E i j).length=E.length:=by unfold swp;rw [List.length_set,List.length_set]
theorem gt_swp {E:List α} {i j:Nat} (hi:i < E.length) (hj:j < E.length) (k:Nat):gt (swp E i j) k=if k=j then gt E i else if k=i then gt E j else gt E k:=by
 unfold swp
 rw [gt_set (by rw [List.length_set];exact hj),gt_set hi]
theorem swp_perm {E:List α} {i j:Nat} (hi:i < E.length) (hj:j < E.length):(swp E i j).Perm E:=by
 unfold swp
 rw [gt_lt hi,gt_lt hj]
 exact List.set_set_perm hi hj
inductive Sw (a b:Nat) (E:List α):List α→Prop
 | refl:Sw a b E E
 | step {F:List α} (i j:Nat):Sw a b E F→a≤i→i < b→a≤j→j < b→Sw a b E (swp F i j)
theorem Sw.len {a b:Nat} {E F:List α} (h:Sw a b E F):F.length=E.length:=by
 induction h with
 | refl=>rfl
 | step i j _ _ _ _ _ ih=>rw [len_swp,ih]
theorem Sw.perm {a b:Nat} {E F:List α} (h:Sw a b E F) (hb:b≤E.length):F.Perm E:=by
 induction h with
 | refl=>exact List.Perm.refl _
 | step i j h0 _ _ _ _ ih=>exact (swp_perm (by rw [h0.len];omega) (by rw [h0.len];omega)).trans ih
theorem Sw.out {a b:Nat} {E F:List α} (h:Sw a b E F) (hb:b≤E.length) {k:Nat} (hk:k < a∨b≤k):gt F k=gt E k:=by
 induction h with
 | refl=>rfl
 | step i j h0 _ _ _ _ ih=>rw [gt_swp (by rw [h0.len];omega) (by rw [h0.len];omega),if_neg (by omega),if_neg (by omega),ih]
theorem Sw.all {a b:Nat} {E F:List α} (h:Sw a b E F) (hb:b≤E.length) {P:α→Prop} (hP:∀ k,a≤k→k < b→P (gt E k)):∀ k,a≤k→k < b→P (gt F k):=by
 induction h with
 | refl=>exact hP
 | step i j h0 _ _ _ _ ih=>
  intro k h1 h2
  rw [gt_swp (by rw [h0.len];omega) (by rw [h0.len];omega)]
  split
  ·exact ih _ (by omega) (by omega)
  ·split
   ·exact ih _ (by omega) (by omega)
   ·exact ih _ h1 h2
theorem Sw.trans {a b:Nat} {E F G:List α} (h:Sw a b E F) (k:Sw a b F G):Sw a b E G:=by
 induction k with
 | refl=>exact h
 | step i j _ h1 h2 h3 h4 ih=>exact .step i j ih h1 h2 h3 h4
theorem Sw.mono {a b a' b':Nat} {E F:List α} (h:Sw a b E F) (ha:a'≤a) (hb:b≤b'):Sw a' b' E F:=by
 induction h with
 | refl=>exact .refl
 | step i j _ h1 h2 h3 h4 ih=>exact .step i j ih (by omega) (by omega) (by omega) (by omega)
theorem Sw.one {a b:Nat} (E:List α) (i j:Nat) (h1:a≤i) (h2:i < b) (h3:a≤j) (h4:j < b):Sw a b E (swp E i j):=.step i j .refl h1 h2 h3 h4

variable (key:α→Int)
def Up (a b:Nat) (E:List α):Prop:=∀ p q,a≤p→p < q→q < b→key (gt E p)≤key (gt E q)
def Ins (a i j:Nat) (E:List α):Prop:=∀ p q,a≤p→p < q→q≤i→q≠j→key (gt E p)≤key (gt E q)
variable {key}
theorem Up.ins {a i:Nat} {E:List α} (h:Up key a i E):Ins key a i i E:=fun p q h1 h2 h3 h4=>h p q h1 h2 (by omega)
theorem Ins.step {a i j:Nat} {E:List α} (h:Ins key a i j E) (h1:a < j) (h2:j≤i) (h3:i < E.length) (hk:key (gt E j) < key (gt E (j - 1))):Ins key a i (j - 1) (swp E j (j - 1)):=by
 intro p q k1 k2 k3 k4
 rw [gt_swp (by omega) (by omega),gt_swp (by omega) (by omega)]
 rw [if_neg k4]
 by_cases hq:q=j
 ·subst hq
  rw [if_pos rfl]
  by_cases hp:p=q - 1
  ·rw [if_pos hp];omega
  ·rw [if_neg hp,if_neg (by omega)]
   exact h p (q - 1) k1 (by omega) (by omega) (by omega)
 ·rw [if_neg hq]
  by_cases hp:p=j - 1
  ·rw [if_pos hp]
   exact h j q (by omega) (by omega) k3 hq
  ·rw [if_neg hp]
   by_cases hp2:p=j
   ·rw [if_pos hp2]
    exact h (j - 1) q (by omega) (by omega) k3 hq
   ·rw [if_neg hp2]
    exact h p q k1 k2 k3 hq
theorem Ins.done {a i j:Nat} {E:List α} (h:Ins key a i j E) (h1:a≤j) (hj:j=a∨key (gt E (j - 1))≤key (gt E j)):Up key a (i+1) E:=by
 intro p q k1 k2 k3
 by_cases hq:q=j
 ·subst hq
  rcases hj with hj | hj
  ·omega
  ·by_cases hp:p=q - 1
   ·subst hp;exact hj
   ·exact Int.le_trans (h p (q - 1) k1 (by omega) (by omega) (by omega)) hj
 ·exact h p q k1 k2 (by omega) hq

end
section
variable {α:Type}
def rot (f:Nat→α) (a m b p:Nat):α:=if a≤p∧p < a+(b - m) then f (p+(m - a)) else if a+(b - m)≤p∧p < b then f (p - (b - m)) else f p
def blk (f:Nat→α) (a b n p:Nat):α:=if a≤p∧p < a+n then f (p+(b - a)) else if b≤p∧p < b+n then f (p - (b - a)) else f p
theorem blk_zero (f:Nat→α) (a b:Nat) (p:Nat):blk f a b 0 p=f p:=by unfold blk;rw [if_neg (by omega),if_neg (by omega)]
theorem rot_self (f:Nat→α) (m i:Nat) (h:i≤m) (p:Nat):rot f (m - i) m (m+i) p=blk f (m - i) m i p:=by
 unfold rot blk
 repeat' split
 all_goals first | rfl | omega | (congr 1;omega)
theorem rot_none {f:Nat→α} {a m b:Nat} (h:a=m∨b=m) (hab:a≤m) (hmb:m≤b) (p:Nat):rot f a m b p=f p:=by
 unfold rot
 repeat' split
 all_goals first | rfl | omega | (congr 1;omega)
theorem rot_more {f g:Nat→α} {m i j:Nat} (hm:i≤m) (h:j < i) (hg:∀ p,g p=blk f (m - i) m j p) (p:Nat):rot g (m - (i - j)) m (m+j) p=rot f (m - i) m (m+j) p:=by
 unfold rot
 simp only [hg]
 unfold blk
 repeat' split
 all_goals first | rfl | omega | (congr 1;omega)
theorem rot_less {f g:Nat→α} {m i j:Nat} (hm:i≤m) (h:i < j) (hg:∀ p,g p=blk f (m - i) (m+j - i) i p) (p:Nat):rot g (m - i) m (m+(j - i)) p=rot f (m - i) m (m+j) p:=by
 unfold rot
 simp only [hg]
 unfold blk
 repeat' split
 all_goals first | rfl | omega | (congr 1;omega)
def shl (f:Nat→α) (a k p:Nat):α:=if p=k then f a else if a≤p∧p < k then f (p+1) else f p
def shr (f:Nat→α) (m k p:Nat):α:=if p=k then f m else if k < p∧p≤m then f (p - 1) else f p
theorem shl_self (f:Nat→α) (a p:Nat):shl f a a p=f p:=by
 unfold shl
 repeat' split
 all_goals first | rfl | omega | (congr 1;omega)
theorem shr_self (f:Nat→α) (a p:Nat):shr f a a p=f p:=by
 unfold shr
 repeat' split
 all_goals first | rfl | omega | (congr 1;omega)
end
section
variable {α:Type} [Inhabited α]
theorem blk_step {E F:List α} {a b n:Nat} (h:a+n < b) (hl:b+n < F.length) (hF:∀ p,gt F p=blk (gt E) a b n p) (p:Nat):gt (swp F (a+n) (b+n)) p=blk (gt E) a b (n+1) p:=by
 rw [gt_swp (by omega) hl,hF,hF,hF]
 unfold blk
 repeat' split
 all_goals first | rfl | omega | (congr 1;omega)
theorem shl_stp {E F:List α} {a k:Nat} (h:a≤k) (hl:k+1 < F.length) (hF:∀ p,gt F p=shl (gt E) a k p) (p:Nat):gt (swp F k (k+1)) p=shl (gt E) a (k+1) p:=by
 rw [gt_swp (by omega) hl,hF,hF,hF]
 unfold shl
 repeat' split
 all_goals first | rfl | omega | (congr 1;omega)
theorem shr_stp {E F:List α} {m k:Nat} (h:k≤m) (h0:0 < k) (hl:m < F.length) (hF:∀ p,gt F p=shr (gt E) m k p) (p:Nat):gt (swp F k (k - 1)) p=shr (gt E) m (k - 1) p:=by
 rw [gt_swp (by omega) (by omega),hF,hF,hF]
 unfold shr
 repeat' split
 all_goals first | rfl | omega | (congr 1;omega)
variable {key:α→Int}
theorem shl_up {E F:List α} {a b i:Nat} (hu:Up key (a+1) b E) (h1:a+1≤i) (h2:i≤b) (hlo:∀ q,a+1≤q→q < i→key (gt E q) < key (gt E a)) (hhi:∀ q,i≤q→q < b→key (gt E a)≤key (gt E q)) (hF:∀ p,gt F p=shl (gt E) a (i - 1) p):Up key a b F:=by
 intro p q k1 k2 k3
 rw [hF,hF]
 unfold shl
 by_cases hp:p=i - 1
 ·rw [if_pos hp,if_neg (by omega),if_neg (by omega)]
  exact hhi q (by omega) k3
 ·rw [if_neg hp]
  by_cases hq:q=i - 1
  ·rw [if_pos hq,if_pos (by omega)]
   exact Int.le_of_lt (hlo _ (by omega) (by omega))
  ·rw [if_neg hq]
   by_cases hp2:a≤p∧p < i - 1
   ·rw [if_pos hp2]
    by_cases hq2:a≤q∧q < i - 1
    ·rw [if_pos hq2]
     exact hu _ _ (by omega) (by omega) (by omega)
    ·rw [if_neg hq2]
     exact hu _ _ (by omega) (by omega) k3
   ·rw [if_neg hp2,if_neg (by omega)]
    exact hu _ _ (by omega) k2 k3
theorem shr_up {E F:List α} {a m i:Nat} (hu:Up key a m E) (h1:a≤i) (h2:i≤m) (hlo:∀ q,a≤q→q < i→key (gt E q)≤key (gt E m)) (hhi:∀ q,i≤q→q < m→key (gt E m) < key (gt E q)) (hF:∀ p,gt F p=shr (gt E) m i p):Up key a (m+1) F:=by
 intro p q k1 k2 k3
 rw [hF,hF]
 unfold shr
 by_cases hp:p=i
 ·rw [if_pos hp,if_neg (by omega),if_pos (by omega)]
  exact Int.le_of_lt (hhi _ (by omega) (by omega))
 ·rw [if_neg hp]
  by_cases hq:q=i
  ·rw [if_pos hq,if_neg (by omega)]
   exact hlo _ (by omega) (by omega)
  ·rw [if_neg hq]
   by_cases hp2:i < p∧p≤m
   ·rw [if_pos hp2,if_pos (by omega)]
    exact hu _ _ (by omega) (by omega) (by omega)
   ·rw [if_neg hp2]
    by_cases hq2:i < q∧q≤m
    ·rw [if_pos hq2]
     by_cases h:p=q - 1
     ·omega
     ·exact hu _ _ (by omega) (by omega) (by omega)
    ·rw [if_neg hq2]
     exact hu _ _ (by omega) k2 (by omega)
theorem Up.le {a b:Nat} {E:List α} (h:Up key a b E) {p q:Nat} (h1:a≤p) (h2:p≤q) (h3:q < b):key (gt E p)≤key (gt E q):=by
 by_cases hpq:p=q
 ·rw [hpq];exact Int.le_refl _
 ·exact h p q h1 (by omega) h3
theorem rot_parts {E F:List α} {a m b s e d:Nat} (hL:Up key a m E) (hR:Up key m b E) (h1:a≤s) (h2:s≤m) (h3:m≤e) (h4:e≤b) (hd:d+m=e+s) (hF:∀ p,gt F p=rot (gt E) s m e p)
  (hlo:s=a∨e=b∨key (gt E (s - 1))≤key (gt E e)) (hhi:s=m∨e=m∨key (gt E (e - 1)) < key (gt E s)):
  Up key a s F∧Up key s d F∧Up key d e F∧Up key e b F∧∀ p q,a≤p→p < d→d≤q→q < b→key (gt F p)≤key (gt F q):=by
 have f1:∀ p,a≤p→p < s→gt F p=gt E p:=fun p _ k=>by rw [hF];unfold rot;rw [if_neg (by omega),if_neg (by omega)]
 have f2:∀ p,s≤p→p < d→gt F p=gt E (p+(m - s)):=fun p _ k=>by rw [hF];unfold rot;rw [if_pos (by omega)]
 have f3:∀ p,d≤p→p < e→gt F p=gt E (p - (e - m)):=fun p _ k=>by rw [hF];unfold rot;rw [if_neg (by omega),if_pos (by omega)]
 have f4:∀ p,e≤p→p < b→gt F p=gt E p:=fun p _ k=>by rw [hF];unfold rot;rw [if_neg (by omega),if_neg (by omega)]
 refine ⟨fun p q k1 k2 k3=>?_,fun p q k1 k2 k3=>?_,fun p q k1 k2 k3=>?_,fun p q k1 k2 k3=>?_,fun p q k1 k2 k3 k4=>?_⟩
 ·rw [f1 p k1 (by omega),f1 q (by omega) k3];exact hL _ _ k1 k2 (by omega)
 ·rw [f2 p k1 (by omega),f2 q (by omega) k3];exact hR _ _ (by omega) (by omega) (by omega)
 ·rw [f3 p k1 (by omega),f3 q (by omega) k3];exact hL _ _ (by omega) (by omega) (by omega)
 ·rw [f4 p k1 (by omega),f4 q (by omega) k3];exact hR _ _ (by omega) k2 k3
 ·by_cases hp:p < s
  ·rw [f1 p k1 hp]
   by_cases hq:q < e
   ·rw [f3 q k3 hq];exact hL.le k1 (by omega) (by omega)
   ·rw [f4 q (by omega) k4]
    have h:=(hlo.resolve_left (by omega)).resolve_left (by omega)
    exact Int.le_trans (hL.le k1 (show p≤s - 1 by omega) (by omega)) (Int.le_trans h (hR.le (by omega) (by omega) k4))
  ·rw [f2 p (by omega) k2]
   by_cases hq:q < e
   ·rw [f3 q k3 hq]
    have h:=(hhi.resolve_left (by omega)).resolve_left (by omega)
    exact Int.le_trans (hR.le (by omega) (show p+(m - s)≤e - 1 by omega) (by omega)) (Int.le_trans (Int.le_of_lt h) (hL.le (by omega) (by omega) (by omega)))
   ·rw [f4 q (by omega) k4];exact hR.le (by omega) (by omega) k4
theorem merge_up {E F G:List α} {a d b:Nat} (hb:b≤E.length) (_:a≤d) (_:d≤b) (hF:Sw a d E F) (uF:Up key a d F) (hG:Sw d b F G) (uG:Up key d b G) (hx:∀ p q,a≤p→p < d→d≤q→q < b→key (gt E p)≤key (gt E q)):Up key a b G:=by
 have hFl:=hF.len
 have x1:∀ p q,a≤p→p < d→d≤q→q < b→key (gt F p)≤key (gt F q):=fun p q k1 k2 k3 k4=>by
  rw [hF.out (by omega) (k:=q) (by omega)]
  exact hF.all (by omega) (P:=fun x=>∀ q,d≤q→q < b→key x≤key (gt E q)) (fun k h1 h2 q h3 h4=>hx k q h1 h2 h3 h4) p k1 k2 q k3 k4
 have x2:∀ p q,a≤p→p < d→d≤q→q < b→key (gt G p)≤key (gt G q):=fun p q k1 k2 k3 k4=>by
  rw [hG.out (by omega) (k:=p) (by omega)]
  exact hG.all (by omega) (P:=fun y=>∀ p,a≤p→p < d→key (gt F p)≤key y) (fun k h1 h2 p h3 h4=>x1 p k h3 h4 h1 h2) q k3 k4 p k1 k2
 intro p q k1 k2 k3
 by_cases hq:q < d
 ·rw [hG.out (by omega) (k:=p) (by omega),hG.out (by omega) (k:=q) (by omega)]
  exact uF p q k1 k2 hq
 ·by_cases hp:p < d
  ·exact x2 p q k1 hp (by omega) k3
  ·exact uG p q (by omega) k2 k3
theorem Up.one (a:Nat) {b:Nat} (h:b≤a+1) (E:List α):Up key a b E:=fun p q h1 h2 h3=>by omega
theorem Up.sub {a b a' b':Nat} {E:List α} (h:Up key a b E) (h1:a≤a') (h2:b'≤b):Up key a' b' E:=fun p q k1 k2 k3=>h p q (by omega) k2 (by omega)
theorem Up.keep {a b c d:Nat} {E F:List α} (h:Up key a b E) (hs:Sw c d E F) (hd:d≤E.length) (hx:b≤c∨d≤a):Up key a b F:=fun p q k1 k2 k3=>by
 rw [hs.out hd (by omega),hs.out hd (by omega)]
 exact h p q k1 k2 k3
end
open Go.RowKit

def Tm (c:List Value):Prop:=∃ (z:Int) (s:Bool) (a:Option Addr) (l p:Nat) (a':Option Addr) (l' p':Nat),c=[.int .i64 z,.bool s,.slice a l p,.slice a' l' p']
theorem Tm.len {c:List Value} (h:Tm c):c.length=4:=by obtain ⟨_,_,_,_,_,_,_,_,rfl⟩:=h;rfl
def Sl (t:TypeId) (g S:Nat) (w:World) (E:List (List Value)):Prop:=
 ∃ cur:Array Value,w.heap[g]?=some (.cells cur t (0,0))∧cur.size=S∧E.length*4≤S∧(∀ i,i < E.length→Tm (gt E i))∧∀ i j,i < E.length→j < 4→cur[i*4+j]?=(gt E i)[j]?
theorem Sl.lt {t:TypeId} {g S:Nat} {w:World} {E:List (List Value)} (h:Sl t g S w E):g < w.heap.size:=by
 obtain ⟨cur,h,-⟩:=h
 exact (Array.getElem?_eq_some_iff.1 h).1
theorem Sl.at {t:TypeId} {g S:Nat} {w:World} {E:List (List Value)} (h:Sl t g S w E) (i:Nat) (hi:i < E.length):∃ z s a l p a' l' p',gt E i=[.int .i64 z,.bool s,.slice a l p,.slice a' l' p']∧w.cell? ⟨g,i*4,none⟩=some (.int .i64 z)∧w.cell? ⟨g,i*4+1,none⟩=some (.bool s)∧w.cell? ⟨g,i*4+2,none⟩=some (.slice a l p)∧w.cell? ⟨g,i*4+3,none⟩=some (.slice a' l' p')∧
  w.frozen? ⟨g,i*4,none⟩=false∧w.frozen? ⟨g,i*4+1,none⟩=false∧w.frozen? ⟨g,i*4+2,none⟩=false∧w.frozen? ⟨g,i*4+3,none⟩=false:=by
 obtain ⟨cur,h1,h2,h3,h4,h5⟩:=h
 obtain ⟨z,s,a,l,p,a',l',p',hx⟩:=h4 i hi
 have c0:=h5 i 0 hi (by decide)
 have c1:=h5 i 1 hi (by decide)
 have c2:=h5 i 2 hi (by decide)
 have c3:=h5 i 3 hi (by decide)
 rw [hx] at c0 c1 c2 c3
 refine ⟨z,s,a,l,p,a',l',p',hx,?_,?_,?_,?_,frozen_of_row w g _ _ t h1,frozen_of_row w g _ _ t h1,frozen_of_row w g _ _ t h1,frozen_of_row w g _ _ t h1⟩
 ·rw [cell_of_row w g _ _ t (0,0) h1];exact c0
 ·rw [cell_of_row w g _ _ t (0,0) h1];exact c1
 ·rw [cell_of_row w g _ _ t (0,0) h1];exact c2
 ·rw [cell_of_row w g _ _ t (0,0) h1];exact c3
theorem Sl.tm {t:TypeId} {g S:Nat} {w:World} {E:List (List Value)} (h:Sl t g S w E) (i:Nat) (hi:i < E.length):Tm (gt E i):=by
 obtain ⟨cur,h1,h2,h3,h4,h5⟩:=h
 exact h4 i hi
def Box4 (w:World) (g o:Nat) (x0 x1 x2 x3:Value):Prop:=w.cell? ⟨g,o,none⟩=some x0∧w.cell? ⟨g,o+1,none⟩=some x1∧w.cell? ⟨g,o+2,none⟩=some x2∧w.cell? ⟨g,o+3,none⟩=some x3
theorem Box4.ext {w w':World} {g o:Nat} {x0 x1 x2 x3:Value} (h:Box4 w g o x0 x1 x2 x3) (e:Ext w w'):Box4 w' g o x0 x1 x2 x3:=⟨e.cell h.1,e.cell h.2.1,e.cell h.2.2.1,e.cell h.2.2.2⟩
def put4 (w:World) (g o:Nat) (x0 x1 x2 x3:Value):World:=(((w.setCell ⟨g,o,none⟩ x0).setCell ⟨g,o+1,none⟩ x1).setCell ⟨g,o+2,none⟩ x2).setCell ⟨g,o+3,none⟩ x3
theorem put4_below {B g:Nat} {a w:World} (h:Below B a w) (hc:B≤g) (o:Nat) (x0 x1 x2 x3:Value):Below B a (put4 w g o x0 x1 x2 x3):=(((h.setCell hc x0).setCell hc x1).setCell hc x2).setCell hc x3
theorem Sl.set {t:TypeId} {g S:Nat} {w:World} {E:List (List Value)} (h:Sl t g S w E) (i:Nat) (hi:i < E.length) {x0 x1 x2 x3:Value} (hT:Tm [x0,x1,x2,x3]):Sl t g S (put4 w g (i*4) x0 x1 x2 x3) (E.set i [x0,x1,x2,x3]):=by
 obtain ⟨cur,h1,h2,h3,h4,h5⟩:=h
 refine ⟨_,heap_setCell_same _ g _ _ t x3 (heap_setCell_same _ g _ _ t x2 (heap_setCell_same _ g _ _ t x1 (heap_setCell_same _ g _ _ t x0 h1))),by simp [h2],by rw [List.length_set];exact h3,fun k hk=>?_,fun k j hk hj=>?_⟩
 ·rw [List.length_set] at hk
  rw [gt_set hi]
  split
  ·exact hT
  ·exact h4 k hk
 ·rw [List.length_set] at hk
  rw [gt_set hi]
  by_cases hki:k=i
  ·subst hki
   rw [if_pos rfl]
   match j,hj with
   | 0,_=>simp [Array.getElem?_setIfInBounds];omega
   | 1,_=>simp [Array.getElem?_setIfInBounds];omega
   | 2,_=>simp [Array.getElem?_setIfInBounds];omega
   | 3,_=>simp [Array.getElem?_setIfInBounds];omega
  ·rw [if_neg hki,← h5 k j hk hj]
   rw [Array.getElem?_setIfInBounds_ne (by omega),Array.getElem?_setIfInBounds_ne (by omega),Array.getElem?_setIfInBounds_ne (by omega),Array.getElem?_setIfInBounds_ne (by omega)]
theorem Sl.drew {t:TypeId} {g S:Nat} {w:World} {E:List (List Value)} (h:Sl t g S w E):Sl t g S w.drew E:=h
theorem Sl.ext {t:TypeId} {g S:Nat} {w w':World} {E:List (List Value)} (h:Sl t g S w E) (x:Ext w w'):Sl t g S w' E:=by
 obtain ⟨cur,h1,r⟩:=h
 exact ⟨cur,by rw [x.block g (Array.getElem?_eq_some_iff.1 h1).1];exact h1,r⟩
theorem Sl.swap {t:TypeId} {g S:Nat} {w:World} {E:List (List Value)} (h:Sl t g S w E) {i j:Nat} (hi:i < E.length) (hj:j < E.length) {x0 x1 x2 x3 y0 y1 y2 y3:Value} (hx:gt E i=[x0,x1,x2,x3]) (hy:gt E j=[y0,y1,y2,y3]):
  Sl t g S (put4 (put4 w g (i*4) y0 y1 y2 y3) g (j*4) x0 x1 x2 x3) (swp E i j):=by
 have tx:=h.tm i hi
 have ty:=h.tm j hj
 rw [hx] at tx
 rw [hy] at ty
 unfold swp
 rw [hx,hy]
 exact (h.set i hi ty).set j (by rw [List.length_set];exact hj) tx
def GivesB (B:Nat) (w:World) (Q:World→Prop):Ending→World→Prop:=fun e w'=>e=.returned (.tuple #[])∧Below B w w'∧Q w'
end Go.Att

namespace Go.Proofs.YtdooldpgnjmpfaaGreatDoor
open Go.RowKit Go.Att

set_option linter.unusedSimpArgs false in
set_option maxHeartbeats 4000000 in
theorem swapr_any {w:World} {g S cap a b n:Nat} {E:List (List Value)} {F:Value} (hS:Sl 90 g S w E) (hab:a+n≤b) (hb:b+n≤E.length) (hl:E.length≤100000):
  Calls Tryz.prog 163 #[.slice (some ⟨g,0,none⟩) E.length cap,.int .i64 a,.int .i64 b,.int .i64 n,F] w (GivesB g w fun w'=>∃ E',Sw a (b+n) E E'∧Sl 90 g S w' E'∧∀ p,gt E' p=blk (gt E) a b n p):=by
 refine via fun R hR=>?_
 go_enter Tryz.func163,Tryz.ntmps163
 go_wp2_with fail
 go_loopw [10] (fun i wr=>∃ (k:Nat) (E1:List (List Value)),i=.int .i64 k∧k≤n∧Below g w wr∧Hid (Sw a (b+n) E E1)∧Hid (Sl 90 g S wr E1)∧Hid (∀ p,gt E1 p=blk (gt E) a b k p)) (fun i _=>n - (intOf i).toNat)
 case atStart=>exact ⟨0,E,rfl,Nat.zero_le _,Below.refl _ _,.refl,hS,fun p=>(blk_zero _ _ _ p).symm⟩
 case round=>
  obtain ⟨k,E1,rfl,hk,hx,hW,hL,hB⟩:=hrel
  obtain ⟨w9,rfl⟩:∃ w0:World,w0=w:=⟨_,rfl⟩
  obtain ⟨w,rfl⟩:∃ w0:World,w0=wr:=⟨_,rfl⟩
  by_cases hkn:k=n
  ·subst hkn
   have hlt:decide ((k:Int) < (k:Int))=false:=decide_eq_false (by omega)
   go_wp2_with fail
   go_end0
   exact hR.out _ _ ⟨rfl,hx,E1,hW.out,hL.out,hB.out⟩
  ·have hlt:decide ((k:Int) < (n:Int))=true:=decide_eq_true (by omega)
   have hlen:=hW.out.len
   obtain ⟨i,hi⟩:∃ i,a+k=i:=⟨_,rfl⟩
   obtain ⟨j,hj⟩:∃ j,b+k=j:=⟨_,rfl⟩
   have hI1:IntKind.i64.wrap ((a:Int)+(k:Int))=(i:Int):=by rw [IntKind.wrap_i64];omega
   have hI2:(0:Int)≤(i:Int)∧(i:Int) < (E.length:Int):=⟨by omega,by omega⟩
   have hJ1:IntKind.i64.wrap ((b:Int)+(k:Int))=(j:Int):=by rw [IntKind.wrap_i64];omega
   have hJ2:(0:Int)≤(j:Int)∧(j:Int) < (E.length:Int):=⟨by omega,by omega⟩
   have hIt:((i:Nat):Int).toNat=i:=Int.toNat_natCast i
   have hJt:((j:Nat):Int).toNat=j:=Int.toNat_natCast j
   have hi1:i < E1.length:=by omega
   have hj1:j < E1.length:=by omega
   obtain ⟨x0,s1,a1,l1,p1,a2,l2,p2,hX,u0,u1,u2,u3,f0,f1,f2,f3⟩:=hL.out.at i hi1
   obtain ⟨y0,s3,a3,l3,p3,a4,l4,p4,hY,v0,v1,v2,v3,g0,g1,g2,g3⟩:=hL.out.at j hj1
   go_wp2_with fail
   have b1:=drew_ext w
   refine wp_region_noPanic ?_
   refine wp_region_held_drew (S:=fun w'=>True) (by kernel_rfl) (trivial) (fun hHeld=>?_)
   refine tkH 0 hHeld ?_
   simp only [jP,jA,jB,jC,jD,jE,jF]
   refine tkH 1 hHeld ?_
   simp only [jP,jA,jB,jC,jD,jE,jF]
   refine tkH 2 hHeld ?_
   simp only [jP,jA,jB,jC,jD,jE,jF]
   refine tkH 3 hHeld ?_
   simp only [jP,jA,jB,jC,jD,jE,jF]
   refine tkH 4 hHeld ?_
   simp only [jP,jA,jB,jC,jD,jE,jF]
   refine tkH 5 hHeld ?_
   simp only [jP,jA,jB,jC,jD,jE,jF]
   refine tkH 6 hHeld ?_
   simp only [jP,jA,jB,jC,jD,jE,jF]
   refine tkH 7 hHeld ?_
   simp only [jP,jA,jB,jC,jD,jE,jF]
   refine tkH 8 hHeld ?_
   simp only [jP,jA,jB,jC,jD,jE,jF]
   refine tkH 9 hHeld ?_
   simp only [jP,jA,jB,jC,jD,jE,jF]
   refine tkH 10 hHeld ?_
   simp only [jP,jA,jB,jC,jD,jE,jF]
   refine tkH 11 hHeld ?_
   simp only [jP,jA,jB,jC,jD,jE,jF]
   refine tkH 12 hHeld ?_
   simp only [jP,jA,jB,jC,jD,jE,jF]
   refine tkH 14 hHeld ?_
   simp only [jP,jA,jB,jC,jD,jE,jF]
   refine tkH 15 hHeld ?_
   simp only [jP,jA,jB,jC,jD,jE,jF]
   refine tkH 16 hHeld ?_
   simp only [jP,jA,jB,jC,jD,jE,jF]
   refine tkH 17 hHeld ?_
   simp only [jP,jA,jB,jC,jD,jE,jF]
   refine tkH 18 hHeld ?_
   simp only [jP,jA,jB,jC,jD,jE,jF]
   refine wpAnyH_ready (rs:=[13,19]) (by kernel_rfl) (by simp) ?_
   refine AllReadyH.cons (o:=_) rfl (fun K hK=>?_) (AllReadyH.cons (o:=_) rfl (fun K hK=>?_) AllReadyH.nil)
   ·skip
    go_simp
    refine hK.out _ _ (trivial) (fun hHeld=>?_)
    clear hK K
    try simp only [jP,jA,jB,jC,jD,jE,jF]
    refine rdH 19 (by kernel_rfl) rfl (fun K hK=>?_)
    go_simp
    refine hK.out _ _ (trivial) (fun hHeld=>?_)
    clear hK K
    try simp only [jP,jA,jB,jC,jD,jE,jF]
    refine tkH 20 hHeld ?_
    simp only [jP,jA,jB,jC,jD,jE,jF]
    refine rdH 21 (by kernel_rfl) rfl (fun K hK=>?_)
    go_simp
    refine hK.out _ _ (trivial) (fun hHeld=>?_)
    clear hK K
    try simp only [jP,jA,jB,jC,jD,jE,jF]
    obtain ⟨W1,hW1,hB1,hL1⟩:∃ W1,W1=(((w.setCell ⟨g,i*4,none⟩ (.int .i64 y0)).setCell ⟨g,i*4+1,none⟩ (.bool s3)).setCell ⟨g,i*4+2,none⟩ (.slice a3 l3 p3)).setCell ⟨g,i*4+3,none⟩ (.slice a4 l4 p4)∧Below g w9 W1∧Sl 90 g S W1 (E1.set i [.int .i64 y0,.bool s3,.slice a3 l3 p3,.slice a4 l4 p4]):=⟨_,rfl,put4_below hx (Nat.le_refl _) _ _ _ _ _,hL.out.set i hi1 ⟨_,_,_,_,_,_,_,_,rfl⟩⟩
    rw [← hW1]
    clear hW1 f0 f1 f2 f3 g0 g1 g2 g3
    have hj2:j < (E1.set i [.int .i64 y0,.bool s3,.slice a3 l3 p3,.slice a4 l4 p4]).length:=by rw [List.length_set];exact hj1
    obtain ⟨_,_,_,_,_,_,_,_,-,v0,v1,v2,v3,g0,g1,g2,g3⟩:=hL1.at j hj2
    refine tkH 22 hHeld ?_
    simp only [jP,jA,jB,jC,jD,jE,jF]
    refine rdH 23 (by kernel_rfl) rfl (fun K hK=>?_)
    go_simp
    refine hK.out _ _ (trivial) (fun hHeld=>?_)
    clear hK K
    try simp only [jP,jA,jB,jC,jD,jE,jF]
    refine wpAnyH_done (by kernel_rfl) ?_ _
    refine NoPanic.normal ?_
    have hL2:Hid (Sl 90 g S (put4 W1 g (j*4) (.int .i64 x0) (.bool s1) (.slice a1 l1 p1) (.slice a2 l2 p2)) (swp E1 i j)):=by
     have h:=hL1.set j hj2 (x0:=.int .i64 x0) (x1:=.bool s1) (x2:=.slice a1 l1 p1) (x3:=.slice a2 l2 p2) ⟨_,_,_,_,_,_,_,_,rfl⟩
     show Sl _ _ _ _ _
     unfold swp
     rw [hX,hY]
     exact h
    have hB2:=put4_below hB1 (Nat.le_refl g) (j*4) (.int .i64 x0) (.bool s1) (.slice a1 l1 p1) (.slice a2 l2 p2)
    clear v0 v1 v2 v3 g0 g1 g2 g3
    go_wp2_with fail
    go_roundw
    case rel=>exact ⟨k+1,swp E1 i j,by go_num,by omega,Below.drew hB2,.step i j hW.out (by omega) (by omega) (by omega) (by omega),hL2,fun p=>by rw [← hi,← hj];exact blk_step (by omega) (by omega) hB.out p⟩
    case measure=>simp [intOf] <;> omega
   ·skip
    go_simp
    refine hK.out _ _ (trivial) (fun hHeld=>?_)
    clear hK K
    try simp only [jP,jA,jB,jC,jD,jE,jF]
    refine rdH 13 (by kernel_rfl) rfl (fun K hK=>?_)
    go_simp
    refine hK.out _ _ (trivial) (fun hHeld=>?_)
    clear hK K
    try simp only [jP,jA,jB,jC,jD,jE,jF]
    refine tkH 20 hHeld ?_
    simp only [jP,jA,jB,jC,jD,jE,jF]
    refine rdH 21 (by kernel_rfl) rfl (fun K hK=>?_)
    go_simp
    refine hK.out _ _ (trivial) (fun hHeld=>?_)
    clear hK K
    try simp only [jP,jA,jB,jC,jD,jE,jF]
    obtain ⟨W1,hW1,hB1,hL1⟩:∃ W1,W1=(((w.setCell ⟨g,i*4,none⟩ (.int .i64 y0)).setCell ⟨g,i*4+1,none⟩ (.bool s3)).setCell ⟨g,i*4+2,none⟩ (.slice a3 l3 p3)).setCell ⟨g,i*4+3,none⟩ (.slice a4 l4 p4)∧Below g w9 W1∧Sl 90 g S W1 (E1.set i [.int .i64 y0,.bool s3,.slice a3 l3 p3,.slice a4 l4 p4]):=⟨_,rfl,put4_below hx (Nat.le_refl _) _ _ _ _ _,hL.out.set i hi1 ⟨_,_,_,_,_,_,_,_,rfl⟩⟩
    rw [← hW1]
    clear hW1 f0 f1 f2 f3 g0 g1 g2 g3
    have hj2:j < (E1.set i [.int .i64 y0,.bool s3,.slice a3 l3 p3,.slice a4 l4 p4]).length:=by rw [List.length_set];exact hj1
    obtain ⟨_,_,_,_,_,_,_,_,-,v0,v1,v2,v3,g0,g1,g2,g3⟩:=hL1.at j hj2
    refine tkH 22 hHeld ?_
    simp only [jP,jA,jB,jC,jD,jE,jF]
    refine rdH 23 (by kernel_rfl) rfl (fun K hK=>?_)
    go_simp
    refine hK.out _ _ (trivial) (fun hHeld=>?_)
    clear hK K
    try simp only [jP,jA,jB,jC,jD,jE,jF]
    refine wpAnyH_done (by kernel_rfl) ?_ _
    refine NoPanic.normal ?_
    have hL2:Hid (Sl 90 g S (put4 W1 g (j*4) (.int .i64 x0) (.bool s1) (.slice a1 l1 p1) (.slice a2 l2 p2)) (swp E1 i j)):=by
     have h:=hL1.set j hj2 (x0:=.int .i64 x0) (x1:=.bool s1) (x2:=.slice a1 l1 p1) (x3:=.slice a2 l2 p2) ⟨_,_,_,_,_,_,_,_,rfl⟩
     show Sl _ _ _ _ _
     unfold swp
     rw [hX,hY]
     exact h
    have hB2:=put4_below hB1 (Nat.le_refl g) (j*4) (.int .i64 x0) (.bool s1) (.slice a1 l1 p1) (.slice a2 l2 p2)
    clear v0 v1 v2 v3 g0 g1 g2 g3
    go_wp2_with fail
    go_roundw
    case rel=>exact ⟨k+1,swp E1 i j,by go_num,by omega,Below.drew hB2,.step i j hW.out (by omega) (by omega) (by omega) (by omega),hL2,fun p=>by rw [← hi,← hj];exact blk_step (by omega) (by omega) hB.out p⟩
    case measure=>simp [intOf] <;> omega
open Go.RowKit Go.Att

theorem swapr_to {w:World} {g S cap n:Nat} {L:Nat} {E:List (List Value)} {F:Value} {za zb:Int} (a b:Nat) (hza:za=a) (hzb:zb=b) (hL:L=E.length) (hS:Sl 90 g S w E) (hab:a+n≤b) (hb:b+n≤E.length) (hl:E.length≤100000):
  Calls Tryz.prog 163 #[.slice (some ⟨g,0,none⟩) L cap,.int .i64 za,.int .i64 zb,.int .i64 n,F] w (GivesB g w fun w'=>∃ E',Sw a (b+n) E E'∧Sl 90 g S w' E'∧∀ p,gt E' p=blk (gt E) a b n p):=by
 subst hza hzb hL
 exact swapr_any hS hab hb hl
set_option maxHeartbeats 4000000 in
theorem rotate_any {w:World} {g S cap a m b:Nat} {E:List (List Value)} {F:Value} (hS:Sl 90 g S w E) (h1:a < m) (h2:m < b) (hb:b≤E.length) (hl:E.length≤100000):
  Calls Tryz.prog 149 #[.slice (some ⟨g,0,none⟩) E.length cap,.int .i64 a,.int .i64 m,.int .i64 b,F] w (GivesB g w fun w'=>∃ E',Sw a b E E'∧Sl 90 g S w' E'∧∀ p,gt E' p=rot (gt E) a m b p):=by
 refine via fun R hR=>?_
 obtain ⟨i0,hi0⟩:∃ i0,m - a=i0:=⟨_,rfl⟩
 obtain ⟨j0,hj0⟩:∃ j0,b - m=j0:=⟨_,rfl⟩
 have e1:(m:Int) - (a:Int)=(i0:Int):=by omega
 have e2:(b:Int) - (m:Int)=(j0:Int):=by omega
 go_enter Tryz.func149,Tryz.ntmps149
 go_wp2_with fail
 obtain ⟨w9,rfl⟩:∃ w0:World,w0=w:=⟨_,rfl⟩
 go_loopw [10,11] (fun s t wr=>∃ (i j:Nat) (E1:List (List Value)),s=.int .i64 i∧t=.int .i64 j∧0 < i∧0 < j∧i≤i0∧j≤j0∧Below g w9 wr∧Hid (Sw a b E E1)∧Hid (Sl 90 g S wr E1)∧Hid (∀ p,rot (gt E1) (m - i) m (m+j) p=rot (gt E) a m b p)) (fun s t _=>(intOf s).toNat+(intOf t).toNat)
 case atStart=>exact ⟨i0,j0,E,rfl,rfl,by omega,by omega,Nat.le_refl _,Nat.le_refl _,Below.refl _ _,.refl,hS,fun p=>by rw [show m - i0=a by omega,show m+j0=b by omega]⟩
 case round=>
  obtain ⟨i,j,E1,rfl,rfl,hi,hj,hi2,hj2,hx,hW,hL,hB⟩:=hrel
  have hlen:=hW.out.len
  by_cases hij:i=j
  ·subst hij
   have hne:((i:Int) != (i:Int))=false:=bneF rfl
   go_wp2_with fail
   refine (swapr_to (m - i) m (by omega) rfl hlen.symm hL.out (by omega) (by omega) (by omega)).mono ?_
   rintro e w1 ⟨rfl,hb1,E2,hW2,hL2,hB2⟩
   go_wp2_with fail
   go_end0
   exact hR.out _ _ ⟨rfl,hx.trans hb1,E2,hW.out.trans (hW2.mono (by omega) (by omega)),hL2,fun p=>by rw [hB2,← rot_self _ _ _ (by omega),hB.out]⟩
  ·have hne:((i:Int) != (j:Int))=true:=bneT (by omega)
   by_cases hlt:j < i
   ·have hd:decide ((j:Int) < (i:Int))=true:=decide_eq_true (by omega)
    have e3:(i:Int) - (j:Int)=((i - j:Nat):Int):=by omega
    go_wp2_with fail
    refine (swapr_to (m - i) m (by omega) rfl hlen.symm hL.out (by omega) (by omega) (by omega)).mono ?_
    rintro e w1 ⟨rfl,hb1,E2,hW2,hL2,hB2⟩
    go_wp2_with fail
    go_roundw
    case rel=>exact ⟨i - j,j,E2,rfl,rfl,by omega,hj,by omega,hj2,hx.trans hb1,hW.out.trans (hW2.mono (by omega) (by omega)),hL2,fun p=>by rw [rot_more (by omega) hlt hB2,hB.out]⟩
    case measure=>simp [intOf] <;> omega
   ·have hd:decide ((j:Int) < (i:Int))=false:=decide_eq_false (by omega)
    have e3:(j:Int) - (i:Int)=((j - i:Nat):Int):=by omega
    go_wp2_with fail
    refine (swapr_to (m - i) (m+j - i) (by omega) (by omega) hlen.symm hL.out (by omega) (by omega) (by omega)).mono ?_
    rintro e w1 ⟨rfl,hb1,E2,hW2,hL2,hB2⟩
    go_wp2_with fail
    go_roundw
    case rel=>exact ⟨i,j - i,E2,rfl,rfl,hi,by omega,hi2,by omega,hx.trans hb1,hW.out.trans (hW2.mono (by omega) (by omega)),hL2,fun p=>by rw [rot_less (by omega) (by omega) hB2,hB.out]⟩
    case measure=>simp [intOf] <;> omega
end Go.Proofs.YtdooldpgnjmpfaaGreatDoor

namespace Go.Att
def keyT:List Value→Int
 | .int _ z :: _=>z
 | _=>0
def cmp3 (a b:Int):Int:=if a < b then -1 else if b < a then 1 else 0
theorem cmp3_neg {a b:Int}:cmp3 a b < 0↔a < b:=by
 unfold cmp3
 split
 ·omega
 ·split <;> omega
end Go.Att
namespace Go.Proofs.YtdooldpgnjmpfaaGreatDoor
open Go.RowKit Go.Att

theorem tcmp_any {w:World} {z z':Int} {s s':Bool} {a b a' b':Option Addr} {l p l' p' l2 p2 l3 p3:Nat}:
  Calls Tryz.prog 86 #[.agg #[.int .i64 z,.bool s,.slice a l p,.slice a' l' p'],.agg #[.int .i64 z',.bool s',.slice b l2 p2,.slice b' l3 p3]] w (Gives w fun v' _=>v'=.int .i64 (cmp3 z z')):=by
 refine via fun R hR=>?_
 obtain ⟨w1,hw1,b1,c1,c2,-⟩:=bx2 w [.int .i64 z,.bool s,.slice a l p,.slice a' l' p'] [.int .i64 z',.bool s',.slice b l2 p2,.slice b' l3 p3] 90 90
 have HW:=Lib.hid hw1
 have C1:=Lib.hid c1
 have C2:=Lib.hid c2
 clear hw1 c1 c2
 go_enter Tryz.func86,Tryz.ntmps86
 go_upto_region 1 with (fail)
 rw [← HW.out]
 clear HW
 have k0:=C1.out.c1
 have j0:=C2.out.c1
 by_cases h1:z < z'
 ·have hd:decide (z < z')=true:=decide_eq_true h1
  have E:Hid (cmp3 z z' = -1):=if_pos h1
  go_wp2_with fail
  exact hR.out _ _ (Gives.mk b1 (by rw [E.out];rfl))
 ·have hd:decide (z < z')=false:=decide_eq_false h1
  by_cases h2:z' < z
  ·have hd2:decide (z' < z)=true:=decide_eq_true h2
   have E:Hid (cmp3 z z'=1):=by show _=_;unfold cmp3;rw [if_neg h1,if_pos h2]
   go_wp2_with fail
   exact hR.out _ _ (Gives.mk b1 (by rw [E.out]))
  ·have hd2:decide (z' < z)=false:=decide_eq_false h2
   have E:Hid (cmp3 z z'=0):=by show _=_;unfold cmp3;rw [if_neg h1,if_neg h2]
   go_wp2_with fail
   exact hR.out _ _ (Gives.mk b1 (by rw [E.out]))
open Go.RowKit Go.Att

set_option linter.unusedSimpArgs false in
set_option maxHeartbeats 4000000 in
theorem insort_any {w:World} {g S cap a b:Nat} {E:List (List Value)} (hS:Sl 90 g S w E) (hab:a≤b) (hb:b≤E.length) (hl:E.length≤100000):
  Calls Tryz.prog 133 #[.slice (some ⟨g,0,none⟩) E.length cap,.int .i64 a,.int .i64 b,.func (.func 86) #[] #[]] w (GivesB g w fun w'=>∃ E',Sw a b E E'∧Sl 90 g S w' E'∧Up keyT a b E'):=by
 refine via fun R hR=>?_
 go_enter Tryz.func133,Tryz.ntmps133
 go_wp2_with fail
 obtain ⟨w9,rfl⟩:∃ w0:World,w0=w:=⟨_,rfl⟩
 go_loopw [8] (fun s wr=>∃ (i:Nat) (E1:List (List Value)),s=.int .i64 i∧a < i∧(i≤b∨i=a+1)∧Below g w9 wr∧Hid (Sw a b E E1)∧Hid (Sl 90 g S wr E1)∧Hid (Up keyT a i E1)) (fun s _=>b - (intOf s).toNat)
 case atStart=>exact ⟨a+1,E,by go_num,by omega,.inr rfl,Below.refl _ _,.refl,hS,Up.one a (Nat.le_refl _) E⟩
 case round=>
  obtain ⟨i,E1,rfl,hai,hib,hx,hW,hL,hU⟩:=hrel
  by_cases hlt:i < b
  ·have hd:decide ((i:Int) < (b:Int))=true:=decide_eq_true (by omega)
   go_wp2_with fail
   go_loopw [9] (fun t wr=>∃ (j:Nat) (E1:List (List Value)),t=.int .i64 j∧a≤j∧j≤i∧Below g w9 wr∧Hid (Sw a b E E1)∧Hid (Sl 90 g S wr E1)∧Hid (Ins keyT a i j E1)) (fun t _=>(intOf t).toNat)
   case atStart=>exact ⟨i,E1,rfl,by omega,Nat.le_refl _,hx,hW.out,hL.out,hU.out.ins⟩
   case round=>
    clear hx hW hL hU E1
    obtain ⟨j,E1,rfl,haj,hji,hx,hW,hL,hU⟩:=hrel
    obtain ⟨w,rfl⟩:∃ w0:World,w0=wr:=⟨_,rfl⟩
    have hlen:=hW.out.len
    by_cases hja:j=a
    ·have hd3:decide ((a:Int) < (j:Int))=false:=decide_eq_false (by omega)
     go_wp2_with fail
     have b1:=drew_ext w
     have XE:=b1
     refine wp_region_noPanic ?_
     refine wp_region_held_drew (S:=fun w'=>True) (by kernel_rfl) (trivial) (fun hHeld=>?_)
     refine tkH 0 hHeld ?_
     simp only [jP,jA,jB,jC,jD,jE,jF]
     refine tkH 1 hHeld ?_
     simp only [jP,jA,jB,jC,jD,jE,jF]
     refine tkH 2 hHeld ?_
     simp only [jP,jA,jB,jC,jD,jE,jF]
     refine tkH 3 hHeld ?_
     simp only [jP,jA,jB,jC,jD,jE,jF]
     refine wpAnyH_take (i:=4) rfl (by kernel_rfl) (by kernel_rfl) (by kernel_rfl) (fun _ _ _ h=>h) (Or.inr ⟨by rfl,rfl⟩) hHeld ?_
     simp only [jP,jA,jB,jC,jD,jE,jF]
     refine wpAnyH_take (i:=5) rfl (by kernel_rfl) (by kernel_rfl) (by kernel_rfl) (fun _ _ _ h=>h) (Or.inr ⟨by rfl,rfl⟩) hHeld ?_
     simp only [jP,jA,jB,jC,jD,jE,jF]
     refine wpAnyH_take (i:=6) rfl (by kernel_rfl) (by kernel_rfl) (by kernel_rfl) (fun _ _ _ h=>h) (Or.inr ⟨by rfl,rfl⟩) hHeld ?_
     simp only [jP,jA,jB,jC,jD,jE,jF]
     refine wpAnyH_take (i:=7) rfl (by kernel_rfl) (by kernel_rfl) (by kernel_rfl) (fun _ _ _ h=>h) (Or.inr ⟨by rfl,rfl⟩) hHeld ?_
     simp only [jP,jA,jB,jC,jD,jE,jF]
     refine wpAnyH_take (i:=8) rfl (by kernel_rfl) (by kernel_rfl) (by kernel_rfl) (fun _ _ _ h=>h) (Or.inr ⟨by rfl,rfl⟩) hHeld ?_
     simp only [jP,jA,jB,jC,jD,jE,jF]
     refine wpAnyH_take (i:=9) rfl (by kernel_rfl) (by kernel_rfl) (by kernel_rfl) (fun _ _ _ h=>h) (Or.inr ⟨by rfl,rfl⟩) hHeld ?_
     simp only [jP,jA,jB,jC,jD,jE,jF]
     refine wpAnyH_take (i:=10) rfl (by kernel_rfl) (by kernel_rfl) (by kernel_rfl) (fun _ _ _ h=>h) (Or.inr ⟨by rfl,rfl⟩) hHeld ?_
     simp only [jP,jA,jB,jC,jD,jE,jF]
     refine wpAnyH_take (i:=11) rfl (by kernel_rfl) (by kernel_rfl) (by kernel_rfl) (fun _ _ _ h=>h) (Or.inr ⟨by rfl,rfl⟩) hHeld ?_
     simp only [jP,jA,jB,jC,jD,jE,jF]
     refine wpAnyH_take (i:=12) rfl (by kernel_rfl) (by kernel_rfl) (by kernel_rfl) (fun _ _ _ h=>h) (Or.inr ⟨by rfl,rfl⟩) hHeld ?_
     simp only [jP,jA,jB,jC,jD,jE,jF]
     refine wpAnyH_take (i:=13) rfl (by kernel_rfl) (by kernel_rfl) (by kernel_rfl) (fun _ _ _ h=>h) (Or.inr ⟨by rfl,rfl⟩) hHeld ?_
     simp only [jP,jA,jB,jC,jD,jE,jF]
     refine wpAnyH_take (i:=14) rfl (by kernel_rfl) (by kernel_rfl) (by kernel_rfl) (fun _ _ _ h=>h) (Or.inr ⟨by rfl,rfl⟩) hHeld ?_
     simp only [jP,jA,jB,jC,jD,jE,jF]
     refine wpAnyH_take (i:=15) rfl (by kernel_rfl) (by kernel_rfl) (by kernel_rfl) (fun _ _ _ h=>h) (Or.inr ⟨by rfl,rfl⟩) hHeld ?_
     simp only [jP,jA,jB,jC,jD,jE,jF]
     refine tkH 16 hHeld ?_
     simp only [jP,jA,jB,jC,jD,jE,jF]
     refine wpAnyH_done (by kernel_rfl) ?_ _
     refine NoPanic.normal ?_
     go_wp2_with fail
     go_roundw
     case rel=>exact ⟨i+1,E1,by go_num,by omega,by omega,Below.drew hx,hW.out,hL.out,hU.out.done haj (.inl hja)⟩
     case measure=>simp [intOf] <;> omega
    ·have hd3:decide ((a:Int) < (j:Int))=true:=decide_eq_true (by omega)
     have hd4:decide (a < j)=true:=decide_eq_true (by omega)
     have hd5:a < j:=by omega
     obtain ⟨d,hdj⟩:∃ d,j - 1=d:=⟨_,rfl⟩
     have hI1:IntKind.i64.wrap (j:Int)=(j:Int):=by rw [IntKind.wrap_i64];omega
     have hI2:(0:Int)≤(j:Int)∧(j:Int) < (E.length:Int):=⟨by omega,by omega⟩
     have hJ0:(j:Int) - 1=(d:Int):=by omega
     have hJ1:IntKind.i64.wrap (d:Int)=(d:Int):=by rw [IntKind.wrap_i64];omega
     have hJ2:(0:Int)≤(d:Int)∧(d:Int) < (E.length:Int):=⟨by omega,by omega⟩
     have hj1:j < E1.length:=by omega
     have hd1:d < E1.length:=by omega
     obtain ⟨x0,s1,a1,l1,p1,a2,l2,p2,hX,u0,u1,u2,u3,-,-,-,-⟩:=hL.out.at j hj1
     obtain ⟨y0,s3,a3,l3,p3,a4,l4,p4,hY,v0,v1,v2,v3,-,-,-,-⟩:=hL.out.at d hd1
     have D1:Hid (Box4 w g (j*4) (.int .i64 x0) (.bool s1) (.slice a1 l1 p1) (.slice a2 l2 p2)):=⟨u0,u1,u2,u3⟩
     have D2:Hid (Box4 w g (d*4) (.int .i64 y0) (.bool s3) (.slice a3 l3 p3) (.slice a4 l4 p4)):=⟨v0,v1,v2,v3⟩
     clear u0 u1 u2 u3 v0 v1 v2 v3
     have hkX:keyT (gt E1 j)=x0:=by rw [hX];rfl
     have hkY:keyT (gt E1 d)=y0:=by rw [hY];rfl
     go_wp2_with fail
     have b1:=drew_ext w
     have XE:=b1
     refine wp_region_noPanic ?_
     refine wp_region_held_drew (S:=fun w'=>(w'.cell? ⟨g,j*4,none⟩=some (.int .i64 x0)∧w'.cell? ⟨g,j*4+1,none⟩=some (.bool s1)∧w'.cell? ⟨g,j*4+2,none⟩=some (.slice a1 l1 p1)∧w'.cell? ⟨g,j*4+3,none⟩=some (.slice a2 l2 p2))∧(w'.cell? ⟨g,d*4,none⟩=some (.int .i64 y0)∧w'.cell? ⟨g,d*4+1,none⟩=some (.bool s3)∧w'.cell? ⟨g,d*4+2,none⟩=some (.slice a3 l3 p3)∧w'.cell? ⟨g,d*4+3,none⟩=some (.slice a4 l4 p4))) (by kernel_rfl) (⟨D1.out.ext XE,D2.out.ext XE⟩) (fun hHeld=>?_)
     refine tkH 0 hHeld ?_
     simp only [jP,jA,jB,jC,jD,jE,jF]
     refine tkH 1 hHeld ?_
     simp only [jP,jA,jB,jC,jD,jE,jF]
     refine tkH 2 hHeld ?_
     simp only [jP,jA,jB,jC,jD,jE,jF]
     refine tkH 3 hHeld ?_
     simp only [jP,jA,jB,jC,jD,jE,jF]
     refine tkH 4 hHeld ?_
     simp only [jP,jA,jB,jC,jD,jE,jF]
     refine tkH 5 hHeld ?_
     simp only [jP,jA,jB,jC,jD,jE,jF]
     refine tkH 6 hHeld ?_
     simp only [jP,jA,jB,jC,jD,jE,jF]
     refine tkH 7 hHeld ?_
     simp only [jP,jA,jB,jC,jD,jE,jF]
     refine tkH 8 hHeld ?_
     simp only [jP,jA,jB,jC,jD,jE,jF]
     refine tkH 9 hHeld ?_
     simp only [jP,jA,jB,jC,jD,jE,jF]
     refine tkH 10 hHeld ?_
     simp only [jP,jA,jB,jC,jD,jE,jF]
     refine tkH 11 hHeld ?_
     simp only [jP,jA,jB,jC,jD,jE,jF]
     refine tkH 12 hHeld ?_
     simp only [jP,jA,jB,jC,jD,jE,jF]
     refine tkH 13 hHeld ?_
     simp only [jP,jA,jB,jC,jD,jE,jF]
     refine rdH 14 (by kernel_rfl) rfl (fun K hK=>?_)
     go_simp
     go_at_call 86;refine (tcmp_any).mono ?_;rintro e w2 ⟨_,rfl,b2,rfl⟩;(first | have XE:=Ext.trans XE b2 | have XE:=Ext.trans (Ext.trans XE (Ext.alloc _ _)) b2)
     go_wp2_with fail
     refine hK.out _ _ (⟨D1.out.ext XE,D2.out.ext XE⟩) (fun hHeld=>?_)
     clear hK K
     try simp only [jP,jA,jB,jC,jD,jE,jF]
     refine tkH 15 hHeld ?_
     simp only [jP,jA,jB,jC,jD,jE,jF]
     refine tkH 16 hHeld ?_
     simp only [jP,jA,jB,jC,jD,jE,jF]
     refine wpAnyH_done (by kernel_rfl) ?_ _
     refine NoPanic.normal ?_
     have hx2:Below g w9 w2:=hx.trans (Below.mono XE (Nat.le_of_lt hL.out.lt))
     have hLx:=Lib.hid (hL.out.ext XE)
     by_cases hc:x0 < y0
     ·rw [decide_eq_true (cmp3_neg.2 hc)]
      have hkk:Hid (keyT (gt E1 j) < keyT (gt E1 (j - 1))):=by show _ < _;rw [hdj,hkX,hkY];exact hc
      obtain ⟨u0,u1,u2,u3⟩:=D1.out.ext XE
      obtain ⟨v0,v1,v2,v3⟩:=D2.out.ext XE
      obtain ⟨_,_,_,_,_,_,_,_,-,-,-,-,-,f0,f1,f2,f3⟩:=hLx.out.at j hj1
      clear hHeld
      go_wp2_with fail
      have b3:=drew_ext w2
      refine wp_region_noPanic ?_
      refine wp_region_held_drew (S:=fun w'=>True) (by kernel_rfl) (trivial) (fun hHeld=>?_)
      refine tkH 0 hHeld ?_
      simp only [jP,jA,jB,jC,jD,jE,jF]
      refine tkH 1 hHeld ?_
      simp only [jP,jA,jB,jC,jD,jE,jF]
      refine tkH 2 hHeld ?_
      simp only [jP,jA,jB,jC,jD,jE,jF]
      refine tkH 3 hHeld ?_
      simp only [jP,jA,jB,jC,jD,jE,jF]
      refine tkH 4 hHeld ?_
      simp only [jP,jA,jB,jC,jD,jE,jF]
      refine tkH 5 hHeld ?_
      simp only [jP,jA,jB,jC,jD,jE,jF]
      refine tkH 6 hHeld ?_
      simp only [jP,jA,jB,jC,jD,jE,jF]
      refine tkH 7 hHeld ?_
      simp only [jP,jA,jB,jC,jD,jE,jF]
      refine tkH 8 hHeld ?_
      simp only [jP,jA,jB,jC,jD,jE,jF]
      refine tkH 10 hHeld ?_
      simp only [jP,jA,jB,jC,jD,jE,jF]
      refine tkH 11 hHeld ?_
      simp only [jP,jA,jB,jC,jD,jE,jF]
      refine tkH 12 hHeld ?_
      simp only [jP,jA,jB,jC,jD,jE,jF]
      refine wpAnyH_ready (rs:=[9,13]) (by kernel_rfl) (by simp) ?_
      refine AllReadyH.cons (o:=_) rfl (fun K hK=>?_) (AllReadyH.cons (o:=_) rfl (fun K hK=>?_) AllReadyH.nil)
      ·skip
       go_simp
       refine hK.out _ _ (trivial) (fun hHeld=>?_)
       clear hK K
       try simp only [jP,jA,jB,jC,jD,jE,jF]
       refine rdH 13 (by kernel_rfl) rfl (fun K hK=>?_)
       go_simp
       refine hK.out _ _ (trivial) (fun hHeld=>?_)
       clear hK K
       try simp only [jP,jA,jB,jC,jD,jE,jF]
       refine tkH 14 hHeld ?_
       simp only [jP,jA,jB,jC,jD,jE,jF]
       refine rdH 15 (by kernel_rfl) rfl (fun K hK=>?_)
       go_simp
       refine hK.out _ _ (trivial) (fun hHeld=>?_)
       clear hK K
       try simp only [jP,jA,jB,jC,jD,jE,jF]
       obtain ⟨W1,hW1,hB1,hL1⟩:∃ W1,W1=(((w2.setCell ⟨g,j*4,none⟩ (.int .i64 y0)).setCell ⟨g,j*4+1,none⟩ (.bool s3)).setCell ⟨g,j*4+2,none⟩ (.slice a3 l3 p3)).setCell ⟨g,j*4+3,none⟩ (.slice a4 l4 p4)∧Below g w9 W1∧Sl 90 g S W1 (E1.set j [.int .i64 y0,.bool s3,.slice a3 l3 p3,.slice a4 l4 p4]):=⟨_,rfl,put4_below hx2 (Nat.le_refl _) _ _ _ _ _,hLx.out.set j hj1 ⟨_,_,_,_,_,_,_,_,rfl⟩⟩
       rw [← hW1]
       clear hW1 f0 f1 f2 f3
       have hj2:d < (E1.set j [.int .i64 y0,.bool s3,.slice a3 l3 p3,.slice a4 l4 p4]).length:=by rw [List.length_set];exact hd1
       obtain ⟨_,_,_,_,_,_,_,_,-,v0,v1,v2,v3,g0,g1,g2,g3⟩:=hL1.at d hj2
       refine tkH 16 hHeld ?_
       simp only [jP,jA,jB,jC,jD,jE,jF]
       refine rdH 17 (by kernel_rfl) rfl (fun K hK=>?_)
       go_simp
       refine hK.out _ _ (trivial) (fun hHeld=>?_)
       clear hK K
       try simp only [jP,jA,jB,jC,jD,jE,jF]
       refine wpAnyH_done (by kernel_rfl) ?_ _
       refine NoPanic.normal ?_
       have hL2:Hid (Sl 90 g S (put4 W1 g (d*4) (.int .i64 x0) (.bool s1) (.slice a1 l1 p1) (.slice a2 l2 p2)) (swp E1 j d)):=by
        have h:=hL1.set d hj2 (x0:=.int .i64 x0) (x1:=.bool s1) (x2:=.slice a1 l1 p1) (x3:=.slice a2 l2 p2) ⟨_,_,_,_,_,_,_,_,rfl⟩
        show Sl _ _ _ _ _
        unfold swp
        rw [hX,hY]
        exact h
       have hB2:=put4_below hB1 (Nat.le_refl g) (d*4) (.int .i64 x0) (.bool s1) (.slice a1 l1 p1) (.slice a2 l2 p2)
       clear v0 v1 v2 v3 g0 g1 g2 g3
       go_wp2_with fail
       go_roundw
       case rel=>exact ⟨d,swp E1 j d,by go_num,by omega,by omega,Below.drew hB2,.step j d hW.out (by omega) (by omega) (by omega) (by omega),hL2,by
        have h:=hU.out.step (by omega) hji (by omega) hkk.out
        rwa [hdj] at h⟩
       case measure=>simp [intOf] <;> omega
      ·skip
       go_simp
       refine hK.out _ _ (trivial) (fun hHeld=>?_)
       clear hK K
       try simp only [jP,jA,jB,jC,jD,jE,jF]
       refine rdH 9 (by kernel_rfl) rfl (fun K hK=>?_)
       go_simp
       refine hK.out _ _ (trivial) (fun hHeld=>?_)
       clear hK K
       try simp only [jP,jA,jB,jC,jD,jE,jF]
       refine tkH 14 hHeld ?_
       simp only [jP,jA,jB,jC,jD,jE,jF]
       refine rdH 15 (by kernel_rfl) rfl (fun K hK=>?_)
       go_simp
       refine hK.out _ _ (trivial) (fun hHeld=>?_)
       clear hK K
       try simp only [jP,jA,jB,jC,jD,jE,jF]
       obtain ⟨W1,hW1,hB1,hL1⟩:∃ W1,W1=(((w2.setCell ⟨g,j*4,none⟩ (.int .i64 y0)).setCell ⟨g,j*4+1,none⟩ (.bool s3)).setCell ⟨g,j*4+2,none⟩ (.slice a3 l3 p3)).setCell ⟨g,j*4+3,none⟩ (.slice a4 l4 p4)∧Below g w9 W1∧Sl 90 g S W1 (E1.set j [.int .i64 y0,.bool s3,.slice a3 l3 p3,.slice a4 l4 p4]):=⟨_,rfl,put4_below hx2 (Nat.le_refl _) _ _ _ _ _,hLx.out.set j hj1 ⟨_,_,_,_,_,_,_,_,rfl⟩⟩
       rw [← hW1]
       clear hW1 f0 f1 f2 f3
       have hj2:d < (E1.set j [.int .i64 y0,.bool s3,.slice a3 l3 p3,.slice a4 l4 p4]).length:=by rw [List.length_set];exact hd1
       obtain ⟨_,_,_,_,_,_,_,_,-,v0,v1,v2,v3,g0,g1,g2,g3⟩:=hL1.at d hj2
       refine tkH 16 hHeld ?_
       simp only [jP,jA,jB,jC,jD,jE,jF]
       refine rdH 17 (by kernel_rfl) rfl (fun K hK=>?_)
       go_simp
       refine hK.out _ _ (trivial) (fun hHeld=>?_)
       clear hK K
       try simp only [jP,jA,jB,jC,jD,jE,jF]
       refine wpAnyH_done (by kernel_rfl) ?_ _
       refine NoPanic.normal ?_
       have hL2:Hid (Sl 90 g S (put4 W1 g (d*4) (.int .i64 x0) (.bool s1) (.slice a1 l1 p1) (.slice a2 l2 p2)) (swp E1 j d)):=by
        have h:=hL1.set d hj2 (x0:=.int .i64 x0) (x1:=.bool s1) (x2:=.slice a1 l1 p1) (x3:=.slice a2 l2 p2) ⟨_,_,_,_,_,_,_,_,rfl⟩
        show Sl _ _ _ _ _
        unfold swp
        rw [hX,hY]
        exact h
       have hB2:=put4_below hB1 (Nat.le_refl g) (d*4) (.int .i64 x0) (.bool s1) (.slice a1 l1 p1) (.slice a2 l2 p2)
       clear v0 v1 v2 v3 g0 g1 g2 g3
       go_wp2_with fail
       go_roundw
       case rel=>exact ⟨d,swp E1 j d,by go_num,by omega,by omega,Below.drew hB2,.step j d hW.out (by omega) (by omega) (by omega) (by omega),hL2,by
        have h:=hU.out.step (by omega) hji (by omega) hkk.out
        rwa [hdj] at h⟩
       case measure=>simp [intOf] <;> omega
     ·rw [decide_eq_false (fun h=>hc (cmp3_neg.1 h))]
      go_wp2_with fail
      go_roundw
      case rel=>exact ⟨i+1,E1,by go_num,by omega,by omega,hx2,hW.out,hLx.out,hU.out.done haj (.inr (by rw [hdj,hkX,hkY];omega))⟩
      case measure=>simp [intOf] <;> omega
  ·have hd:decide ((i:Int) < (b:Int))=false:=decide_eq_false (by omega)
   go_wp2_with fail
   go_end0
   exact hR.out _ _ ⟨rfl,hx,E1,hW.out,hL.out,hU.out.sub (Nat.le_refl _) (by omega)⟩
open Go.RowKit Go.Att

set_option linter.unusedSimpArgs false in
set_option maxHeartbeats 4000000 in
set_option maxRecDepth 100000 in
theorem sym_left {w:World} {g S cap a b:Nat} {E:List (List Value)} (hS:Sl 90 g S w E) (hab:a+1 < b) (hb:b≤E.length) (hl:E.length≤100000) (hu:Up keyT (a+1) b E):
  Calls Tryz.prog 134 #[.slice (some ⟨g,0,none⟩) E.length cap,.int .i64 a,.int .i64 ((a:Int)+1),.int .i64 b,.func (.func 86) #[] #[]] w (GivesB g w fun w'=>∃ E',Sw a b E E'∧Sl 90 g S w' E'∧Up keyT a b E'):=by
 refine via fun R hR=>?_
 have e1:(((a:Int)+1 - (a:Int)) == 1)=true:=beqT (by omega)
 have e1':(a:Int)+1 - (a:Int)=1:=by omega
 have HU:=Lib.hid hu
 clear hu
 go_enter Tryz.func134,Tryz.ntmps134
 go_wp2_with fail
 obtain ⟨w9,rfl⟩:∃ w0:World,w0=w:=⟨_,rfl⟩
 go_loopw [10,11] (fun s t wr=>∃ (i j:Nat),s=.int .i64 i∧t=.int .i64 j∧a+1≤i∧i≤j∧j≤b∧Ext w9 wr∧Hid (∀ q,a+1≤q→q < i→keyT (gt E q) < keyT (gt E a))∧Hid (∀ q,j≤q→q < b→keyT (gt E a)≤keyT (gt E q))) (fun s t _=>(intOf t).toNat - (intOf s).toNat)
 case atStart=>exact ⟨a+1,b,by go_num,rfl,Nat.le_refl _,by omega,Nat.le_refl _,Ext.refl _,fun q h1 h2=>by omega,fun q h1 h2=>by omega⟩
 case round=>
  obtain ⟨i,j,rfl,rfl,hai,hij,hjb,hx,hlo,hhi⟩:=hrel
  obtain ⟨w,rfl⟩:∃ w0:World,w0=wr:=⟨_,rfl⟩
  have HL:=Lib.hid (hS.ext hx)
  by_cases hlt:i < j
  ·have hd:decide ((i:Int) < (j:Int))=true:=decide_eq_true (by omega)
   obtain ⟨h,hh⟩:∃ h,(i+j) / 2=h:=⟨_,rfl⟩
   have eh:((i:Int)+(j:Int)) / 2=(h:Int):=by omega
   have hI1:IntKind.i64.wrap (h:Int)=(h:Int):=by rw [IntKind.wrap_i64];omega
   have hI2:(0:Int)≤(h:Int)∧(h:Int) < (E.length:Int):=⟨by omega,by omega⟩
   have hJ1:IntKind.i64.wrap (a:Int)=(a:Int):=by rw [IntKind.wrap_i64];omega
   have hJ2:(0:Int)≤(a:Int)∧(a:Int) < (E.length:Int):=⟨by omega,by omega⟩
   obtain ⟨x0,s1,a1,l1,p1,a2,l2,p2,hX,u0,u1,u2,u3,-,-,-,-⟩:=HL.out.at h (by omega)
   obtain ⟨y0,s3,a3,l3,p3,a4,l4,p4,hY,v0,v1,v2,v3,-,-,-,-⟩:=HL.out.at a (by omega)
   have D1:Hid (Box4 w g (h*4) (.int .i64 x0) (.bool s1) (.slice a1 l1 p1) (.slice a2 l2 p2)):=⟨u0,u1,u2,u3⟩
   have D2:Hid (Box4 w g (a*4) (.int .i64 y0) (.bool s3) (.slice a3 l3 p3) (.slice a4 l4 p4)):=⟨v0,v1,v2,v3⟩
   clear u0 u1 u2 u3 v0 v1 v2 v3
   have hkX:keyT (gt E h)=x0:=by rw [hX];rfl
   have hkY:keyT (gt E a)=y0:=by rw [hY];rfl
   go_wp2_with fail
   have b1:=drew_ext w
   have XE:=b1
   refine wp_region_noPanic ?_
   refine wp_region_held_drew (S:=fun w'=>(w'.cell? ⟨g,h*4,none⟩=some (.int .i64 x0)∧w'.cell? ⟨g,h*4+1,none⟩=some (.bool s1)∧w'.cell? ⟨g,h*4+2,none⟩=some (.slice a1 l1 p1)∧w'.cell? ⟨g,h*4+3,none⟩=some (.slice a2 l2 p2))∧(w'.cell? ⟨g,a*4,none⟩=some (.int .i64 y0)∧w'.cell? ⟨g,a*4+1,none⟩=some (.bool s3)∧w'.cell? ⟨g,a*4+2,none⟩=some (.slice a3 l3 p3)∧w'.cell? ⟨g,a*4+3,none⟩=some (.slice a4 l4 p4))) (by kernel_rfl) (⟨D1.out.ext XE,D2.out.ext XE⟩) (fun hHeld=>?_)
   refine tkH 0 hHeld ?_
   simp only [jP,jA,jB,jC,jD,jE,jF]
   refine tkH 1 hHeld ?_
   simp only [jP,jA,jB,jC,jD,jE,jF]
   refine tkH 2 hHeld ?_
   simp only [jP,jA,jB,jC,jD,jE,jF]
   refine tkH 3 hHeld ?_
   simp only [jP,jA,jB,jC,jD,jE,jF]
   refine tkH 4 hHeld ?_
   simp only [jP,jA,jB,jC,jD,jE,jF]
   refine tkH 5 hHeld ?_
   simp only [jP,jA,jB,jC,jD,jE,jF]
   refine tkH 6 hHeld ?_
   simp only [jP,jA,jB,jC,jD,jE,jF]
   refine tkH 7 hHeld ?_
   simp only [jP,jA,jB,jC,jD,jE,jF]
   refine tkH 8 hHeld ?_
   simp only [jP,jA,jB,jC,jD,jE,jF]
   refine rdH 9 (by kernel_rfl) rfl (fun K hK=>?_)
   go_simp
   go_at_call 86;refine (tcmp_any).mono ?_;rintro e w2 ⟨_,rfl,b2,rfl⟩;(first | have XE:=Ext.trans XE b2 | have XE:=Ext.trans (Ext.trans XE (Ext.alloc _ _)) b2)
   go_wp2_with fail
   refine hK.out _ _ (⟨D1.out.ext XE,D2.out.ext XE⟩) (fun hHeld=>?_)
   clear hK K
   try simp only [jP,jA,jB,jC,jD,jE,jF]
   refine tkH 10 hHeld ?_
   simp only [jP,jA,jB,jC,jD,jE,jF]
   refine wpAnyH_done (by kernel_rfl) ?_ _
   refine NoPanic.normal ?_
   by_cases hc:x0 < y0
   ·rw [decide_eq_true (cmp3_neg.2 hc)]
    go_wp2_with fail
    go_roundw
    case rel=>exact ⟨h+1,j,by go_num,rfl,by omega,by omega,hjb,Ext.trans hx XE,fun q k1 k2=>by
     rw [hkY]
     refine Int.lt_of_le_of_lt ?_ hc
     rw [← hkX]
     exact HU.out.le k1 (by omega) (by omega),hhi.out⟩
    case measure=>simp [intOf] <;> omega
   ·rw [decide_eq_false (fun h=>hc (cmp3_neg.1 h))]
    go_wp2_with fail
    go_roundw
    case rel=>exact ⟨i,h,rfl,rfl,hai,by omega,by omega,Ext.trans hx XE,hlo.out,fun q k1 k2=>by
     rw [hkY]
     refine Int.le_trans (Int.not_lt.1 hc) ?_
     rw [← hkX]
     exact HU.out.le (by omega) k1 k2⟩
    case measure=>simp [intOf] <;> omega
  ·obtain rfl:i=j:=by omega
   have hd:decide ((i:Int) < (i:Int))=false:=decide_eq_false (by omega)
   have hxg:Below g w9 w:=Below.mono hx (Nat.le_of_lt hS.lt)
   go_wp2_with fail
   go_loopw [13] (fun s wr=>∃ (k:Nat) (E1:List (List Value)),s=.int .i64 k∧a≤k∧k≤i - 1∧Below g w9 wr∧Hid (Sw a b E E1)∧Hid (Sl 90 g S wr E1)∧Hid (∀ p,gt E1 p=shl (gt E) a k p)) (fun s _=>i - 1 - (intOf s).toNat)
   case atStart=>exact ⟨a,E,rfl,Nat.le_refl _,by omega,hxg,.refl,HL.out,fun p=>(shl_self _ _ p).symm⟩
   case round=>
    clear hx hxg HL
    obtain ⟨k,E1,rfl,hak,hki,hx,hW,hL,hB⟩:=hrel
    obtain ⟨w,rfl⟩:∃ w0:World,w0=wr:=⟨_,rfl⟩
    have hlen:=hW.out.len
    by_cases hlt2:k < i - 1
    ·have hd2:decide ((k:Int) < (i:Int) - 1)=true:=decide_eq_true (by omega)
     obtain ⟨k1,hkk⟩:∃ k1,k+1=k1:=⟨_,rfl⟩
     have hI1:IntKind.i64.wrap (k:Int)=(k:Int):=by rw [IntKind.wrap_i64];omega
     have hI2:(0:Int)≤(k:Int)∧(k:Int) < (E.length:Int):=⟨by omega,by omega⟩
     have hJ0:(k:Int)+1=(k1:Int):=by omega
     have hJ1:IntKind.i64.wrap (k1:Int)=(k1:Int):=by rw [IntKind.wrap_i64];omega
     have hJ2:(0:Int)≤(k1:Int)∧(k1:Int) < (E.length:Int):=⟨by omega,by omega⟩
     have hIt:((k:Nat):Int).toNat=k:=Int.toNat_natCast k
     have hJt:((k1:Nat):Int).toNat=k1:=Int.toNat_natCast k1
     have hk1:k < E1.length:=by omega
     have hk2:k1 < E1.length:=by omega
     obtain ⟨x0,s1,a1,l1,p1,a2,l2,p2,hX,u0,u1,u2,u3,f0,f1,f2,f3⟩:=hL.out.at k hk1
     obtain ⟨y0,s3,a3,l3,p3,a4,l4,p4,hY,v0,v1,v2,v3,-,-,-,-⟩:=hL.out.at k1 hk2
     go_wp2_with fail
     have b1:=drew_ext w
     refine wp_region_noPanic ?_
     refine wp_region_held_drew (S:=fun w'=>True) (by kernel_rfl) (trivial) (fun hHeld=>?_)
     refine tkH 0 hHeld ?_
     simp only [jP,jA,jB,jC,jD,jE,jF]
     refine tkH 1 hHeld ?_
     simp only [jP,jA,jB,jC,jD,jE,jF]
     refine tkH 2 hHeld ?_
     simp only [jP,jA,jB,jC,jD,jE,jF]
     refine tkH 3 hHeld ?_
     simp only [jP,jA,jB,jC,jD,jE,jF]
     refine tkH 4 hHeld ?_
     simp only [jP,jA,jB,jC,jD,jE,jF]
     refine tkH 5 hHeld ?_
     simp only [jP,jA,jB,jC,jD,jE,jF]
     refine tkH 6 hHeld ?_
     simp only [jP,jA,jB,jC,jD,jE,jF]
     refine tkH 7 hHeld ?_
     simp only [jP,jA,jB,jC,jD,jE,jF]
     refine tkH 8 hHeld ?_
     simp only [jP,jA,jB,jC,jD,jE,jF]
     refine tkH 10 hHeld ?_
     simp only [jP,jA,jB,jC,jD,jE,jF]
     refine tkH 11 hHeld ?_
     simp only [jP,jA,jB,jC,jD,jE,jF]
     refine tkH 12 hHeld ?_
     simp only [jP,jA,jB,jC,jD,jE,jF]
     refine wpAnyH_ready (rs:=[9,13]) (by kernel_rfl) (by simp) ?_
     refine AllReadyH.cons (o:=_) rfl (fun K hK=>?_) (AllReadyH.cons (o:=_) rfl (fun K hK=>?_) AllReadyH.nil)
     ·skip
      go_simp
      refine hK.out _ _ (trivial) (fun hHeld=>?_)
      clear hK K
      try simp only [jP,jA,jB,jC,jD,jE,jF]
      refine rdH 13 (by kernel_rfl) rfl (fun K hK=>?_)
      go_simp
      refine hK.out _ _ (trivial) (fun hHeld=>?_)
      clear hK K
      try simp only [jP,jA,jB,jC,jD,jE,jF]
      refine tkH 14 hHeld ?_
      simp only [jP,jA,jB,jC,jD,jE,jF]
      refine rdH 15 (by kernel_rfl) rfl (fun K hK=>?_)
      go_simp
      refine hK.out _ _ (trivial) (fun hHeld=>?_)
      clear hK K
      try simp only [jP,jA,jB,jC,jD,jE,jF]
      obtain ⟨W1,hW1,hB1,hL1⟩:∃ W1,W1=(((w.setCell ⟨g,k*4,none⟩ (.int .i64 y0)).setCell ⟨g,k*4+1,none⟩ (.bool s3)).setCell ⟨g,k*4+2,none⟩ (.slice a3 l3 p3)).setCell ⟨g,k*4+3,none⟩ (.slice a4 l4 p4)∧Below g w9 W1∧Sl 90 g S W1 (E1.set k [.int .i64 y0,.bool s3,.slice a3 l3 p3,.slice a4 l4 p4]):=⟨_,rfl,put4_below hx (Nat.le_refl _) _ _ _ _ _,hL.out.set k hk1 ⟨_,_,_,_,_,_,_,_,rfl⟩⟩
      rw [← hW1]
      clear hW1 f0 f1 f2 f3
      have hj2:k1 < (E1.set k [.int .i64 y0,.bool s3,.slice a3 l3 p3,.slice a4 l4 p4]).length:=by rw [List.length_set];exact hk2
      obtain ⟨_,_,_,_,_,_,_,_,-,v0,v1,v2,v3,g0,g1,g2,g3⟩:=hL1.at k1 hj2
      refine tkH 16 hHeld ?_
      simp only [jP,jA,jB,jC,jD,jE,jF]
      refine rdH 17 (by kernel_rfl) rfl (fun K hK=>?_)
      go_simp
      refine hK.out _ _ (trivial) (fun hHeld=>?_)
      clear hK K
      try simp only [jP,jA,jB,jC,jD,jE,jF]
      refine wpAnyH_done (by kernel_rfl) ?_ _
      refine NoPanic.normal ?_
      have hL2:Hid (Sl 90 g S (put4 W1 g (k1*4) (.int .i64 x0) (.bool s1) (.slice a1 l1 p1) (.slice a2 l2 p2)) (swp E1 k k1)):=by
       have h:=hL1.set k1 hj2 (x0:=.int .i64 x0) (x1:=.bool s1) (x2:=.slice a1 l1 p1) (x3:=.slice a2 l2 p2) ⟨_,_,_,_,_,_,_,_,rfl⟩
       show Sl _ _ _ _ _
       unfold swp
       rw [hX,hY]
       exact h
      have hB2:=put4_below hB1 (Nat.le_refl g) (k1*4) (.int .i64 x0) (.bool s1) (.slice a1 l1 p1) (.slice a2 l2 p2)
      clear v0 v1 v2 v3 g0 g1 g2 g3
      go_wp2_with fail
      go_roundw
      case rel=>exact ⟨k1,swp E1 k k1,by go_num,by omega,by omega,Below.drew hB2,.step k k1 hW.out (by omega) (by omega) (by omega) (by omega),hL2,by
       rw [← hkk]
       exact fun p=>shl_stp (by omega) (by omega) hB.out p⟩
      case measure=>simp [intOf] <;> omega
     ·skip
      go_simp
      refine hK.out _ _ (trivial) (fun hHeld=>?_)
      clear hK K
      try simp only [jP,jA,jB,jC,jD,jE,jF]
      refine rdH 9 (by kernel_rfl) rfl (fun K hK=>?_)
      go_simp
      refine hK.out _ _ (trivial) (fun hHeld=>?_)
      clear hK K
      try simp only [jP,jA,jB,jC,jD,jE,jF]
      refine tkH 14 hHeld ?_
      simp only [jP,jA,jB,jC,jD,jE,jF]
      refine rdH 15 (by kernel_rfl) rfl (fun K hK=>?_)
      go_simp
      refine hK.out _ _ (trivial) (fun hHeld=>?_)
      clear hK K
      try simp only [jP,jA,jB,jC,jD,jE,jF]
      obtain ⟨W1,hW1,hB1,hL1⟩:∃ W1,W1=(((w.setCell ⟨g,k*4,none⟩ (.int .i64 y0)).setCell ⟨g,k*4+1,none⟩ (.bool s3)).setCell ⟨g,k*4+2,none⟩ (.slice a3 l3 p3)).setCell ⟨g,k*4+3,none⟩ (.slice a4 l4 p4)∧Below g w9 W1∧Sl 90 g S W1 (E1.set k [.int .i64 y0,.bool s3,.slice a3 l3 p3,.slice a4 l4 p4]):=⟨_,rfl,put4_below hx (Nat.le_refl _) _ _ _ _ _,hL.out.set k hk1 ⟨_,_,_,_,_,_,_,_,rfl⟩⟩
      rw [← hW1]
      clear hW1 f0 f1 f2 f3
      have hj2:k1 < (E1.set k [.int .i64 y0,.bool s3,.slice a3 l3 p3,.slice a4 l4 p4]).length:=by rw [List.length_set];exact hk2
      obtain ⟨_,_,_,_,_,_,_,_,-,v0,v1,v2,v3,g0,g1,g2,g3⟩:=hL1.at k1 hj2
      refine tkH 16 hHeld ?_
      simp only [jP,jA,jB,jC,jD,jE,jF]
      refine rdH 17 (by kernel_rfl) rfl (fun K hK=>?_)
      go_simp
      refine hK.out _ _ (trivial) (fun hHeld=>?_)
      clear hK K
      try simp only [jP,jA,jB,jC,jD,jE,jF]
      refine wpAnyH_done (by kernel_rfl) ?_ _
      refine NoPanic.normal ?_
      have hL2:Hid (Sl 90 g S (put4 W1 g (k1*4) (.int .i64 x0) (.bool s1) (.slice a1 l1 p1) (.slice a2 l2 p2)) (swp E1 k k1)):=by
       have h:=hL1.set k1 hj2 (x0:=.int .i64 x0) (x1:=.bool s1) (x2:=.slice a1 l1 p1) (x3:=.slice a2 l2 p2) ⟨_,_,_,_,_,_,_,_,rfl⟩
       show Sl _ _ _ _ _
       unfold swp
       rw [hX,hY]
       exact h
      have hB2:=put4_below hB1 (Nat.le_refl g) (k1*4) (.int .i64 x0) (.bool s1) (.slice a1 l1 p1) (.slice a2 l2 p2)
      clear v0 v1 v2 v3 g0 g1 g2 g3
      go_wp2_with fail
      go_roundw
      case rel=>exact ⟨k1,swp E1 k k1,by go_num,by omega,by omega,Below.drew hB2,.step k k1 hW.out (by omega) (by omega) (by omega) (by omega),hL2,by
       rw [← hkk]
       exact fun p=>shl_stp (by omega) (by omega) hB.out p⟩
      case measure=>simp [intOf] <;> omega
    ·have hd2:decide ((k:Int) < (i:Int) - 1)=false:=decide_eq_false (by omega)
     obtain rfl:k=i - 1:=by omega
     go_wp2_with fail
     refine bodyPost_ret (v:=.tuple #[]) (by simp [results,Tryz.results134,go_sem]) rfl ?_
     exact hR.out _ _ ⟨rfl,hx,E1,hW.out,hL.out,shl_up HU.out hai hjb hlo.out hhi.out hB.out⟩
open Go.RowKit Go.Att

set_option linter.unusedSimpArgs false in
set_option maxHeartbeats 4000000 in
set_option maxRecDepth 100000 in
theorem sym_right {w:World} {g S cap a m:Nat} {E:List (List Value)} (hS:Sl 90 g S w E) (ham:a+1 < m) (hb:m+1≤E.length) (hl:E.length≤100000) (hu:Up keyT a m E):
  Calls Tryz.prog 134 #[.slice (some ⟨g,0,none⟩) E.length cap,.int .i64 a,.int .i64 m,.int .i64 ((m:Int)+1),.func (.func 86) #[] #[]] w (GivesB g w fun w'=>∃ E',Sw a (m+1) E E'∧Sl 90 g S w' E'∧Up keyT a (m+1) E'):=by
 refine via fun R hR=>?_
 have e0:(((m:Int) - (a:Int)) == 1)=false:=beqF (by omega)
 have e1:(((m:Int)+1 - (m:Int)) == 1)=true:=beqT (by omega)
 have e1':(m:Int)+1 - (m:Int)=1:=by omega
 have HU:=Lib.hid hu
 clear hu
 go_enter Tryz.func134,Tryz.ntmps134
 go_wp2_with fail
 obtain ⟨w9,rfl⟩:∃ w0:World,w0=w:=⟨_,rfl⟩
 go_loopw [14,15] (fun s t wr=>∃ (i j:Nat),s=.int .i64 i∧t=.int .i64 j∧a≤i∧i≤j∧j≤m∧Ext w9 wr∧Hid (∀ q,a≤q→q < i→keyT (gt E q)≤keyT (gt E m))∧Hid (∀ q,j≤q→q < m→keyT (gt E m) < keyT (gt E q))) (fun s t _=>(intOf t).toNat - (intOf s).toNat)
 case atStart=>exact ⟨a,m,rfl,rfl,Nat.le_refl _,by omega,Nat.le_refl _,Ext.refl _,fun q h1 h2=>by omega,fun q h1 h2=>by omega⟩
 case round=>
  obtain ⟨i,j,rfl,rfl,hai,hij,hjb,hx,hlo,hhi⟩:=hrel
  obtain ⟨w,rfl⟩:∃ w0:World,w0=wr:=⟨_,rfl⟩
  have HL:=Lib.hid (hS.ext hx)
  by_cases hlt:i < j
  ·have hd:decide ((i:Int) < (j:Int))=true:=decide_eq_true (by omega)
   obtain ⟨h,hh⟩:∃ h,(i+j) / 2=h:=⟨_,rfl⟩
   have eh:((i:Int)+(j:Int)) / 2=(h:Int):=by omega
   have hI1:IntKind.i64.wrap (m:Int)=(m:Int):=by rw [IntKind.wrap_i64];omega
   have hI2:(0:Int)≤(m:Int)∧(m:Int) < (E.length:Int):=⟨by omega,by omega⟩
   have hJ1:IntKind.i64.wrap (h:Int)=(h:Int):=by rw [IntKind.wrap_i64];omega
   have hJ2:(0:Int)≤(h:Int)∧(h:Int) < (E.length:Int):=⟨by omega,by omega⟩
   obtain ⟨x0,s1,a1,l1,p1,a2,l2,p2,hX,u0,u1,u2,u3,-,-,-,-⟩:=HL.out.at m (by omega)
   obtain ⟨y0,s3,a3,l3,p3,a4,l4,p4,hY,v0,v1,v2,v3,-,-,-,-⟩:=HL.out.at h (by omega)
   have D1:Hid (Box4 w g (m*4) (.int .i64 x0) (.bool s1) (.slice a1 l1 p1) (.slice a2 l2 p2)):=⟨u0,u1,u2,u3⟩
   have D2:Hid (Box4 w g (h*4) (.int .i64 y0) (.bool s3) (.slice a3 l3 p3) (.slice a4 l4 p4)):=⟨v0,v1,v2,v3⟩
   clear u0 u1 u2 u3 v0 v1 v2 v3
   have hkX:keyT (gt E m)=x0:=by rw [hX];rfl
   have hkY:keyT (gt E h)=y0:=by rw [hY];rfl
   go_wp2_with fail
   have b1:=drew_ext w
   have XE:=b1
   refine wp_region_noPanic ?_
   refine wp_region_held_drew (S:=fun w'=>(w'.cell? ⟨g,m*4,none⟩=some (.int .i64 x0)∧w'.cell? ⟨g,m*4+1,none⟩=some (.bool s1)∧w'.cell? ⟨g,m*4+2,none⟩=some (.slice a1 l1 p1)∧w'.cell? ⟨g,m*4+3,none⟩=some (.slice a2 l2 p2))∧(w'.cell? ⟨g,h*4,none⟩=some (.int .i64 y0)∧w'.cell? ⟨g,h*4+1,none⟩=some (.bool s3)∧w'.cell? ⟨g,h*4+2,none⟩=some (.slice a3 l3 p3)∧w'.cell? ⟨g,h*4+3,none⟩=some (.slice a4 l4 p4))) (by kernel_rfl) (⟨D1.out.ext XE,D2.out.ext XE⟩) (fun hHeld=>?_)
   refine tkH 0 hHeld ?_
   simp only [jP,jA,jB,jC,jD,jE,jF]
   refine tkH 1 hHeld ?_
   simp only [jP,jA,jB,jC,jD,jE,jF]
   refine tkH 2 hHeld ?_
   simp only [jP,jA,jB,jC,jD,jE,jF]
   refine tkH 3 hHeld ?_
   simp only [jP,jA,jB,jC,jD,jE,jF]
   refine tkH 4 hHeld ?_
   simp only [jP,jA,jB,jC,jD,jE,jF]
   refine tkH 5 hHeld ?_
   simp only [jP,jA,jB,jC,jD,jE,jF]
   refine tkH 6 hHeld ?_
   simp only [jP,jA,jB,jC,jD,jE,jF]
   refine tkH 7 hHeld ?_
   simp only [jP,jA,jB,jC,jD,jE,jF]
   refine tkH 8 hHeld ?_
   simp only [jP,jA,jB,jC,jD,jE,jF]
   refine rdH 9 (by kernel_rfl) rfl (fun K hK=>?_)
   go_simp
   go_at_call 86;refine (tcmp_any).mono ?_;rintro e w2 ⟨_,rfl,b2,rfl⟩;(first | have XE:=Ext.trans XE b2 | have XE:=Ext.trans (Ext.trans XE (Ext.alloc _ _)) b2)
   go_wp2_with fail
   refine hK.out _ _ (⟨D1.out.ext XE,D2.out.ext XE⟩) (fun hHeld=>?_)
   clear hK K
   try simp only [jP,jA,jB,jC,jD,jE,jF]
   refine tkH 10 hHeld ?_
   simp only [jP,jA,jB,jC,jD,jE,jF]
   refine tkH 11 hHeld ?_
   simp only [jP,jA,jB,jC,jD,jE,jF]
   refine wpAnyH_done (by kernel_rfl) ?_ _
   refine NoPanic.normal ?_
   by_cases hc:x0 < y0
   ·rw [decide_eq_true (cmp3_neg.2 hc)]
    go_wp2_with fail
    go_roundw
    case rel=>exact ⟨i,h,rfl,rfl,hai,by omega,by omega,Ext.trans hx XE,hlo.out,fun q k1 k2=>by
     rw [hkX]
     refine Int.lt_of_lt_of_le hc ?_
     rw [← hkY]
     exact HU.out.le (by omega) k1 k2⟩
    case measure=>simp [intOf] <;> omega
   ·rw [decide_eq_false (fun h=>hc (cmp3_neg.1 h))]
    go_wp2_with fail
    go_roundw
    case rel=>exact ⟨h+1,j,by go_num,rfl,by omega,by omega,hjb,Ext.trans hx XE,fun q k1 k2=>by
     rw [hkX]
     refine Int.le_trans ?_ (Int.not_lt.1 hc)
     rw [← hkY]
     exact HU.out.le k1 (by omega) (by omega),hhi.out⟩
    case measure=>simp [intOf] <;> omega
  ·obtain rfl:i=j:=by omega
   have hd:decide ((i:Int) < (i:Int))=false:=decide_eq_false (by omega)
   have hxg:Below g w9 w:=Below.mono hx (Nat.le_of_lt hS.lt)
   go_wp2_with fail
   go_loopw [17] (fun s wr=>∃ (k:Nat) (E1:List (List Value)),s=.int .i64 k∧i≤k∧k≤m∧Below g w9 wr∧Hid (Sw a (m+1) E E1)∧Hid (Sl 90 g S wr E1)∧Hid (∀ p,gt E1 p=shr (gt E) m k p)) (fun s _=>(intOf s).toNat)
   case atStart=>exact ⟨m,E,rfl,hjb,Nat.le_refl _,hxg,.refl,HL.out,fun p=>(shr_self _ _ p).symm⟩
   case round=>
    clear hx hxg HL
    obtain ⟨k,E1,rfl,hik,hkm,hx,hW,hL,hB⟩:=hrel
    obtain ⟨w,rfl⟩:∃ w0:World,w0=wr:=⟨_,rfl⟩
    have hlen:=hW.out.len
    by_cases hlt2:i < k
    ·have hd2:decide ((i:Int) < (k:Int))=true:=decide_eq_true (by omega)
     obtain ⟨d,hkk⟩:∃ d,k - 1=d:=⟨_,rfl⟩
     have hI1:IntKind.i64.wrap (k:Int)=(k:Int):=by rw [IntKind.wrap_i64];omega
     have hI2:(0:Int)≤(k:Int)∧(k:Int) < (E.length:Int):=⟨by omega,by omega⟩
     have hJ0:(k:Int) - 1=(d:Int):=by omega
     have hJ1:IntKind.i64.wrap (d:Int)=(d:Int):=by rw [IntKind.wrap_i64];omega
     have hJ2:(0:Int)≤(d:Int)∧(d:Int) < (E.length:Int):=⟨by omega,by omega⟩
     have hIt:((k:Nat):Int).toNat=k:=Int.toNat_natCast k
     have hJt:((d:Nat):Int).toNat=d:=Int.toNat_natCast d
     have hk1:k < E1.length:=by omega
     have hk2:d < E1.length:=by omega
     obtain ⟨x0,s1,a1,l1,p1,a2,l2,p2,hX,u0,u1,u2,u3,f0,f1,f2,f3⟩:=hL.out.at k hk1
     obtain ⟨y0,s3,a3,l3,p3,a4,l4,p4,hY,v0,v1,v2,v3,-,-,-,-⟩:=hL.out.at d hk2
     go_wp2_with fail
     have b1:=drew_ext w
     refine wp_region_noPanic ?_
     refine wp_region_held_drew (S:=fun w'=>True) (by kernel_rfl) (trivial) (fun hHeld=>?_)
     refine tkH 0 hHeld ?_
     simp only [jP,jA,jB,jC,jD,jE,jF]
     refine tkH 1 hHeld ?_
     simp only [jP,jA,jB,jC,jD,jE,jF]
     refine tkH 2 hHeld ?_
     simp only [jP,jA,jB,jC,jD,jE,jF]
     refine tkH 3 hHeld ?_
     simp only [jP,jA,jB,jC,jD,jE,jF]
     refine tkH 4 hHeld ?_
     simp only [jP,jA,jB,jC,jD,jE,jF]
     refine tkH 5 hHeld ?_
     simp only [jP,jA,jB,jC,jD,jE,jF]
     refine tkH 6 hHeld ?_
     simp only [jP,jA,jB,jC,jD,jE,jF]
     refine tkH 7 hHeld ?_
     simp only [jP,jA,jB,jC,jD,jE,jF]
     refine tkH 8 hHeld ?_
     simp only [jP,jA,jB,jC,jD,jE,jF]
     refine tkH 10 hHeld ?_
     simp only [jP,jA,jB,jC,jD,jE,jF]
     refine tkH 11 hHeld ?_
     simp only [jP,jA,jB,jC,jD,jE,jF]
     refine tkH 12 hHeld ?_
     simp only [jP,jA,jB,jC,jD,jE,jF]
     refine wpAnyH_ready (rs:=[9,13]) (by kernel_rfl) (by simp) ?_
     refine AllReadyH.cons (o:=_) rfl (fun K hK=>?_) (AllReadyH.cons (o:=_) rfl (fun K hK=>?_) AllReadyH.nil)
     ·skip
      go_simp
      refine hK.out _ _ (trivial) (fun hHeld=>?_)
      clear hK K
      try simp only [jP,jA,jB,jC,jD,jE,jF]
      refine rdH 13 (by kernel_rfl) rfl (fun K hK=>?_)
      go_simp
      refine hK.out _ _ (trivial) (fun hHeld=>?_)
      clear hK K
      try simp only [jP,jA,jB,jC,jD,jE,jF]
      refine tkH 14 hHeld ?_
      simp only [jP,jA,jB,jC,jD,jE,jF]
      refine rdH 15 (by kernel_rfl) rfl (fun K hK=>?_)
      go_simp
      refine hK.out _ _ (trivial) (fun hHeld=>?_)
      clear hK K
      try simp only [jP,jA,jB,jC,jD,jE,jF]
      obtain ⟨W1,hW1,hB1,hL1⟩:∃ W1,W1=(((w.setCell ⟨g,k*4,none⟩ (.int .i64 y0)).setCell ⟨g,k*4+1,none⟩ (.bool s3)).setCell ⟨g,k*4+2,none⟩ (.slice a3 l3 p3)).setCell ⟨g,k*4+3,none⟩ (.slice a4 l4 p4)∧Below g w9 W1∧Sl 90 g S W1 (E1.set k [.int .i64 y0,.bool s3,.slice a3 l3 p3,.slice a4 l4 p4]):=⟨_,rfl,put4_below hx (Nat.le_refl _) _ _ _ _ _,hL.out.set k hk1 ⟨_,_,_,_,_,_,_,_,rfl⟩⟩
      rw [← hW1]
      clear hW1 f0 f1 f2 f3
      have hj2:d < (E1.set k [.int .i64 y0,.bool s3,.slice a3 l3 p3,.slice a4 l4 p4]).length:=by rw [List.length_set];exact hk2
      obtain ⟨_,_,_,_,_,_,_,_,-,v0,v1,v2,v3,g0,g1,g2,g3⟩:=hL1.at d hj2
      refine tkH 16 hHeld ?_
      simp only [jP,jA,jB,jC,jD,jE,jF]
      refine rdH 17 (by kernel_rfl) rfl (fun K hK=>?_)
      go_simp
      refine hK.out _ _ (trivial) (fun hHeld=>?_)
      clear hK K
      try simp only [jP,jA,jB,jC,jD,jE,jF]
      refine wpAnyH_done (by kernel_rfl) ?_ _
      refine NoPanic.normal ?_
      have hL2:Hid (Sl 90 g S (put4 W1 g (d*4) (.int .i64 x0) (.bool s1) (.slice a1 l1 p1) (.slice a2 l2 p2)) (swp E1 k d)):=by
       have h:=hL1.set d hj2 (x0:=.int .i64 x0) (x1:=.bool s1) (x2:=.slice a1 l1 p1) (x3:=.slice a2 l2 p2) ⟨_,_,_,_,_,_,_,_,rfl⟩
       show Sl _ _ _ _ _
       unfold swp
       rw [hX,hY]
       exact h
      have hB2:=put4_below hB1 (Nat.le_refl g) (d*4) (.int .i64 x0) (.bool s1) (.slice a1 l1 p1) (.slice a2 l2 p2)
      clear v0 v1 v2 v3 g0 g1 g2 g3
      go_wp2_with fail
      go_roundw
      case rel=>exact ⟨d,swp E1 k d,by go_num,by omega,by omega,Below.drew hB2,.step k d hW.out (by omega) (by omega) (by omega) (by omega),hL2,by
       rw [← hkk]
       exact fun p=>shr_stp hkm (by omega) (by omega) hB.out p⟩
      case measure=>simp [intOf] <;> omega
     ·skip
      go_simp
      refine hK.out _ _ (trivial) (fun hHeld=>?_)
      clear hK K
      try simp only [jP,jA,jB,jC,jD,jE,jF]
      refine rdH 9 (by kernel_rfl) rfl (fun K hK=>?_)
      go_simp
      refine hK.out _ _ (trivial) (fun hHeld=>?_)
      clear hK K
      try simp only [jP,jA,jB,jC,jD,jE,jF]
      refine tkH 14 hHeld ?_
      simp only [jP,jA,jB,jC,jD,jE,jF]
      refine rdH 15 (by kernel_rfl) rfl (fun K hK=>?_)
      go_simp
      refine hK.out _ _ (trivial) (fun hHeld=>?_)
      clear hK K
      try simp only [jP,jA,jB,jC,jD,jE,jF]
      obtain ⟨W1,hW1,hB1,hL1⟩:∃ W1,W1=(((w.setCell ⟨g,k*4,none⟩ (.int .i64 y0)).setCell ⟨g,k*4+1,none⟩ (.bool s3)).setCell ⟨g,k*4+2,none⟩ (.slice a3 l3 p3)).setCell ⟨g,k*4+3,none⟩ (.slice a4 l4 p4)∧Below g w9 W1∧Sl 90 g S W1 (E1.set k [.int .i64 y0,.bool s3,.slice a3 l3 p3,.slice a4 l4 p4]):=⟨_,rfl,put4_below hx (Nat.le_refl _) _ _ _ _ _,hL.out.set k hk1 ⟨_,_,_,_,_,_,_,_,rfl⟩⟩
      rw [← hW1]
      clear hW1 f0 f1 f2 f3
      have hj2:d < (E1.set k [.int .i64 y0,.bool s3,.slice a3 l3 p3,.slice a4 l4 p4]).length:=by rw [List.length_set];exact hk2
      obtain ⟨_,_,_,_,_,_,_,_,-,v0,v1,v2,v3,g0,g1,g2,g3⟩:=hL1.at d hj2
      refine tkH 16 hHeld ?_
      simp only [jP,jA,jB,jC,jD,jE,jF]
      refine rdH 17 (by kernel_rfl) rfl (fun K hK=>?_)
      go_simp
      refine hK.out _ _ (trivial) (fun hHeld=>?_)
      clear hK K
      try simp only [jP,jA,jB,jC,jD,jE,jF]
      refine wpAnyH_done (by kernel_rfl) ?_ _
      refine NoPanic.normal ?_
      have hL2:Hid (Sl 90 g S (put4 W1 g (d*4) (.int .i64 x0) (.bool s1) (.slice a1 l1 p1) (.slice a2 l2 p2)) (swp E1 k d)):=by
       have h:=hL1.set d hj2 (x0:=.int .i64 x0) (x1:=.bool s1) (x2:=.slice a1 l1 p1) (x3:=.slice a2 l2 p2) ⟨_,_,_,_,_,_,_,_,rfl⟩
       show Sl _ _ _ _ _
       unfold swp
       rw [hX,hY]
       exact h
      have hB2:=put4_below hB1 (Nat.le_refl g) (d*4) (.int .i64 x0) (.bool s1) (.slice a1 l1 p1) (.slice a2 l2 p2)
      clear v0 v1 v2 v3 g0 g1 g2 g3
      go_wp2_with fail
      go_roundw
      case rel=>exact ⟨d,swp E1 k d,by go_num,by omega,by omega,Below.drew hB2,.step k d hW.out (by omega) (by omega) (by omega) (by omega),hL2,by
       rw [← hkk]
       exact fun p=>shr_stp hkm (by omega) (by omega) hB.out p⟩
      case measure=>simp [intOf] <;> omega
    ·have hd2:decide ((i:Int) < (k:Int))=false:=decide_eq_false (by omega)
     obtain rfl:k=i:=by omega
     go_wp2_with fail
     refine bodyPost_ret (v:=.tuple #[]) (by simp [results,Tryz.results134,go_sem]) rfl ?_
     exact hR.out _ _ ⟨rfl,hx,E1,hW.out,hL.out,shr_up HU.out hai hjb hlo.out hhi.out hB.out⟩
open Go.RowKit Go.Att

def SymOk (g S cap:Nat) (w:World) (E:List (List Value)) (a m b:Nat):Prop:=
 Calls Tryz.prog 134 #[.slice (some ⟨g,0,none⟩) E.length cap,.int .i64 a,.int .i64 m,.int .i64 b,.func (.func 86) #[] #[]] w (GivesB g w fun w'=>∃ E',Sw a b E E'∧Sl 90 g S w' E'∧Up keyT a b E')
set_option linter.unusedSimpArgs false in
set_option maxHeartbeats 4000000 in
set_option maxRecDepth 100000 in
theorem sym_gen {w:World} {g S cap a m b:Nat} {E:List (List Value)} (hS:Sl 90 g S w E) (ham:a+1 < m) (hmb:m+1 < b) (hb:b≤E.length) (hl:E.length≤100000) (hu:Up keyT a m E) (hv:Up keyT m b E)
  (IH:∀ (w':World) (F:List (List Value)) (a' m' b':Nat),F.length=E.length→b' - a' < b - a→Sl 90 g S w' F→a' < m'→m' < b'→b'≤F.length→Up keyT a' m' F→Up keyT m' b' F→SymOk g S cap w' F a' m' b'):SymOk g S cap w E a m b:=by
 unfold SymOk
 refine via fun R hR=>?_
 have HU:=Lib.hid hu
 have HV:=Lib.hid hv
 have HIH:Hid (∀ (w':World) (F:List (List Value)) (a' m' b':Nat),F.length=E.length→b' - a' < b - a→Sl 90 g S w' F→a' < m'→m' < b'→b'≤F.length→Up keyT a' m' F→Up keyT m' b' F→Calls Tryz.prog 134 #[.slice (some ⟨g,0,none⟩) E.length cap,.int .i64 a',.int .i64 m',.int .i64 b',.func (.func 86) #[] #[]] w' (GivesB g w' fun w''=>∃ E',Sw a' b' F E'∧Sl 90 g S w'' E'∧Up keyT a' b' E')):=fun w' F a' m' b' h1 h2 h3 h4 h5 h6 h7 h8=>by
  have h:=IH w' F a' m' b' h1 h2 h3 h4 h5 h6 h7 h8
  unfold SymOk at h
  rwa [h1] at h
 clear hu hv IH
 have e0:(((m:Int) - (a:Int)) == 1)=false:=beqF (by omega)
 have e1:(((b:Int) - (m:Int)) == 1)=false:=beqF (by omega)
 obtain ⟨d,hd⟩:∃ d,(a+b) / 2=d:=⟨_,rfl⟩
 have ed:((a:Int)+(b:Int)) / 2=(d:Int):=by omega
 obtain ⟨n,hn⟩:∃ n,d+m=n:=⟨_,rfl⟩
 have en:(d:Int)+(m:Int)=(n:Int):=by omega
 obtain ⟨lo,hi,hlh⟩:∃ lo hi:Nat,(d < m∧lo+b=n∧hi=d)∨(m≤d∧lo=a∧hi=m):=by
  by_cases h:d < m
  ·exact ⟨n - b,d,.inl ⟨h,by omega,rfl⟩⟩
  ·exact ⟨a,m,.inr ⟨by omega,rfl,rfl⟩⟩
 go_enter Tryz.func134,Tryz.ntmps134
 go_upto_if 140 with (fail)
 go_cut [20,21] (fun s t wx=>s=.int .i64 lo∧t=.int .i64 hi∧wx=w)
 case first=>as_aux_lemma=>
  rcases hlh with ⟨h,h1,h2⟩ | ⟨h,h1,h2⟩
  ·have hdd:decide ((d:Int) < (m:Int))=true:=decide_eq_true (by omega)
   have e2:(n:Int) - (b:Int)=(lo:Int):=by omega
   go_wp2_with fail
   go_meet
   exact ⟨rfl,by rw [h2],rfl⟩
  ·have hdd:decide ((d:Int) < (m:Int))=false:=decide_eq_false (by omega)
   go_wp2_with fail
   go_meet
   exact ⟨by rw [h1],by rw [h2],rfl⟩
 case rest=>as_aux_lemma=>
  obtain ⟨rfl,rfl,hwc⟩:=hcut
  have hwc2:=hwc.symm
  clear hwc
  subst hwc2
  obtain ⟨p,hp⟩:∃ p,n - 1=p:=⟨_,rfl⟩
  have ep:(n:Int) - 1=(p:Int):=by omega
  obtain ⟨w9,rfl⟩:∃ w0:World,w0=w:=⟨_,rfl⟩
  go_wp2_with fail
  go_loopw [20,21] (fun u v wr=>∃ (s r:Nat),u=.int .i64 s∧v=.int .i64 r∧lo≤s∧s≤r∧r≤hi∧Ext w9 wr∧Hid (s=lo∨keyT (gt E (s - 1))≤keyT (gt E (p - (s - 1))))∧Hid (r=hi∨keyT (gt E (p - r)) < keyT (gt E r))) (fun u v _=>(intOf v).toNat - (intOf u).toNat)
  case atStart=>exact ⟨lo,hi,rfl,rfl,Nat.le_refl _,by omega,Nat.le_refl _,Ext.refl _,.inl rfl,.inl rfl⟩
  case round=>
   obtain ⟨s,r,rfl,rfl,hls,hsr,hrh,hx,hlo,hhi⟩:=hrel
   obtain ⟨w,rfl⟩:∃ w0:World,w0=wr:=⟨_,rfl⟩
   have HL:=Lib.hid (hS.ext hx)
   by_cases hlt:s < r
   ·as_aux_lemma=>
    have hdd:decide ((s:Int) < (r:Int))=true:=decide_eq_true (by omega)
    obtain ⟨c,hc⟩:∃ c,(s+r) / 2=c:=⟨_,rfl⟩
    have ec:((s:Int)+(r:Int)) / 2=(c:Int):=by omega
    obtain ⟨x,hxx⟩:∃ x,p - c=x:=⟨_,rfl⟩
    have hx1:m≤x∧x < b∧x+c=p∧a≤c∧c < m:=by omega
    have ex:(p:Int) - (c:Int)=(x:Int):=by omega
    have hI1:IntKind.i64.wrap (x:Int)=(x:Int):=by rw [IntKind.wrap_i64];omega
    have hI2:(0:Int)≤(x:Int)∧(x:Int) < (E.length:Int):=⟨by omega,by omega⟩
    have hJ1:IntKind.i64.wrap (c:Int)=(c:Int):=by rw [IntKind.wrap_i64];omega
    have hJ2:(0:Int)≤(c:Int)∧(c:Int) < (E.length:Int):=⟨by omega,by omega⟩
    obtain ⟨x0,s1,a1,l1,p1,a2,l2,p2,hX,u0,u1,u2,u3,-,-,-,-⟩:=HL.out.at x (by omega)
    obtain ⟨y0,s3,a3,l3,p3,a4,l4,p4,hY,v0,v1,v2,v3,-,-,-,-⟩:=HL.out.at c (by omega)
    have D1:Hid (Box4 w g (x*4) (.int .i64 x0) (.bool s1) (.slice a1 l1 p1) (.slice a2 l2 p2)):=⟨u0,u1,u2,u3⟩
    have D2:Hid (Box4 w g (c*4) (.int .i64 y0) (.bool s3) (.slice a3 l3 p3) (.slice a4 l4 p4)):=⟨v0,v1,v2,v3⟩
    clear u0 u1 u2 u3 v0 v1 v2 v3
    have hkX:keyT (gt E x)=x0:=by rw [hX];rfl
    have hkY:keyT (gt E c)=y0:=by rw [hY];rfl
    go_wp2_with fail
    have b1:=drew_ext w
    have XE:=b1
    refine wp_region_noPanic ?_
    refine wp_region_held_drew (S:=fun w'=>(w'.cell? ⟨g,x*4,none⟩=some (.int .i64 x0)∧w'.cell? ⟨g,x*4+1,none⟩=some (.bool s1)∧w'.cell? ⟨g,x*4+2,none⟩=some (.slice a1 l1 p1)∧w'.cell? ⟨g,x*4+3,none⟩=some (.slice a2 l2 p2))∧(w'.cell? ⟨g,c*4,none⟩=some (.int .i64 y0)∧w'.cell? ⟨g,c*4+1,none⟩=some (.bool s3)∧w'.cell? ⟨g,c*4+2,none⟩=some (.slice a3 l3 p3)∧w'.cell? ⟨g,c*4+3,none⟩=some (.slice a4 l4 p4))) (by kernel_rfl) (⟨D1.out.ext XE,D2.out.ext XE⟩) (fun hHeld=>?_)
    refine tkH 0 hHeld ?_
    simp only [jP,jA,jB,jC,jD,jE,jF]
    refine tkH 1 hHeld ?_
    simp only [jP,jA,jB,jC,jD,jE,jF]
    refine tkH 2 hHeld ?_
    simp only [jP,jA,jB,jC,jD,jE,jF]
    refine tkH 3 hHeld ?_
    simp only [jP,jA,jB,jC,jD,jE,jF]
    refine tkH 4 hHeld ?_
    simp only [jP,jA,jB,jC,jD,jE,jF]
    refine tkH 5 hHeld ?_
    simp only [jP,jA,jB,jC,jD,jE,jF]
    refine tkH 6 hHeld ?_
    simp only [jP,jA,jB,jC,jD,jE,jF]
    refine tkH 7 hHeld ?_
    simp only [jP,jA,jB,jC,jD,jE,jF]
    refine tkH 8 hHeld ?_
    simp only [jP,jA,jB,jC,jD,jE,jF]
    refine tkH 9 hHeld ?_
    simp only [jP,jA,jB,jC,jD,jE,jF]
    refine tkH 10 hHeld ?_
    simp only [jP,jA,jB,jC,jD,jE,jF]
    refine rdH 11 (by kernel_rfl) rfl (fun K hK=>?_)
    go_simp
    go_at_call 86;refine (tcmp_any).mono ?_;rintro e w2 ⟨_,rfl,b2,rfl⟩;(first | have XE:=Ext.trans XE b2 | have XE:=Ext.trans (Ext.trans XE (Ext.alloc _ _)) b2)
    go_wp2_with fail
    refine hK.out _ _ (⟨D1.out.ext XE,D2.out.ext XE⟩) (fun hHeld=>?_)
    clear hK K
    try simp only [jP,jA,jB,jC,jD,jE,jF]
    refine tkH 12 hHeld ?_
    simp only [jP,jA,jB,jC,jD,jE,jF]
    refine tkH 13 hHeld ?_
    simp only [jP,jA,jB,jC,jD,jE,jF]
    refine wpAnyH_done (by kernel_rfl) ?_ _
    refine NoPanic.normal ?_
    by_cases hcc:x0 < y0
    ·as_aux_lemma=>
     rw [decide_eq_true (cmp3_neg.2 hcc)]
     go_wp2_with fail
     go_roundw
     case rel=>exact ⟨s,c,rfl,rfl,hls,by omega,by omega,Ext.trans hx XE,hlo.out,.inr (by rw [hxx,hkX,hkY];exact hcc)⟩
     case measure=>simp [intOf] <;> omega
    ·as_aux_lemma=>
     rw [decide_eq_false (fun h=>hcc (cmp3_neg.1 h))]
     go_wp2_with fail
     go_roundw
     case rel=>exact ⟨c+1,r,by go_num,rfl,by omega,by omega,hrh,Ext.trans hx XE,.inr (by rw [Nat.add_sub_cancel,hxx,hkX,hkY];exact Int.not_lt.1 hcc),hhi.out⟩
     case measure=>simp [intOf] <;> omega
   ·obtain rfl:s=r:=by omega
    have hdd:decide ((s:Int) < (s:Int))=false:=decide_eq_false (by omega)
    have hxg:Below g w9 w:=Below.mono hx (Nat.le_of_lt hS.lt)
    obtain ⟨e,he⟩:∃ e,n - s=e:=⟨_,rfl⟩
    have ee:(n:Int) - (s:Int)=(e:Int):=by omega
    have hse:a≤s∧s≤m∧m≤e∧e≤b∧d+m=e+s∧s≤d∧d≤e:=by omega
    have KLO:s=a∨e=b∨keyT (gt E (s - 1))≤keyT (gt E e):=by
     by_cases h0:s=a
     ·exact .inl h0
     ·rcases hlo.out with h | h
      ·exact .inr (.inl (by omega))
      ·rw [show p - (s - 1)=e by omega] at h
       exact .inr (.inr h)
    have KHI:s=m∨e=m∨keyT (gt E (e - 1)) < keyT (gt E s):=by
     rcases hhi.out with h | h
     ·by_cases h0:s=m
      ·exact .inl h0
      ·exact .inr (.inl (by omega))
     ·rw [show p - s=e - 1 by omega] at h
      exact .inr (.inr h)
    have HPT:Hid (∀ F:List (List Value),(∀ p,gt F p=rot (gt E) s m e p)→Up keyT a s F∧Up keyT s d F∧Up keyT d e F∧Up keyT e b F∧∀ p q,a≤p→p < d→d≤q→q < b→keyT (gt F p)≤keyT (gt F q)):=fun F hF=>rot_parts HU.out HV.out (by omega) (by omega) (by omega) (by omega) (by omega) hF KLO KHI
    clear KLO KHI hlo hhi hlt hrh hls hlh hsr
    go_upto_region 39 with (fail)
    go_cut [185,20,24] (fun t u v wx=>t=.bool (decide (s < m∧m < e))∧u=.int .i64 s∧v=.int .i64 e∧wx=w)
    case first=>as_aux_lemma=>
     by_cases c1:s < m
     ·have d1:decide ((s:Int) < (m:Int))=true:=decide_eq_true (by omega)
      have d3:decide (s < m)=true:=decide_eq_true c1
      by_cases c2:m < e
      ·have d2:decide ((m:Int) < (e:Int))=true:=decide_eq_true (by omega)
       have d4:decide (m < e)=true:=decide_eq_true c2
       go_wp2_with fail
       go_meet
       exact ⟨by rw [decide_eq_true ⟨c1,c2⟩],rfl,rfl,rfl⟩
      ·have d2:decide ((m:Int) < (e:Int))=false:=decide_eq_false (by omega)
       have d4:decide (m < e)=false:=decide_eq_false c2
       go_wp2_with fail
       go_meet
       exact ⟨by rw [decide_eq_false fun h=>c2 h.2],rfl,rfl,rfl⟩
     ·have d1:decide ((s:Int) < (m:Int))=false:=decide_eq_false (by omega)
      have d3:decide (s < m)=false:=decide_eq_false c1
      go_wp2_with fail
      go_meet
      exact ⟨by rw [decide_eq_false fun h=>c1 h.1],rfl,rfl,rfl⟩
    case rest=>as_aux_lemma=>
    obtain ⟨rfl,rfl,rfl,hwc⟩:=hcut
    have hwc2:=hwc.symm
    clear hwc
    subst hwc2
    go_upto_if 185 with (fail)
    go_cut [20,24] (fun u v wx=>u=.int .i64 s∧v=.int .i64 e∧Below g w9 wx∧∃ F:List (List Value),F.length=E.length∧Hid (Sw a b E F)∧Hid (Sl 90 g S wx F)∧Hid (∀ p,gt F p=rot (gt E) s m e p))
    case first=>as_aux_lemma=>
     by_cases cc:s < m∧m < e
     ·rw [decide_eq_true cc]
      go_wp2_with fail
      refine (rotate_any HL.out cc.1 cc.2 (by omega) hl).mono ?_
      rintro e w1 ⟨rfl,hb1,E2,hW2,hL2,hB2⟩
      go_wp2_with fail
      go_meet
      exact ⟨rfl,rfl,hxg.trans hb1,E2,hW2.len,hW2.mono (by omega) (by omega),hL2,hB2⟩
     ·rw [decide_eq_false cc]
      go_wp2_with fail
      go_meet
      exact ⟨rfl,rfl,hxg,E,rfl,.refl,HL.out,fun p=>(rot_none (by omega) (by omega) (by omega) p).symm⟩
    case rest=>as_aux_lemma=>
     obtain ⟨rfl,rfl,hx2,F,hFl,hWF,hLF,hBF⟩:=hcut
     obtain ⟨uA,uB,uC,uD,HX⟩:=HPT.out F hBF.out
     have UA:=Lib.hid uA
     have UB:=Lib.hid uB
     have UC:=Lib.hid uC
     have UD:=Lib.hid uD
     have HXX:=Lib.hid HX
     clear uA uB uC uD HX hBF HPT hx hxg HL
     generalize wc=w at*
     go_upto_region 41 with (fail)
     go_cut [199,18,24] (fun t u v wx=>t=.bool (decide (a < s∧s < d))∧u=.int .i64 d∧v=.int .i64 e∧wx=w)
     case first=>as_aux_lemma=>
      by_cases c1:a < s
      ·have d1:decide ((a:Int) < (s:Int))=true:=decide_eq_true (by omega)
       have d3:decide (a < s)=true:=decide_eq_true c1
       by_cases c2:s < d
       ·have d2:decide ((s:Int) < (d:Int))=true:=decide_eq_true (by omega)
        have d4:decide (s < d)=true:=decide_eq_true c2
        go_wp2_with fail
        go_meet
        exact ⟨by rw [decide_eq_true ⟨c1,c2⟩],rfl,rfl,rfl⟩
       ·have d2:decide ((s:Int) < (d:Int))=false:=decide_eq_false (by omega)
        have d4:decide (s < d)=false:=decide_eq_false c2
        go_wp2_with fail
        go_meet
        exact ⟨by rw [decide_eq_false fun h=>c2 h.2],rfl,rfl,rfl⟩
      ·have d1:decide ((a:Int) < (s:Int))=false:=decide_eq_false (by omega)
       have d3:decide (a < s)=false:=decide_eq_false c1
       go_wp2_with fail
       go_meet
       exact ⟨by rw [decide_eq_false fun h=>c1 h.1],rfl,rfl,rfl⟩
     case rest=>as_aux_lemma=>
     obtain ⟨rfl,rfl,rfl,hwc⟩:=hcut
     have hwc2:=hwc.symm
     clear hwc
     subst hwc2
     go_upto_if 199 with (fail)
     go_cut [18,24] (fun u v wx=>u=.int .i64 d∧v=.int .i64 e∧Below g w9 wx∧∃ G:List (List Value),G.length=E.length∧Hid (Sw a d F G)∧Hid (Sl 90 g S wx G)∧Hid (Up keyT a d G))
     case first=>as_aux_lemma=>
      by_cases cc:a < s∧s < d
      ·rw [decide_eq_true cc]
       go_wp2_with fail
       refine (HIH.out w F a s d hFl (by omega) hLF.out cc.1 cc.2 (by omega) UA.out UB.out).mono ?_
       rintro e w1 ⟨rfl,hb1,E2,hW2,hL2,hB2⟩
       go_wp2_with fail
       go_meet
       exact ⟨rfl,rfl,hx2.trans hb1,E2,hW2.len.trans hFl,hW2,hL2,hB2⟩
      ·rw [decide_eq_false cc]
       go_wp2_with fail
       go_meet
       refine ⟨rfl,rfl,hx2,F,hFl,.refl,hLF.out,?_⟩
       by_cases c1:a < s
       ·exact UA.out.sub (Nat.le_refl _) (by omega)
       ·exact UB.out.sub (by omega) (Nat.le_refl _)
     case rest=>as_aux_lemma=>
      obtain ⟨rfl,rfl,hx3,G,hGl,hWG,hLG,hUG⟩:=hcut
      generalize wc=w at*
      have HMU:Hid (∀ H:List (List Value),Sw d b G H→Up keyT d b H→Up keyT a b H):=fun H h1 h2=>merge_up (by omega) (by omega) (by omega) hWG.out hUG.out h1 h2 HXX.out
      have UC2:Hid (Up keyT d e G):=UC.out.keep hWG.out (by omega) (.inr (Nat.le_refl _))
      have UD2:Hid (Up keyT e b G):=UD.out.keep hWG.out (by omega) (.inr (by omega))
      have HWW:Hid (Sw a b E G):=hWF.out.trans (hWG.out.mono (Nat.le_refl _) (by omega))
      by_cases c1:d < e
      ·have d1:decide ((d:Int) < (e:Int))=true:=decide_eq_true (by omega)
       by_cases c2:e < b
       ·have d2:decide ((e:Int) < (b:Int))=true:=decide_eq_true (by omega)
        go_wp2_with fail
        refine (HIH.out w G d e b hGl (by omega) hLG.out c1 c2 (by omega) UC2.out UD2.out).mono ?_
        rintro e w1 ⟨rfl,hb1,E2,hW2,hL2,hB2⟩
        go_wp2_with fail
        go_end0
        exact hR.out _ _ ⟨rfl,hx3.trans hb1,E2,HWW.out.trans (hW2.mono (by omega) (Nat.le_refl _)),hL2,HMU.out _ hW2 hB2⟩
       ·have d2:decide ((e:Int) < (b:Int))=false:=decide_eq_false (by omega)
        go_wp2_with fail
        go_end0
        exact hR.out _ _ ⟨rfl,hx3,G,HWW.out,hLG.out,HMU.out _ .refl (UC2.out.sub (Nat.le_refl _) (by omega))⟩
      ·have d1:decide ((d:Int) < (e:Int))=false:=decide_eq_false (by omega)
       go_wp2_with fail
       go_end0
       exact hR.out _ _ ⟨rfl,hx3,G,HWW.out,hLG.out,HMU.out _ .refl (UD2.out.sub (by omega) (Nat.le_refl _))⟩
theorem sym_any {g S cap:Nat}:∀ (k:Nat) (w:World) (E:List (List Value)) (a m b:Nat),b - a≤k→Sl 90 g S w E→a < m→m < b→b≤E.length→E.length≤100000→Up keyT a m E→Up keyT m b E→SymOk g S cap w E a m b
 | 0,w,E,a,m,b,hk,_,h1,h2,_,_,_,_=>by omega
 | k+1,w,E,a,m,b,hk,hS,h1,h2,hb,hl,hu,hv=>by
  by_cases c1:m=a+1
  ·subst c1
   unfold SymOk
   exact sym_left hS h2 hb hl hv
  ·by_cases c2:b=m+1
   ·subst c2
    unfold SymOk
    exact sym_right hS (by omega) hb hl hu
   ·exact sym_gen hS (by omega) (by omega) hb hl hu hv fun w' F a' m' b' hF hlt hS' h1' h2' hb' hu' hv'=>sym_any k w' F a' m' b' (by omega) hS' h1' h2' hb' (by omega) hu' hv'
open Go.RowKit Go.Att

theorem sym_to {w:World} {g S cap L:Nat} {E:List (List Value)} (a m b:Nat) (hL:L=E.length) (hS:Sl 90 g S w E) (h1:a < m) (h2:m < b) (hb:b≤E.length) (hl:E.length≤100000) (hu:Up keyT a m E) (hv:Up keyT m b E):
  Calls Tryz.prog 134 #[.slice (some ⟨g,0,none⟩) L cap,.int .i64 a,.int .i64 m,.int .i64 b,.func (.func 86) #[] #[]] w (GivesB g w fun w'=>∃ E',Sw a b E E'∧Sl 90 g S w' E'∧Up keyT a b E'):=by
 subst hL
 exact sym_any (b - a) w E a m b (Nat.le_refl _) hS h1 h2 hb hl hu hv
theorem insort_to {w:World} {g S cap L:Nat} {E:List (List Value)} (a b:Nat) (hL:L=E.length) (hS:Sl 90 g S w E) (hab:a≤b) (hb:b≤E.length) (hl:E.length≤100000):
  Calls Tryz.prog 133 #[.slice (some ⟨g,0,none⟩) L cap,.int .i64 a,.int .i64 b,.func (.func 86) #[] #[]] w (GivesB g w fun w'=>∃ E',Sw a b E E'∧Sl 90 g S w' E'∧Up keyT a b E'):=by
 subst hL
 exact insort_any hS hab hb hl
def Blk (k n:Nat) (E:List (List Value)):Prop:=∀ x,k ∣ x→Up keyT x (min (x+k) n) E
theorem dvd_near {k x a:Nat} (hx:k ∣ x) (ha:k ∣ a) (h1:a≤x) (h2:x < a+k):x=a:=by
 have h:=Nat.dvd_sub hx ha
 have:=Nat.eq_zero_of_dvd_of_lt h (by omega)
 omega
theorem dvd_gap {k x a:Nat} (hx:k ∣ x) (ha:k ∣ a) (h:x < a):x+k≤a:=by
 refine Nat.le_of_not_lt fun h2=>?_
 have:=dvd_near ha hx (by omega) h2
 omega
set_option maxHeartbeats 4000000 in
set_option maxRecDepth 100000 in
theorem stable_any {w:World} {g S cap:Nat} {E:List (List Value)} (hS:Sl 90 g S w E) (hl:E.length≤100000):
  Calls Tryz.prog 110 #[.slice (some ⟨g,0,none⟩) E.length cap,.int .i64 E.length,.func (.func 86) #[] #[]] w (GivesB g w fun w'=>∃ E',Sw 0 E.length E E'∧Sl 90 g S w' E'∧Up keyT 0 E.length E'):=by
 refine via fun R hR=>?_
 go_enter Tryz.func110,Tryz.ntmps110
 go_wp2_with fail
 obtain ⟨w9,rfl⟩:∃ w0:World,w0=w:=⟨_,rfl⟩
 obtain ⟨n,hn⟩:∃ n,E.length=n:=⟨_,rfl⟩
 rw [hn] at hl hR ⊢
 go_loopw [7,8] (fun s t wr=>∃ (a:Nat) (E1:List (List Value)),s=.int .i64 a∧t=.int .i64 ((a:Int)+20)∧a≤n∧20 ∣ a∧Below g w9 wr∧Hid (Sw 0 n E E1)∧Hid (Sl 90 g S wr E1)∧Hid (∀ x,20 ∣ x→x < a→Up keyT x (x+20) E1)) (fun s _ _=>n - (intOf s).toNat)
 case atStart=>exact ⟨0,E,rfl,rfl,Nat.zero_le _,⟨0,rfl⟩,Below.refl _ _,.refl,hS,fun x _ h=>by omega⟩
 case round=>
  obtain ⟨a,E1,rfl,rfl,han,hda,hx,hW,hL,hB⟩:=hrel
  have hlen:=hW.out.len.trans hn
  by_cases hlt:a+20≤n
  ·have hd:decide ((a:Int)+20≤(n:Int))=true:=decide_eq_true (by omega)
   obtain ⟨b,hb⟩:∃ b,a+20=b:=⟨_,rfl⟩
   have eb:(a:Int)+20=(b:Int):=by omega
   go_wp2_with fail
   refine (insort_to a b hlen.symm hL.out (by omega) (by omega) (by omega)).mono ?_
   rintro e w1 ⟨rfl,hb1,E2,hW2,hL2,hU2⟩
   go_wp2_with fail
   go_roundw
   case rel=>exact ⟨b,E2,rfl,by go_num,by omega,by omega,hx.trans hb1,hW.out.trans (hW2.mono (Nat.zero_le _) (by omega)),hL2,fun x h1 h2=>by
    by_cases h:x < a
    ·exact (hB.out x h1 h).keep hW2 (by omega) (.inl (by omega))
    ·obtain rfl:x=a:=by omega
     rw [hb]
     exact hU2⟩
   case measure=>simp [intOf] <;> omega
  ·have hd:decide ((a:Int)+20≤(n:Int))=false:=decide_eq_false (by omega)
   go_wp2_with fail
   refine (insort_to a n hlen.symm hL.out (by omega) (by omega) (by omega)).mono ?_
   rintro e w1 ⟨rfl,hb1,E2,hW2,hL2,hU2⟩
   have hBK:Hid (Blk 20 n E2):=fun x h1=>by
    by_cases h:x < a
    ·rw [Nat.min_eq_left (by omega)]
     exact (hB.out x h1 h).keep hW2 (by omega) (.inl (by omega))
    ·by_cases h2:x=a
     ·subst h2
      rw [Nat.min_eq_right (by omega)]
      exact hU2
     ·exact Up.one x (by omega) E2
   have hW0:Hid (Sw 0 n E E2):=hW.out.trans (hW2.mono (Nat.zero_le _) (Nat.le_refl _))
   have hL0:=Lib.hid hL2
   have hx0:=hx.trans hb1
   clear hB hW hL hx hU2 hW2 hL2 hb1
   go_wp2_with fail
   go_loopw [6] (fun s wr=>∃ (k:Nat) (E1:List (List Value)),s=.int .i64 k∧0 < k∧k≤200000∧Below g w9 wr∧Hid (Sw 0 n E E1)∧Hid (Sl 90 g S wr E1)∧Hid (Blk k n E1)) (fun s _=>n - (intOf s).toNat)
   case atStart=>exact ⟨20,E2,rfl,by decide,by decide,hx0,hW0.out,hL0.out,hBK.out⟩
   case round=>
    clear hBK hW0 hL0 hx0
    obtain ⟨k,E1,rfl,hk0,hk2,hx,hW,hL,hB⟩:=hrel
    by_cases hkn:k < n
    ·have hd:decide ((k:Int) < (n:Int))=true:=decide_eq_true (by omega)
     obtain ⟨k2,hkk⟩:∃ k2,2*k=k2:=⟨_,rfl⟩
     have ek:2*(k:Int)=(k2:Int):=by omega
     have ek2:(k:Int)*2=(k2:Int):=by omega
     go_wp2_with fail
     go_loopw [7,8] (fun s t wr=>∃ (a:Nat) (E1:List (List Value)),s=.int .i64 a∧t=.int .i64 ((a:Int)+(k2:Int))∧a≤n∧k2 ∣ a∧Below g w9 wr∧Hid (Sw 0 n E E1)∧Hid (Sl 90 g S wr E1)∧Hid (∀ x,k2 ∣ x→x < a→Up keyT x (x+k2) E1)∧Hid (∀ x,k ∣ x→a≤x→Up keyT x (min (x+k) n) E1)) (fun s _ _=>n - (intOf s).toNat)
     case atStart=>exact ⟨0,E1,rfl,by go_num,Nat.zero_le _,Nat.dvd_zero _,hx,hW.out,hL.out,fun x _ h=>by omega,fun x h _=>hB.out x h⟩
     case round=>
      clear hx hW hL hB
      obtain ⟨a,E1,rfl,rfl,han,hda,hx,hW,hL,hB,hC⟩:=hrel
      have hlen:=hW.out.len.trans hn
      have hka:k ∣ a:=Nat.dvd_trans ⟨2,by omega⟩ hda
      obtain ⟨m,hm⟩:∃ m,a+k=m:=⟨_,rfl⟩
      have em:(a:Int)+(k:Int)=(m:Int):=by omega
      have hkm:k ∣ m:=by rw [← hm];exact Nat.dvd_add hka (Nat.dvd_refl k)
      obtain ⟨b,hb⟩:∃ b,a+k2=b:=⟨_,rfl⟩
      have eb:(a:Int)+(k2:Int)=(b:Int):=by omega
      have hdb:k2 ∣ b:=by rw [← hb];exact Nat.dvd_add hda (Nat.dvd_refl k2)
      have HGAP:Hid (∀ x,k2 ∣ x→x < b→x < a∧x+k2≤a∨x=a):=fun x h1 h2=>by
       by_cases h:x < a
       ·exact .inl ⟨h,dvd_gap h1 hda h⟩
       ·exact .inr (dvd_near h1 hda (by omega) (by omega))
      have HGA:Hid (∀ x,k2 ∣ x→a < x→b≤x):=fun x h1 h2=>by
       have:=dvd_gap hda h1 h2
       omega
      by_cases hlt:b≤n
      ·have hd:decide ((b:Int)≤(n:Int))=true:=decide_eq_true (by omega)
       have U1:=hC.out a hka (Nat.le_refl _)
       have U2:=hC.out m hkm (by omega)
       rw [Nat.min_eq_left (by omega),hm] at U1
       rw [Nat.min_eq_left (by omega),show m+k=b by omega] at U2
       go_wp2_with fail
       refine (sym_to a m b hlen.symm hL.out (by omega) (by omega) (by omega) (by omega) U1 U2).mono ?_
       rintro e w1 ⟨rfl,hb1,E2,hW2,hL2,hU2⟩
       go_wp2_with fail
       go_roundw
       case rel=>exact ⟨b,E2,rfl,by go_num,by omega,hdb,hx.trans hb1,hW.out.trans (hW2.mono (Nat.zero_le _) (by omega)),hL2,fun x h1 h2=>by
        rcases HGAP.out x h1 h2 with ⟨h,h3⟩ | h
        ·exact (hB.out x h1 h).keep hW2 (by omega) (.inl (by omega))
        ·rw [h,hb]
         exact hU2,fun x h1 h2=>(hC.out x h1 (by omega)).keep hW2 (by omega) (.inr h2)⟩
       case measure=>simp [intOf] <;> omega
      ·have hd:decide ((b:Int)≤(n:Int))=false:=decide_eq_false (by omega)
       have HEND:Hid (∀ F:List (List Value),Sw a n E1 F→Up keyT a n F→Blk k2 n F):=fun F h1 h2 x h3=>by
        by_cases h:x < b
        ·rcases HGAP.out x h3 h with ⟨h4,h5⟩ | h4
         ·rw [Nat.min_eq_left (by omega)]
          exact (hB.out x h3 h4).keep h1 (by omega) (.inl (by omega))
         ·rw [h4,Nat.min_eq_right (by omega)]
          exact h2
        ·exact Up.one x (by omega) F
       by_cases hmn:m < n
       ·have hd2:decide ((m:Int) < (n:Int))=true:=decide_eq_true (by omega)
        have U1:=hC.out a hka (Nat.le_refl _)
        have U2:=hC.out m hkm (by omega)
        rw [Nat.min_eq_left (by omega),hm] at U1
        rw [Nat.min_eq_right (by omega)] at U2
        go_wp2_with fail
        refine (sym_to a m n hlen.symm hL.out (by omega) (by omega) (by omega) (by omega) U1 U2).mono ?_
        rintro e w1 ⟨rfl,hb1,E2,hW2,hL2,hU2⟩
        go_wp2_with fail
        go_roundw
        case rel=>exact ⟨k2,E2,rfl,by omega,by omega,hx.trans hb1,hW.out.trans (hW2.mono (Nat.zero_le _) (by omega)),hL2,HEND.out E2 hW2 hU2⟩
        case measure=>simp [intOf] <;> omega
       ·have hd2:decide ((m:Int) < (n:Int))=false:=decide_eq_false (by omega)
        have U1:=hC.out a hka (Nat.le_refl _)
        rw [Nat.min_eq_right (by omega)] at U1
        go_wp2_with fail
        go_roundw
        case rel=>exact ⟨k2,E1,rfl,by omega,by omega,hx,hW.out,hL.out,HEND.out E1 .refl U1⟩
        case measure=>simp [intOf] <;> omega
    ·have hd:decide ((k:Int) < (n:Int))=false:=decide_eq_false (by omega)
     go_wp2_with fail
     go_end0
     have h0:=hB.out 0 (Nat.dvd_zero _)
     rw [Nat.min_eq_right (by omega)] at h0
     exact hR.out _ _ ⟨rfl,hx,E1,hW.out,hL.out,h0⟩
theorem sortst_any {w:World} {g S cap:Nat} {E:List (List Value)} (hS:Sl 90 g S w E) (hl:E.length≤100000):
  Calls Tryz.prog 85 #[.slice (some ⟨g,0,none⟩) E.length cap,.func (.func 86) #[] #[]] w (GivesB g w fun w'=>∃ E',Sw 0 E.length E E'∧Sl 90 g S w' E'∧Up keyT 0 E.length E'):=by
 refine via fun R hR=>?_
 go_enter Tryz.func85,Tryz.ntmps85
 go_wp2_with fail
 refine (stable_any hS hl).mono ?_
 rintro e w1 ⟨rfl,hb1,E2,hW2,hL2,hU2⟩
 go_wp2_with fail
 go_end0
 exact hR.out _ _ ⟨rfl,hb1,E2,hW2,hL2,hU2⟩
end Go.Proofs.YtdooldpgnjmpfaaGreatDoor
