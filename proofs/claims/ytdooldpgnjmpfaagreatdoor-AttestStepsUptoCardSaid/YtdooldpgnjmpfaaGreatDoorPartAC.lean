/- A group of texts: Box, Cap, Row, AppK, RowT, Last, Apt -/
import Derived.Test.YtdooldpgnjmpfaaGreatDoorPartAB
import Derived.Lib.SmallJoins
import Derived.Deep.RegionHeld3
import Derived.OrdersHeld
namespace Go.Att
open Go.RowKit

def Bx (w:World) (b:Nat) (cs:List Value):Prop:=∀ i v,cs[i]?=some v→w.cell? ⟨b,i,none⟩=some v
theorem Bx.ext {w w':World} {b:Nat} {cs:List Value} (h:Bx w b cs) (e:Ext w w'):Bx w' b cs:=fun i v hv=>e.cell (h i v hv)
theorem Bx.new (w:World) (cs:List Value) (t:TypeId):Bx (w.alloc (.cells cs.toArray t)) w.heap.size cs:=fun i v hv=>by
 have h:(w.alloc (.cells cs.toArray t)).heap[w.heap.size]?=some (.cells cs.toArray t (0,0)):=by show (w.heap.push _)[w.heap.size]?=_;simp
 rw [cell_of_row _ _ _ _ t (0,0) h]
 simpa using hv
theorem Bx.c1 {w:World} {b:Nat} {x0:Value} {l:List Value} (h:Bx w b (x0 :: l)):w.cell? ⟨b,0,none⟩=some x0:=h 0 _ rfl
theorem Bx.c2 {w:World} {b:Nat} {x0 x1:Value} {l:List Value} (h:Bx w b (x0 :: x1 :: l)):w.cell? ⟨b,0,none⟩=some x0∧w.cell? ⟨b,1,none⟩=some x1:=⟨h 0 _ rfl,h 1 _ rfl⟩
theorem Bx.c3 {w:World} {b:Nat} {x0 x1 x2:Value} {l:List Value} (h:Bx w b (x0 :: x1 :: x2 :: l)):w.cell? ⟨b,0,none⟩=some x0∧w.cell? ⟨b,1,none⟩=some x1∧w.cell? ⟨b,2,none⟩=some x2:=⟨h 0 _ rfl,h 1 _ rfl,h 2 _ rfl⟩
theorem Bx.c4 {w:World} {b:Nat} {x0 x1 x2 x3:Value} {l:List Value} (h:Bx w b (x0 :: x1 :: x2 :: x3 :: l)):w.cell? ⟨b,0,none⟩=some x0∧w.cell? ⟨b,1,none⟩=some x1∧w.cell? ⟨b,2,none⟩=some x2∧w.cell? ⟨b,3,none⟩=some x3:=⟨h 0 _ rfl,h 1 _ rfl,h 2 _ rfl,h 3 _ rfl⟩
theorem Bx.c6 {w:World} {b:Nat} {x0 x1 x2 x3 x4 x5:Value} {l:List Value} (h:Bx w b (x0 :: x1 :: x2 :: x3 :: x4 :: x5 :: l)):w.cell? ⟨b,0,none⟩=some x0∧w.cell? ⟨b,1,none⟩=some x1∧w.cell? ⟨b,2,none⟩=some x2∧w.cell? ⟨b,3,none⟩=some x3∧w.cell? ⟨b,4,none⟩=some x4∧w.cell? ⟨b,5,none⟩=some x5:=
 ⟨h 0 _ rfl,h 1 _ rfl,h 2 _ rfl,h 3 _ rfl,h 4 _ rfl,h 5 _ rfl⟩
def Rm (w:World) (b n:Nat):Prop:=∃ (cs:Array Value) (t:TypeId),cs.size=n∧w.heap[b]?=some (.cells cs t (0,0))
theorem Rm.ext {w w':World} {b n:Nat} (h:Rm w b n) (e:Ext w w'):Rm w' b n:=by
 obtain ⟨cs,t,hn,h⟩:=h
 exact ⟨cs,t,hn,by rw [e.block b (Array.getElem?_eq_some_iff.1 h).1];exact h⟩
theorem Rm.new (w:World) (cs:List Value) (t:TypeId):Rm (w.alloc (.cells cs.toArray t)) w.heap.size cs.length:=⟨cs.toArray,t,by simp,by show (w.heap.push _)[w.heap.size]?=_;simp⟩
theorem Rm.lt {w:World} {b n:Nat} (h:Rm w b n):b < w.heap.size:=by
 obtain ⟨_,_,_,h⟩:=h
 exact (Array.getElem?_eq_some_iff.1 h).1
theorem Rm.at {w:World} {b n:Nat} (h:Rm w b n) (i:Nat) (hi:i < n):∃ v,w.cell? ⟨b,i,none⟩=some v∧w.frozen? ⟨b,i,none⟩=false:=by
 obtain ⟨cs,t,hn,h⟩:=h
 exact ⟨cs[i]'(by omega),by rw [cell_of_row w b _ _ t (0,0) h];simp [hn,hi],frozen_of_row w b i _ t h⟩
theorem Rm.c6 {w:World} {b:Nat} (h:Rm w b 6):∃ x0 x1 x2 x3 x4 x5,w.cell? ⟨b,0,none⟩=some x0∧w.cell? ⟨b,1,none⟩=some x1∧w.cell? ⟨b,2,none⟩=some x2∧w.cell? ⟨b,3,none⟩=some x3∧w.cell? ⟨b,4,none⟩=some x4∧w.cell? ⟨b,5,none⟩=some x5∧
  w.frozen? ⟨b,0,none⟩=false∧w.frozen? ⟨b,1,none⟩=false∧w.frozen? ⟨b,2,none⟩=false∧w.frozen? ⟨b,3,none⟩=false∧w.frozen? ⟨b,4,none⟩=false∧w.frozen? ⟨b,5,none⟩=false:=by
 obtain ⟨x0,h0,g0⟩:=h.at 0 (by omega)
 obtain ⟨x1,h1,g1⟩:=h.at 1 (by omega)
 obtain ⟨x2,h2,g2⟩:=h.at 2 (by omega)
 obtain ⟨x3,h3,g3⟩:=h.at 3 (by omega)
 obtain ⟨x4,h4,g4⟩:=h.at 4 (by omega)
 obtain ⟨x5,h5,g5⟩:=h.at 5 (by omega)
 exact ⟨x0,x1,x2,x3,x4,x5,h0,h1,h2,h3,h4,h5,g0,g1,g2,g3,g4,g5⟩

theorem Rm.room3 {w:World} {b:Nat} (h:Rm w b 3):Room3 w b:=by
 obtain ⟨cs,t,hn,h⟩:=h
 obtain ⟨x,y,z,rfl⟩:=Go.Joins.array3 hn
 exact ⟨x,y,z,t,h⟩
theorem Room3.rm {w:World} {b:Nat} (h:Room3 w b):Rm w b 3:=by
 obtain ⟨x,y,z,t,h⟩:=h
 exact ⟨_,t,rfl,h⟩
def putL (w:World) (c:Nat) (i:Nat):List Value→World
 | []=>w
 | v :: l=>putL (w.setCell ⟨c,i,none⟩ v) c (i+1) l
theorem putL_block (c:Nat) {k:Nat} (hk:k≠c):∀ (l:List Value) (w:World) (i:Nat),(putL w c i l).heap[k]?=w.heap[k]?
 | [],_,_=>rfl
 | v :: l,w,i=>by rw [putL,putL_block c hk l];exact Below.heap_setCell _ _ _ _ hk
theorem putL_below {B c:Nat} (hc:B≤c) {a:World}:∀ (l:List Value) {w:World} (i:Nat),Below B a w→Below B a (putL w c i l)
 | [],_,_,h=>h
 | v :: l,w,i,h=>by rw [putL];exact putL_below hc l (i+1) (h.setCell hc v)
theorem Bx.putL {w:World} {b:Nat} {cs:List Value} (h:Bx w b cs) {c:Nat} (hne:b≠c) (i:Nat) (l:List Value):Bx (putL w c i l) b cs:=fun j v hv=>by
 rw [World.cell?_of_block (putL_block c hne l w i)]
 exact h j v hv
theorem Rm.putL {w:World} {b n:Nat} (h:Rm w b n) {c:Nat} (hne:b≠c) (i:Nat) (l:List Value):Rm (putL w c i l) b n:=by
 obtain ⟨cs,t,hn,h⟩:=h
 exact ⟨cs,t,hn,by rw [putL_block c hne];exact h⟩
theorem putL_row {c:Nat} {t:TypeId}:∀ (l:List Value) {w:World} {cs:Array Value} (i:Nat),w.heap[c]?=some (.cells cs t (0,0))→i+l.length≤cs.size→
  ∃ cs':Array Value,(Att.putL w c i l).heap[c]?=some (.cells cs' t (0,0))∧cs'.size=cs.size∧(∀ j,j < i→cs'[j]?=cs[j]?)∧∀ j v,l[j]?=some v→cs'[i+j]?=some v
 | [],w,cs,i,h,_=>⟨cs,h,rfl,fun _ _=>rfl,fun j v hv=>by simp at hv⟩
 | v :: l,w,cs,i,h,hl=>by
  have h0:=heap_setCell_same w c i _ t v h
  simp at hl
  obtain ⟨cs',h1,h2,h3,h4⟩:=putL_row l (i+1) h0 (by simp;omega)
  refine ⟨cs',h1,by simpa using h2,fun j hj=>by rw [h3 j (by omega),Array.getElem?_setIfInBounds_ne (by omega)],fun j u hu=>?_⟩
  cases j with
  | zero=>
   simp at hu
   subst hu
   rw [Nat.add_zero,h3 i (by omega),Array.getElem?_setIfInBounds_self_of_lt (by omega)]
  | succ j=>
   have:=h4 j u (by simpa using hu)
   rw [show i+(j+1)=i+1+j by omega]
   exact this
theorem Bx.putL_at {w:World} {c n:Nat} (h:Rm w c n) (l:List Value) (hl:l.length=n):Bx (Att.putL w c 0 l) c l∧Rm (Att.putL w c 0 l) c n:=by
 obtain ⟨cs,t,hn,h⟩:=h
 obtain ⟨cs',h1,h2,-,h4⟩:=putL_row l 0 h (by omega)
 refine ⟨fun j v hv=>?_,cs',t,by omega,h1⟩
 rw [cell_of_row _ c _ _ t (0,0) h1,← Nat.zero_add j]
 exact h4 j v hv
theorem owns_putL {w:World} {B c:Nat} {e:TypeId} {size:Nat} {v:Value} {n:Nat} {xs:List Value} (o:w.ownsRow B e size v n xs) {w':World} (x:Ext w w') (hc:c < B∨w.heap.size≤c) (i:Nat) (l:List Value):(putL w' c i l).ownsRow B e size v n xs:=by
 rcases o with ⟨h1,h2 | ⟨g,cap,cur,hv,hg,hh,r⟩⟩
 ·exact ⟨h1,.inl h2⟩
 ·have hl:=(Array.getElem?_eq_some_iff.1 hh).1
  exact ⟨h1,.inr ⟨g,cap,cur,hv,hg,by rw [putL_block _ (by omega),x.block g hl];exact hh,r⟩⟩
theorem OwnL.putL {e:TypeId} {B c:Nat} {w w':World} {v:Value} {xs:List Nat} (h:OwnL e B w v xs) (x:Ext w w') (hc:c < B∨w.heap.size≤c) (i:Nat) (l:List Value):OwnL e B (putL w' c i l) v xs:=⟨owns_putL h.1 x hc i l,h.2⟩

theorem Bx.put3 {w:World} {b:Nat} {cs:List Value} (h:Bx w b cs) {c:Nat} (hne:b≠c) (x y z:Value):Bx (put3 w c x y z) b cs:=h.putL hne 0 [x,y,z]
theorem OwnB.put3 {e:TypeId} {B c:Nat} {w w':World} {v:Value} {xs:List Bool} (h:OwnB e B w v xs) (k:Ext w w') (hc:c < B∨w.heap.size≤c) (x y z:Value):OwnB e B (Att.put3 w' c x y z) v xs:=owns_putL h k hc 0 [x,y,z]

theorem bx1 (w:World) (l:List Value) (t:TypeId):∃ W,W=w.alloc (.cells l.toArray t)∧Ext w W∧Bx W w.heap.size l∧Rm W w.heap.size l.length∧W.heap.size=w.heap.size+1:=
 ⟨_,rfl,Ext.alloc _ _,Bx.new _ _ _,Rm.new _ _ _,by simp⟩
theorem bx2 (w:World) (l m:List Value) (t t':TypeId):∃ W,W=(w.alloc (.cells l.toArray t)).alloc (.cells m.toArray t')∧Ext w W∧Bx W w.heap.size l∧Bx W (w.heap.size+1) m∧Rm W w.heap.size l.length∧Rm W (w.heap.size+1) m.length∧W.heap.size=w.heap.size+2:=by
 obtain ⟨W,hW,e,b,r,s⟩:=bx1 w l t
 obtain ⟨V,hV,e',b',r',s'⟩:=bx1 W m t'
 rw [s] at b' r' s'
 exact ⟨V,by rw [hV,hW],e.trans e',b.ext e',b',r.ext e',r',s'⟩
theorem bx3 (w:World) (l m k:List Value) (t t' t'':TypeId):∃ W,W=((w.alloc (.cells l.toArray t)).alloc (.cells m.toArray t')).alloc (.cells k.toArray t'')∧Ext w W∧Bx W w.heap.size l∧Bx W (w.heap.size+1) m∧Bx W (w.heap.size+1+1) k∧
  Rm W w.heap.size l.length∧Rm W (w.heap.size+1) m.length∧Rm W (w.heap.size+1+1) k.length∧W.heap.size=w.heap.size+3:=by
 obtain ⟨W,hW,e,b,b2,r,r2,s⟩:=bx2 w l m t t'
 obtain ⟨V,hV,e',b',r',s'⟩:=bx1 W k t''
 rw [s] at b' r' s'
 exact ⟨V,by rw [hV,hW],e.trans e',b.ext e',b2.ext e',b',r.ext e',r2.ext e',r',s'⟩
def RdD (w:World) (v:Value) (a b:Rat):Prop:=∃ x y z x' y' z',v=.agg #[x,y,z,x',y',z']∧RdQ w (.agg #[x,y,z]) a∧RdQ w (.agg #[x',y',z']) b
def RdE (w:World) (v:Value) (a b:Rat):Prop:=∃ x y z x' y' z',v=.agg #[x,y,z,x',y',z']∧RdP w (.agg #[x,y,z]) a∧RdP w (.agg #[x',y',z']) b
theorem RdD.ext {w w':World} {v:Value} {a b:Rat} (h:RdD w v a b) (e:Ext w w'):RdD w' v a b:=by
 obtain ⟨x,y,z,x',y',z',rfl,h1,h2⟩:=h
 exact ⟨_,_,_,_,_,_,rfl,h1.ext e,h2.ext e⟩
theorem RdE.ext {w w':World} {v:Value} {a b:Rat} (h:RdE w v a b) (e:Ext w w'):RdE w' v a b:=by
 obtain ⟨x,y,z,x',y',z',rfl,h1,h2⟩:=h
 exact ⟨_,_,_,_,_,_,rfl,h1.ext e,h2.ext e⟩
def OwnD (e:TypeId) (B:Nat) (w:World) (v:Value) (a b:Rat):Prop:=∃ n d m c,v=.agg #[.bool (decide (a.num < 0)),n,d,.bool (decide (b.num < 0)),m,c]∧OwnL e B w n (limbs a.num.natAbs)∧OwnL e B w d (dens a.den)∧OwnL e B w m (limbs b.num.natAbs)∧OwnL e B w c (dens b.den)
theorem OwnD.rd {e:TypeId} {B:Nat} {w:World} {v:Value} {a b:Rat} (h:OwnD e B w v a b):RdD w v a b:=by
 obtain ⟨n,d,m,c,rfl,h1,h2,h3,h4⟩:=h
 exact ⟨_,_,_,_,_,_,rfl,⟨_,_,rfl,h1.rd,h2.rd⟩,⟨_,_,rfl,h3.rd,h4.rd⟩⟩
def RdND (w:World) (v:Value) (s:Bool) (xs ys:List Nat) (s':Bool) (xs' ys':List Nat):Prop:=∃ x y z x' y' z',v=.agg #[x,y,z,x',y',z']∧RdN w (.agg #[x,y,z]) s xs ys∧RdN w (.agg #[x',y',z']) s' xs' ys'
theorem RdND.ext {w w':World} {v:Value} {s s':Bool} {xs ys xs' ys':List Nat} (h:RdND w v s xs ys s' xs' ys') (e:Ext w w'):RdND w' v s xs ys s' xs' ys':=by
 obtain ⟨x,y,z,x',y',z',rfl,h1,h2⟩:=h
 exact ⟨_,_,_,_,_,_,rfl,h1.ext e,h2.ext e⟩
open Go.RowKit

theorem anyH_cap {P:Program} {md:Region.Mode} {ops:Array Oper} {Q:Exit→Act→World→Prop} {S:World→Prop} {n:Nat} {l:Array Bool} {a:Act} {w:World}
  (k:∀ (O:Array Oper) (Q':Exit→Act→World→Prop) (A:Act),Hid (O=ops)→Hid (Q'=Q)→Hid (A=a)→wpAnyH P md O Q' S n l A w):wpAnyH P md ops Q S n l a w:=k ops Q a rfl rfl rfl
theorem wpAnyH_at {P:Program} {md:Region.Mode} {ops:Array Oper} {Q:Exit→Act→World→Prop} {S:World→Prop} {n n':Nat} {l l':Array Bool} {a a':Act} {w:World}
  (h:wpAnyH P md ops Q S n' l' a' w) (hn:n=n') (hl:l=l') (ha:a=a'):wpAnyH P md ops Q S n l a w:=by subst hn hl ha;exact h
def Rt (w:World) (b n:Nat) (t:TypeId):Prop:=∃ cs:Array Value,cs.size=n∧w.heap[b]?=some (.cells cs t (0,0))
theorem Rt.rm {w:World} {b n:Nat} {t:TypeId} (h:Rt w b n t):Rm w b n:=by
 obtain ⟨cs,hn,h⟩:=h
 exact ⟨cs,t,hn,h⟩
theorem Rt.lt {w:World} {b n:Nat} {t:TypeId} (h:Rt w b n t):b < w.heap.size:=h.rm.lt
theorem Rt.ext {w w':World} {b n:Nat} {t:TypeId} (h:Rt w b n t) (e:Ext w w'):Rt w' b n t:=by
 obtain ⟨cs,hn,h⟩:=h
 exact ⟨cs,hn,by rw [e.block b (Array.getElem?_eq_some_iff.1 h).1];exact h⟩
theorem Rt.new (w:World) (cs:List Value) (t:TypeId):Rt (w.alloc (.cells cs.toArray t)) w.heap.size cs.length t:=⟨cs.toArray,by simp,by show (w.heap.push _)[w.heap.size]?=_;simp⟩
theorem Rt.putL {w:World} {b n:Nat} {t:TypeId} (h:Rt w b n t) {c:Nat} (hne:b≠c) (i:Nat) (l:List Value):Rt (putL w c i l) b n t:=by
 obtain ⟨cs,hn,h⟩:=h
 exact ⟨cs,hn,by rw [putL_block c hne];exact h⟩
theorem Rt.putL_at {w:World} {c n:Nat} {t:TypeId} (h:Rt w c n t) (l:List Value) (hl:l.length=n):Bx (Att.putL w c 0 l) c l∧Rt (Att.putL w c 0 l) c n t:=by
 refine ⟨(Bx.putL_at h.rm l hl).1,?_⟩
 obtain ⟨cs,hn,h⟩:=h
 obtain ⟨cs',h1,h2,-,-⟩:=putL_row l 0 h (by omega)
 exact ⟨cs',by omega,h1⟩
theorem owns_putT {w:World} {B c m:Nat} {e t:TypeId} {size:Nat} {v:Value} {n:Nat} {xs:List Value} (o:w.ownsRow B e size v n xs) (hc:Rt w c m t) (hne:e≠t) (i:Nat) (l:List Value):(putL w c i l).ownsRow B e size v n xs:=by
 rcases o with ⟨h1,h2 | ⟨g,cap,cur,hv,hg,hh,r⟩⟩
 ·exact ⟨h1,.inl h2⟩
 ·have hgc:g≠c:=fun h=>by
   obtain ⟨cs,_,h3⟩:=hc
   rw [h,h3] at hh
   simp at hh
   exact hne hh.2.symm
  exact ⟨h1,.inr ⟨g,cap,cur,hv,hg,by rw [putL_block _ hgc];exact hh,r⟩⟩
theorem OwnL.putT {e t:TypeId} {B c m:Nat} {w:World} {v:Value} {xs:List Nat} (h:OwnL e B w v xs) (hc:Rt w c m t) (hne:e≠t) (i:Nat) (l:List Value):OwnL e B (Att.putL w c i l) v xs:=⟨owns_putT h.1 hc hne i l,h.2⟩
theorem OwnB.putT {e t:TypeId} {B c m:Nat} {w:World} {v:Value} {xs:List Bool} (h:OwnB e B w v xs) (hc:Rt w c m t) (hne:e≠t) (i:Nat) (l:List Value):OwnB e B (Att.putL w c i l) v xs:=owns_putT h hc hne i l
theorem OwnQ.putT {e t:TypeId} {B c m:Nat} {w:World} {v:Value} {q:Rat} (h:OwnQ e B w v q) (hc:Rt w c m t) (hne:e≠t) (i:Nat) (l:List Value):OwnQ e B (Att.putL w c i l) v q:=by
 obtain ⟨n,d,rfl,h1,h2⟩:=h
 exact ⟨n,d,rfl,h1.putT hc hne i l,h2.putT hc hne i l⟩
theorem OwnP.putT {e t:TypeId} {B c m:Nat} {w:World} {v:Value} {q:Rat} (h:OwnP e B w v q) (hc:Rt w c m t) (hne:e≠t) (i:Nat) (l:List Value):OwnP e B (Att.putL w c i l) v q:=by
 obtain ⟨n,d,rfl,h1,h2⟩:=h
 exact ⟨n,d,rfl,h1.putT hc hne i l,h2.putT hc hne i l⟩
def TwoQ (e:TypeId) (w0 w:World) (B C:Nat) (n d n' d':Value) (x y:Rat):Prop:=Ext w0 w∧Box3 w B (.bool (decide (x.num < 0))) n d∧Box3 w C (.bool (decide (y.num < 0))) n' d'∧
 OwnQ e w0.heap.size w (.agg #[.bool (decide (x.num < 0)),n,d]) x∧OwnQ e w0.heap.size w (.agg #[.bool (decide (y.num < 0)),n',d']) y
theorem TwoQ.mk {e t:TypeId} {w0 w:World} {B C:Nat} {n d n' d':Value} {x y:Rat} (hne:e≠t) (hX:Ext w0 w) (rB:Rt w B 3 t) (rC:Rt w C 3 t) (sB:w0.heap.size≤B) (sC:w0.heap.size≤C) (hBC:B≠C)
  (p:OwnQ e w0.heap.size w (.agg #[.bool (decide (x.num < 0)),n,d]) x) (q:OwnQ e w0.heap.size w (.agg #[.bool (decide (y.num < 0)),n',d']) y):
  TwoQ e w0 (put3 (put3 w B (.bool (decide (x.num < 0))) n d) C (.bool (decide (y.num < 0))) n' d') B C n d n' d' x y:=by
 have r1:=rC.putL (Ne.symm hBC) 0 [.bool (decide (x.num < 0)),n,d]
 refine ⟨put3_below (put3_below hX sB _ _ _) sC _ _ _,((rB.putL_at [_,_,_] rfl).1.put3 hBC _ _ _).c3,(r1.putL_at [_,_,_] rfl).1.c3,?_,?_⟩
 ·exact (p.putT rB hne 0 [_,_,_]).putT r1 hne 0 [_,_,_]
 ·exact (q.putT rB hne 0 [_,_,_]).putT r1 hne 0 [_,_,_]
open Go.RowKit

def Pw {α:Type} (k:Nat) (R:List Value→α→Prop):List (List Value)→List α→Prop
 | [],[]=>True
 | c :: E,a :: l=>(c.length=k∧R c a)∧Pw k R E l
 | [],_ :: _=>False
 | _ :: _,[]=>False
section
variable {α:Type} {k:Nat}
theorem Pw.len {R:List Value→α→Prop}:∀ {E:List (List Value)} {l:List α},Pw k R E l→E.length=l.length
 | [],[],_=>rfl
 | _ :: _,_ :: _,h=>by have:=Pw.len h.2;simp [this]
 | [],_ :: _,h=>h.elim
 | _ :: _,[],h=>h.elim
theorem Pw.flat {R:List Value→α→Prop}:∀ {E:List (List Value)} {l:List α},Pw k R E l→E.flatten.length=l.length*k
 | [],[],_=>by simp
 | _ :: _,_ :: _,h=>by
  have:=Pw.flat h.2
  rw [List.flatten_cons,List.length_append,this,h.1.1,List.length_cons,Nat.succ_mul]
  omega
 | [],_ :: _,h=>h.elim
 | _ :: _,[],h=>h.elim
theorem Pw.mono {R S:List Value→α→Prop} (hRS:∀ c a,R c a→S c a):∀ {E:List (List Value)} {l:List α},Pw k R E l→Pw k S E l
 | [],[],_=>trivial
 | _ :: _,_ :: _,h=>⟨⟨h.1.1,hRS _ _ h.1.2⟩,Pw.mono hRS h.2⟩
 | [],_ :: _,h=>h.elim
 | _ :: _,[],h=>h.elim
theorem Pw.app {R:List Value→α→Prop}:∀ {E F:List (List Value)} {l m:List α},Pw k R E l→Pw k R F m→Pw k R (E ++ F) (l ++ m)
 | [],_,[],_,_,hF=>hF
 | _ :: _,_,_ :: _,_,h,hF=>⟨h.1,Pw.app h.2 hF⟩
 | [],_,_ :: _,_,h,_=>h.elim
 | _ :: _,_,[],_,h,_=>h.elim
theorem Pw.one {R:List Value→α→Prop} {c:List Value} {a:α} (hc:c.length=k) (h:R c a):Pw k R [c] [a]:=⟨⟨hc,h⟩,trivial⟩
theorem Pw.at {R:List Value→α→Prop}:∀ {E:List (List Value)} {l:List α},Pw k R E l→∀ i (hi:i < l.length),∃ c,c.length=k∧R c l[i]∧∀ j,j < k→E.flatten[i*k+j]?=c[j]?
 | c :: _,_ :: _,h,0,_=>⟨c,h.1.1,h.1.2,fun j hj=>by
   rw [Nat.zero_mul,Nat.zero_add,List.flatten_cons,List.getElem?_append_left (by rw [h.1.1];exact hj)]⟩
 | _ :: _,_ :: _,h,i+1,hi=>by
  obtain ⟨d,h1,h2,h3⟩:=Pw.at h.2 i (by simpa using hi)
  refine ⟨d,h1,by simpa using h2,fun j hj=>?_⟩
  rw [← h3 j hj,List.flatten_cons,List.getElem?_append_right (by rw [h.1.1,Nat.succ_mul];omega),h.1.1]
  congr 1
  rw [Nat.succ_mul]
  omega
 | [],[],_,_,hi=>by simp at hi
 | [],_ :: _,h,_,_=>h.elim
 | _ :: _,[],h,_,_=>h.elim

def RdRow (k:Nat) (T:World→Value→α→Prop) (w:World) (v:Value) (l:List α):Prop:=
 ∃ E:List (List Value),RdV w v k l.length E.flatten∧Pw k (fun c a=>T w (.agg c.toArray) a) E l
def OwnRow (k:Nat) (T:World→Value→α→Prop) (e:TypeId) (B:Nat) (w:World) (v:Value) (l:List α):Prop:=
 ∃ E:List (List Value),w.ownsRow B e k v l.length E.flatten∧Pw k (fun c a=>T w (.agg c.toArray) a) E l
variable {T:World→Value→α→Prop}
theorem OwnRow.rd {e:TypeId} {B:Nat} {w:World} {v:Value} {l:List α} (h:OwnRow k T e B w v l):RdRow k T w v l:=by
 obtain ⟨E,h1,h2⟩:=h
 exact ⟨E,RdV.of_owns h1,h2⟩
theorem RdRow.ext {w w':World} {v:Value} {l:List α} (h:RdRow k T w v l) (hT:∀ {w w' v a},T w v a→Ext w w'→T w' v a) (x:Ext w w'):RdRow k T w' v l:=by
 obtain ⟨E,h1,h2⟩:=h
 exact ⟨E,h1.ext x,h2.mono fun _ _ h=>hT h x⟩
theorem OwnRow.ext {e:TypeId} {B:Nat} {w w':World} {v:Value} {l:List α} (h:OwnRow k T e B w v l) (hT:∀ {w w' v a},T w v a→Ext w w'→T w' v a) (x:Ext w w'):OwnRow k T e B w' v l:=by
 obtain ⟨E,h1,h2⟩:=h
 exact ⟨E,Ext.owns x h1,h2.mono fun _ _ h=>hT h x⟩
theorem OwnRow.mono {e:TypeId} {B B':Nat} {w:World} {v:Value} {l:List α} (h:OwnRow k T e B w v l) (hB:B'≤B):OwnRow k T e B' w v l:=by
 obtain ⟨E,h1,h2⟩:=h
 exact ⟨E,owns_mono h1 hB,h2⟩
theorem OwnRow.nil (e:TypeId) (B:Nat) (w:World):OwnRow k T e B w (.slice none 0 0) []:=⟨[],⟨by simp,.inl ⟨rfl,rfl⟩⟩,trivial⟩
theorem OwnRow.nilLit (e:TypeId) {B:Nat} {w:World} (hB:B≤w.heap.size):OwnRow k T e B (w.alloc (.cells #[] e)) (.slice (some ⟨w.heap.size,0,none⟩) 0 0) []:=
 ⟨[],World.ownsRow_lit w #[] 0 hB (Nat.zero_le _) (by simp),trivial⟩
theorem RdRow.shape {w:World} {v:Value} {l:List α} (h:RdRow k T w v l):∃ a c,v=.slice a l.length c∧l.length≤c∧c≤maxLen:=by
 obtain ⟨E,⟨_,a,c,rfl,h1,h2,_⟩,_⟩:=h
 exact ⟨a,c,rfl,h1,h2⟩
theorem RdRow.at {w:World} {a:Option Addr} {n c:Nat} {l:List α} (h:RdRow k T w (.slice a n c) l) (hk:0 < k) (i:Nat) (hi:i < l.length):
  ∃ (b off:Nat) (cs:List Value),a=some ⟨b,off,none⟩∧cs.length=k∧T w (.agg cs.toArray) l[i]∧∀ j,j < k→w.cell? ⟨b,off+i*k+j,none⟩=cs[j]?:=by
 obtain ⟨E,⟨h0,a',c',hv,h1,h2,h3,h5⟩,hp⟩:=h
 simp only [Value.slice.injEq] at hv
 obtain ⟨rfl,rfl,rfl⟩:=hv
 have hlen:=hp.flat
 have hle:i*k+k≤l.length*k:=by rw [← Nat.succ_mul];exact Nat.mul_le_mul_right k hi
 obtain ⟨b,off,ha,_⟩:=h5 (i*k) (by rw [hlen];omega)
 obtain ⟨cs,e1,e2,e3⟩:=hp.at i hi
 refine ⟨b,off,cs,ha,e1,e2,fun j hj=>?_⟩
 obtain ⟨b',off',ha',hc⟩:=h5 (i*k+j) (by rw [hlen];omega)
 rw [ha] at ha'
 simp only [Option.some.injEq,Addr.mk.injEq,and_true] at ha'
 obtain ⟨rfl,rfl⟩:=ha'
 rw [← e3 j hj,← hc]
 congr 2
 omega
theorem OwnRow.snoc {e:TypeId} {B:Nat} {w w':World} {v':Value} {l:List α} {a:α} {c:List Value} {E:List (List Value)} (hp:Pw k (fun c a=>T w (.agg c.toArray) a) E l) (hT:∀ {w w' v a},T w v a→Ext w w'→T w' v a)
  (ho:w'.ownsRow B e k v' (l.length+1) (E.flatten ++ c)) (x:Ext w w') (hc:c.length=k) (ha:T w' (.agg c.toArray) a):OwnRow k T e B w' v' (l ++ [a]):=by
 refine ⟨E ++ [c],?_,(hp.mono fun _ _ h=>hT h x).app (Pw.one hc ha)⟩
 rw [List.length_append,List.flatten_append]
 simpa using ho
end
theorem cells_Q {w:World} {cs:List Value} {q:Rat} (h:RdQ w (.agg cs.toArray) q):∃ a c b d,cs=[.bool (decide (q.num < 0)),.slice a (limbs q.num.natAbs).length c,.slice b (dens q.den).length d]:=by
 obtain ⟨n,m,he,h1,h2⟩:=h
 obtain ⟨a,c,rfl,-,-,-,-⟩:=h1.1.shape
 obtain ⟨b,d,rfl,-,-,-,-⟩:=h2.1.shape
 have:cs.toArray=#[.bool (decide (q.num < 0)),.slice a (limbs q.num.natAbs).length c,.slice b (dens q.den).length d]:=by simpa using he
 exact ⟨a,c,b,d,by simpa using congrArg Array.toList this⟩
theorem cells_P {w:World} {cs:List Value} {q:Rat} (h:RdP w (.agg cs.toArray) q):∃ a c b d,cs=[.bool (decide (q.num < 0)),.slice a (bitsOf q.num.natAbs).length c,.slice b (bitsOf q.den).length d]:=by
 obtain ⟨n,m,he,h1,h2⟩:=h
 obtain ⟨a,c,rfl,-,-,-,-⟩:=h1.shape
 obtain ⟨b,d,rfl,-,-,-,-⟩:=h2.shape
 have:cs.toArray=#[.bool (decide (q.num < 0)),.slice a (bitsOf q.num.natAbs).length c,.slice b (bitsOf q.den).length d]:=by simpa using he
 exact ⟨a,c,b,d,by simpa using congrArg Array.toList this⟩
def RdDp (w:World) (v:Value) (p:Rat × Rat):Prop:=RdD w v p.1 p.2
def RdEp (w:World) (v:Value) (p:Rat × Rat):Prop:=RdE w v p.1 p.2
theorem RdDp.ext {w w':World} {v:Value} {p:Rat × Rat} (h:RdDp w v p) (e:Ext w w'):RdDp w' v p:=RdD.ext h e
theorem RdEp.ext {w w':World} {v:Value} {p:Rat × Rat} (h:RdEp w v p) (e:Ext w w'):RdEp w' v p:=RdE.ext h e
open Go.RowKit

theorem append_rdK {P:Program} {w:World} {o:Oper} {a:Act} {K:Act→World→Prop} {Q:Exit→Act→World→Prop} {t e:TypeId} {z:Value} {size bytes:Nat} (T:ElemT P t e z size bytes)
  (s x:Operand) (ho:o.op=.call { callee:=.builtin .append,args:=#[s,x],argTypes:=#[t,t] })
  (base:Nat) {v:Value} {n:Nat} {xs:List Value} (hs:a.eval s=v) (hown:w.ownsRow base e size v n xs)
  {v2:Value} {m:Nat} {news:List Value} (hx:a.eval x=v2) (hr:RdV w v2 size m news) (h1:∀ u∈news,u.oneCell'=true)
  (h63:(n+m)*bytes≤140737488355328) (hm63:n+m≤maxLen) (hbase:base≤w.heap.size)
  (h:∀ v' w',w'.ownsRow base e size v' (n+m) (xs ++ news)→Below base w w'→w.grownBy w' v.ownBlock→K (a.put o.dst v') w'):o.wp P a w K Q:=by
 obtain ⟨i,hi,hz,hsz,hby⟩:=T.inf
 have hb:∀ w',w.grownBy w' v.ownBlock→Below base w w':=fun w' hg=>
  (Below.refl base w).grown hg hbase (fun k hk=>(hown.lt k hk).1)
 have hr':=hr
 obtain ⟨hlen,ao,cap,rfl,hmc,hcm,hnone,_⟩:=hr'
 cases ao with
 | some ad=>exact wp_append_own w s x t ho base e i z size bytes T.und hi hz hsz hby T.cells T.pos v n xs hs hown ad m cap news hx hlen (hr.news ad rfl) h1 hm63 h63 hbase (fun v' w' a1 a2 _=>h v' w' a1 (hb w' a2) a2)
 | none=>
  obtain rfl:=hnone rfl
  obtain rfl:m=0:=by omega
  have hnews:news=[]:=List.eq_nil_of_length_eq_zero (by simpa using hlen)
  subst hnews
  have hrun:=run_append_owned_none (P:=P) w base t o.type e i size T.und hi v n xs hown
  unfold Oper.wp
  simp [execOp,ho,resolve,invoke,builtin,hs,hx,hrun,Result.andThen,Oper.upon]
  exact by simpa using h v w (by simpa using hown) (Below.refl _ _) (World.grownBy.refl _ _)

theorem owns_grown {w w':World} {B B':Nat} {e e':TypeId} {size size':Nat} {v v':Value} {n n':Nat} {xs xs':List Value} (o:w.ownsRow B e size v n xs) (h:w.ownsRow B' e' size' v' n' xs') (hne:e≠e') (hg:w.grownBy w' v'.ownBlock):w'.ownsRow B e size v n xs:=by
 rcases o with ⟨h1,h2 | ⟨g,cap,cur,hv,hgB,hh,r⟩⟩
 ·exact ⟨h1,.inl h2⟩
 ·refine ⟨h1,.inr ⟨g,cap,cur,hv,hgB,?_,r⟩⟩
  have hlt:=(Array.getElem?_eq_some_iff.1 hh).1
  have hng:v'.ownBlock≠some g:=fun h3=>by
   rcases h with ⟨_,⟨rfl,_⟩ | ⟨g',cap',cur',rfl,_,hh',_⟩⟩
   ·simp [Value.ownBlock] at h3
   ·simp [Value.ownBlock] at h3
    subst h3
    rw [hh] at hh'
    simp at hh'
    exact hne hh'.2
  rw [hg.block g hlt (fun h3=>hng h3.symm)]
  exact hh

def OwnDp (e:TypeId) (w:World) (v:Value) (p:Rat × Rat):Prop:=OwnD e 0 w v p.1 p.2
def OwnE (e:TypeId) (B:Nat) (w:World) (v:Value) (a b:Rat):Prop:=∃ n d m c,v=.agg #[.bool (decide (a.num < 0)),n,d,.bool (decide (b.num < 0)),m,c]∧OwnB e B w n (bitsOf a.num.natAbs)∧OwnB e B w d (bitsOf a.den)∧OwnB e B w m (bitsOf b.num.natAbs)∧OwnB e B w c (bitsOf b.den)
def OwnEp (e:TypeId) (w:World) (v:Value) (p:Rat × Rat):Prop:=OwnE e 0 w v p.1 p.2
theorem OwnE.rd {e:TypeId} {B:Nat} {w:World} {v:Value} {a b:Rat} (h:OwnE e B w v a b):RdE w v a b:=by
 obtain ⟨n,d,m,c,rfl,h1,h2,h3,h4⟩:=h
 exact ⟨_,_,_,_,_,_,rfl,⟨_,_,rfl,h1.rd,h2.rd⟩,⟨_,_,rfl,h3.rd,h4.rd⟩⟩
theorem OwnD.ext {e:TypeId} {B:Nat} {w w':World} {v:Value} {a b:Rat} (h:OwnD e B w v a b) (x:Ext w w'):OwnD e B w' v a b:=by
 obtain ⟨n,d,m,c,rfl,h1,h2,h3,h4⟩:=h
 exact ⟨_,_,_,_,rfl,h1.ext x,h2.ext x,h3.ext x,h4.ext x⟩
theorem OwnE.ext {e:TypeId} {B:Nat} {w w':World} {v:Value} {a b:Rat} (h:OwnE e B w v a b) (x:Ext w w'):OwnE e B w' v a b:=by
 obtain ⟨n,d,m,c,rfl,h1,h2,h3,h4⟩:=h
 exact ⟨_,_,_,_,rfl,h1.ext x,h2.ext x,h3.ext x,h4.ext x⟩
theorem OwnD.mono {e:TypeId} {B B':Nat} {w:World} {v:Value} {a b:Rat} (h:OwnD e B w v a b) (hB:B'≤B):OwnD e B' w v a b:=by
 obtain ⟨n,d,m,c,rfl,h1,h2,h3,h4⟩:=h
 exact ⟨_,_,_,_,rfl,h1.mono hB,h2.mono hB,h3.mono hB,h4.mono hB⟩
theorem OwnE.mono {e:TypeId} {B B':Nat} {w:World} {v:Value} {a b:Rat} (h:OwnE e B w v a b) (hB:B'≤B):OwnE e B' w v a b:=by
 obtain ⟨n,d,m,c,rfl,h1,h2,h3,h4⟩:=h
 exact ⟨_,_,_,_,rfl,h1.mono hB,h2.mono hB,h3.mono hB,h4.mono hB⟩
theorem OwnDp.ext {e:TypeId} {w w':World} {v:Value} {p:Rat × Rat} (h:OwnDp e w v p) (x:Ext w w'):OwnDp e w' v p:=OwnD.ext h x
theorem OwnEp.ext {e:TypeId} {w w':World} {v:Value} {p:Rat × Rat} (h:OwnEp e w v p) (x:Ext w w'):OwnEp e w' v p:=OwnE.ext h x
theorem OwnDp.grown {e e':TypeId} {w w':World} {v v':Value} {p:Rat × Rat} {B n size:Nat} {xs:List Value} (h:OwnDp e w v p) (hr:w.ownsRow B e' size v' n xs) (hne:e≠e') (hg:w.grownBy w' v'.ownBlock):OwnDp e w' v p:=by
 obtain ⟨n,d,m,c,rfl,h1,h2,h3,h4⟩:=h
 exact ⟨_,_,_,_,rfl,⟨owns_grown h1.1 hr hne hg,h1.2⟩,⟨owns_grown h2.1 hr hne hg,h2.2⟩,⟨owns_grown h3.1 hr hne hg,h3.2⟩,⟨owns_grown h4.1 hr hne hg,h4.2⟩⟩
theorem OwnEp.grown {e e':TypeId} {w w':World} {v v':Value} {p:Rat × Rat} {B n size:Nat} {xs:List Value} (h:OwnEp e w v p) (hr:w.ownsRow B e' size v' n xs) (hne:e≠e') (hg:w.grownBy w' v'.ownBlock):OwnEp e w' v p:=by
 obtain ⟨n,d,m,c,rfl,h1,h2,h3,h4⟩:=h
 exact ⟨_,_,_,_,rfl,owns_grown h1 hr hne hg,owns_grown h2 hr hne hg,owns_grown h3 hr hne hg,owns_grown h4 hr hne hg⟩
theorem OwnRow.snocT {α:Type} {k:Nat} {T:World→Value→α→Prop} {e:TypeId} {B:Nat} {w w':World} {v':Value} {l:List α} {a:α} {c:List Value} {E:List (List Value)} (hp:Pw k (fun c a=>T w (.agg c.toArray) a) E l) (hT:∀ v a,T w v a→T w' v a)
  (ho:w'.ownsRow B e k v' (l.length+1) (E.flatten ++ c)) (hc:c.length=k) (ha:T w (.agg c.toArray) a):OwnRow k T e B w' v' (l ++ [a]):=by
 refine ⟨E ++ [c],?_,(hp.mono fun _ _ h=>hT _ _ h).app (Pw.one hc (hT _ _ ha))⟩
 rw [List.length_append,List.flatten_append]
 simpa using ho
theorem RdRow.mono {α:Type} {k:Nat} {T S:World→Value→α→Prop} {w:World} {v:Value} {l:List α} (h:RdRow k T w v l) (hTS:∀ v a,T w v a→S w v a):RdRow k S w v l:=by
 obtain ⟨E,h1,h2⟩:=h
 exact ⟨E,h1,h2.mono fun _ _ h=>hTS _ _ h⟩
open Go.RowKit

structure Kd {α:Type} (e:TypeId) (T:World→Value→α→Prop):Prop where
 ext:∀ {w w':World} {v:Value} {a:α},T w v a→Ext w w'→T w' v a
 grown:∀ {w w':World} {v v':Value} {a:α} {B n size:Nat} {xs:List Value},T w v a→w.ownsRow B e size v' n xs→w.grownBy w' v'.ownBlock→T w' v a
 one:∀ {w:World} {cs:List Value} {a:α},T w (.agg cs.toArray) a→∀ u∈cs,u.oneCell'=true
theorem append_row {α:Type} {P:Program} {o:Oper} {a:Act} {K:Act→World→Prop} {Q:Exit→Act→World→Prop} {t e:TypeId} {z:Value} {size bytes:Nat} (ET:ElemT P t e z size bytes) {T:World→Value→α→Prop} (hT:Kd e T)
  (s x:Operand) (ho:o.op=.call { callee:=.builtin .append,args:=#[s,x],argTypes:=#[t,t] }) (B:Nat) {v:Value} {l:List α} (hs:a.eval s=v) {w0:World} (c:List Value) {t':TypeId} {y:α}
  (hx:a.eval x=.slice (some ⟨w0.heap.size,0,none⟩) 1 1) (hown:OwnRow size T e B w0 v l) (hc:c.length=size) (ha:T w0 (.agg c.toArray) y) (hB:B≤w0.heap.size) (hl:(l.length+1)*bytes≤140737488355328) (hm:l.length+1≤maxLen)
  (h:∀ v' w',OwnRow size T e B w' v' (l ++ [y])→Below B w0 w'→(w0.alloc (.cells c.toArray t')).grownBy w' v.ownBlock→K (a.put o.dst v') w'):o.wp P a (w0.alloc (.cells c.toArray t')) K Q:=by
 obtain ⟨E,hE,hP⟩:=hown
 have X:Ext w0 (w0.alloc (.cells c.toArray t')):=Ext.alloc _ _
 have hE':=Ext.owns X hE
 refine append_rdK ET s x ho B hs hE' hx (RdV.lit w0 c.toArray t' size 1 (by simpa using hc) (by unfold maxLen;omega)) (fun u hu=>hT.one ha u (by simpa using hu)) hl hm (Nat.le_trans hB (Below.size X)) ?_
 intro v' w' o' b' g'
 exact h v' w' (OwnRow.snocT (hP.mono fun _ _ h=>hT.ext h X) (fun _ _ h=>hT.grown h hE' g') (by simpa using o') hc (hT.ext ha X)) (Below.trans ((show Below w0.heap.size w0 _ from X).mono hB) b') g'

theorem append_rowL {α:Type} {P:Program} {ops:Array Oper} {rest:List Oper} {o:Oper} {a:Act} {Q:Exit→Act→World→Prop} {t e:TypeId} {z:Value} {size bytes:Nat} (ET:ElemT P t e z size bytes) {T:World→Value→α→Prop} (hT:Kd e T)
  (hgd:Region.wanted o (yielded ops a.tmps)=true) (s x:Operand) (ho:o.op=.call { callee:=.builtin .append,args:=#[s,x],argTypes:=#[t,t] }) (B:Nat) {v:Value} {l:List α} (hs:a.eval s=v) {w0:World} (c:List Value) {t':TypeId} {y:α}
  (hx:a.eval x=.slice (some ⟨w0.heap.size,0,none⟩) 1 1) (hown:OwnRow size T e B w0 v l) (hc:c.length=size) (ha:T w0 (.agg c.toArray) y) (hB:B≤w0.heap.size) (hl:(l.length+1)*bytes≤140737488355328) (hm:l.length+1≤maxLen)
  (h:∀ v' w',OwnRow size T e B w' v' (l ++ [y])→Below B w0 w'→(w0.alloc (.cells c.toArray t')).grownBy w' v.ownBlock→wpList P ops Q rest (a.put o.dst v') w'):wpList P ops Q (o :: rest) a (w0.alloc (.cells c.toArray t')):=
 wpList_want hgd fun _ hK=>append_row ET hT s x ho B hs c hx hown hc ha hB hl hm fun v' w' a1 a2 a3=>hK _ _ (h v' w' a1 a2 a3)

def OwnQp (e:TypeId) (w:World) (v:Value) (q:Rat):Prop:=OwnQ e 0 w v q
def OwnPp (e:TypeId) (w:World) (v:Value) (q:Rat):Prop:=OwnP e 0 w v q
theorem one_q {w:World} {cs:List Value} {q:Rat} (h:RdQ w (.agg cs.toArray) q):∀ u∈cs,u.oneCell'=true:=by
 obtain ⟨a,c,b,d,rfl⟩:=cells_Q h
 intro u hu
 simp at hu
 rcases hu with rfl | rfl | rfl <;> rfl
theorem one_p {w:World} {cs:List Value} {q:Rat} (h:RdP w (.agg cs.toArray) q):∀ u∈cs,u.oneCell'=true:=by
 obtain ⟨a,c,b,d,rfl⟩:=cells_P h
 intro u hu
 simp at hu
 rcases hu with rfl | rfl | rfl <;> rfl
theorem OwnQ.grown {e e':TypeId} {B':Nat} {w w':World} {v v':Value} {q:Rat} {B n size:Nat} {xs:List Value} (h:OwnQ e B' w v q) (hr:w.ownsRow B e' size v' n xs) (hne:e≠e') (hg:w.grownBy w' v'.ownBlock):OwnQ e B' w' v q:=by
 obtain ⟨n,d,rfl,h1,h2⟩:=h
 exact ⟨_,_,rfl,⟨owns_grown h1.1 hr hne hg,h1.2⟩,⟨owns_grown h2.1 hr hne hg,h2.2⟩⟩
theorem OwnP.grown {e e':TypeId} {B':Nat} {w w':World} {v v':Value} {q:Rat} {B n size:Nat} {xs:List Value} (h:OwnP e B' w v q) (hr:w.ownsRow B e' size v' n xs) (hne:e≠e') (hg:w.grownBy w' v'.ownBlock):OwnP e B' w' v q:=by
 obtain ⟨n,d,rfl,h1,h2⟩:=h
 exact ⟨_,_,rfl,owns_grown h1 hr hne hg,owns_grown h2 hr hne hg⟩
theorem kdQ {e e':TypeId} (hne:e≠e'):Kd e' (OwnQp e):=⟨fun h X=>OwnQ.ext h X,fun h hr hg=>OwnQ.grown h hr hne hg,fun h=>one_q (OwnQ.rd h)⟩
theorem kdP {e e':TypeId} (hne:e≠e'):Kd e' (OwnPp e):=⟨fun h X=>OwnP.ext h X,fun h hr hg=>OwnP.grown h hr hne hg,fun h=>one_p (OwnP.rd h)⟩
theorem OwnQ.op {e:TypeId} {B:Nat} {w:World} {v:Value} {q:Rat} (h:OwnQ e B w v q):∃ s a l c a' l' c',v=.agg #[.bool s,.slice a l c,.slice a' l' c']∧Hid (OwnQ e B w (.agg #[.bool s,.slice a l c,.slice a' l' c']) q):=by
 have h0:=h
 obtain ⟨n,d,rfl,h1,h2⟩:=h
 obtain ⟨a,c,rfl,-,-,-,-⟩:=h1.rd.1.shape
 obtain ⟨a',c',rfl,-,-,-,-⟩:=h2.rd.1.shape
 exact ⟨_,_,_,_,_,_,_,rfl,h0⟩
theorem RdQ.op {w:World} {v:Value} {q:Rat} (h:RdQ w v q):∃ s a l c a' l' c',v=.agg #[.bool s,.slice a l c,.slice a' l' c']∧Hid (RdQ w (.agg #[.bool s,.slice a l c,.slice a' l' c']) q):=by
 have h0:=h
 obtain ⟨n,d,rfl,h1,h2⟩:=h
 obtain ⟨a,c,rfl,-,-,-,-⟩:=h1.1.shape
 obtain ⟨a',c',rfl,-,-,-,-⟩:=h2.1.shape
 exact ⟨_,_,_,_,_,_,_,rfl,h0⟩
theorem OwnP.op {e:TypeId} {B:Nat} {w:World} {v:Value} {q:Rat} (h:OwnP e B w v q):∃ s a l c a' l' c',v=.agg #[.bool s,.slice a l c,.slice a' l' c']∧Hid (OwnP e B w (.agg #[.bool s,.slice a l c,.slice a' l' c']) q):=by
 have h0:=h
 obtain ⟨n,d,rfl,h1,h2⟩:=h
 obtain ⟨a,c,rfl,-,-,-,-⟩:=h1.rd.shape
 obtain ⟨a',c',rfl,-,-,-,-⟩:=h2.rd.shape
 exact ⟨_,_,_,_,_,_,_,rfl,h0⟩
theorem RdP.op {w:World} {v:Value} {q:Rat} (h:RdP w v q):∃ s a l c a' l' c',v=.agg #[.bool s,.slice a l c,.slice a' l' c']∧Hid (RdP w (.agg #[.bool s,.slice a l c,.slice a' l' c']) q):=by
 have h0:=h
 obtain ⟨n,d,rfl,h1,h2⟩:=h
 obtain ⟨a,c,rfl,-,-,-,-⟩:=h1.shape
 obtain ⟨a',c',rfl,-,-,-,-⟩:=h2.shape
 exact ⟨_,_,_,_,_,_,_,rfl,h0⟩
theorem OwnD.op {e:TypeId} {B:Nat} {w:World} {v:Value} {p q:Rat} (h:OwnD e B w v p q):∃ s a l c a' l' c' t b m d b' m' d',v=.agg #[.bool s,.slice a l c,.slice a' l' c',.bool t,.slice b m d,.slice b' m' d']∧Hid (OwnD e B w (.agg #[.bool s,.slice a l c,.slice a' l' c',.bool t,.slice b m d,.slice b' m' d']) p q):=by
 have h0:=h
 obtain ⟨n,d,n',d',rfl,h1,h2,h3,h4⟩:=h
 obtain ⟨_,_,rfl,-,-,-,-⟩:=h1.rd.1.shape
 obtain ⟨_,_,rfl,-,-,-,-⟩:=h2.rd.1.shape
 obtain ⟨_,_,rfl,-,-,-,-⟩:=h3.rd.1.shape
 obtain ⟨_,_,rfl,-,-,-,-⟩:=h4.rd.1.shape
 exact ⟨_,_,_,_,_,_,_,_,_,_,_,_,_,_,rfl,h0⟩
theorem RdD.op {w:World} {v:Value} {p q:Rat} (h:RdD w v p q):∃ s a l c a' l' c' t b m d b' m' d',v=.agg #[.bool s,.slice a l c,.slice a' l' c',.bool t,.slice b m d,.slice b' m' d']∧Hid (RdD w (.agg #[.bool s,.slice a l c,.slice a' l' c',.bool t,.slice b m d,.slice b' m' d']) p q):=by
 have h0:=h
 obtain ⟨x,y,z,x',y',z',rfl,h1,h2⟩:=h
 obtain ⟨s,a,l,c,a',l',c',e1,-⟩:=h1.op
 obtain ⟨t,b,m,d,b',m',d',e2,-⟩:=h2.op
 simp only [Value.agg.injEq,Array.mk.injEq,List.cons.injEq,and_true] at e1 e2
 obtain ⟨rfl,rfl,rfl⟩:=e1
 obtain ⟨rfl,rfl,rfl⟩:=e2
 exact ⟨_,_,_,_,_,_,_,_,_,_,_,_,_,_,rfl,h0⟩
theorem RdE.op {w:World} {v:Value} {p q:Rat} (h:RdE w v p q):∃ s a l c a' l' c' t b m d b' m' d',v=.agg #[.bool s,.slice a l c,.slice a' l' c',.bool t,.slice b m d,.slice b' m' d']∧Hid (RdE w (.agg #[.bool s,.slice a l c,.slice a' l' c',.bool t,.slice b m d,.slice b' m' d']) p q):=by
 have h0:=h
 obtain ⟨x,y,z,x',y',z',rfl,h1,h2⟩:=h
 obtain ⟨s,a,l,c,a',l',c',e1,-⟩:=h1.op
 obtain ⟨t,b,m,d,b',m',d',e2,-⟩:=h2.op
 simp only [Value.agg.injEq,Array.mk.injEq,List.cons.injEq,and_true] at e1 e2
 obtain ⟨rfl,rfl,rfl⟩:=e1
 obtain ⟨rfl,rfl,rfl⟩:=e2
 exact ⟨_,_,_,_,_,_,_,_,_,_,_,_,_,_,rfl,h0⟩
theorem OwnE.op {e:TypeId} {B:Nat} {w:World} {v:Value} {p q:Rat} (h:OwnE e B w v p q):∃ s a l c a' l' c' t b m d b' m' d',v=.agg #[.bool s,.slice a l c,.slice a' l' c',.bool t,.slice b m d,.slice b' m' d']∧Hid (OwnE e B w (.agg #[.bool s,.slice a l c,.slice a' l' c',.bool t,.slice b m d,.slice b' m' d']) p q):=by
 obtain ⟨s,a,l,c,a',l',c',t,b,m,d,b',m',d',rfl,-⟩:=h.rd.op
 exact ⟨_,_,_,_,_,_,_,_,_,_,_,_,_,_,rfl,h⟩

abbrev NN:=Bool × List Nat × List Nat
def qN (n:NN):Rat:=qOf n.1 n.2.1 n.2.2
def RdNp (w:World) (v:Value) (n:NN):Prop:=RdN w v n.1 n.2.1 n.2.2
def RdNDp (w:World) (v:Value) (p:NN × NN):Prop:=RdND w v p.1.1 p.1.2.1 p.1.2.2 p.2.1 p.2.2.1 p.2.2.2
theorem RdNp.ext {w w':World} {v:Value} {n:NN} (h:RdNp w v n) (e:Ext w w'):RdNp w' v n:=RdN.ext h e
theorem RdNDp.ext {w w':World} {v:Value} {p:NN × NN} (h:RdNDp w v p) (e:Ext w w'):RdNDp w' v p:=RdND.ext h e
def Nlt (L:Nat) (n:NN):Prop:=n.2.1.length≤L∧n.2.2.length≤L
theorem cells_N {w:World} {cs:List Value} {n:NN} (h:RdNp w (.agg cs.toArray) n):∃ y z,cs=[.bool n.1,y,z]:=by
 obtain ⟨y,z,he,-,-⟩:=h
 have:cs.toArray=#[.bool n.1,y,z]:=by simpa using he
 exact ⟨y,z,by simpa using congrArg Array.toList this⟩
open Go.RowKit

section
variable {P:Program} {ops:Array Oper} {Q:Exit→Act→World→Prop} {md:Region.Mode} {S:World→Prop} {st:Nat}
def wpAnyL (P:Program) (md:Region.Mode) (ops:Array Oper) (Q:Exit→Act→World→Prop) (st:Nat) (S:World→Prop):Nat→Array Bool→Act→World→Prop
 | 0,l,a,w=>Region.ready md ops l=[]∧Q .normal a w
 | n+1,l,a,w=>(Region.ready md ops l=[]→Q .normal a w)∧
  ∀ i∈Region.ready md ops l,wpOp P ops Q i (fun a' w'=>(i≠st→S w')∧wpAnyL P md ops Q st S n (l.setIfInBounds i true) a' w') a w
theorem wpAny_of_last:∀ (n:Nat) (l:Array Bool) (a:Act) (w:World),wpAnyL P md ops Q st S n l a w→wpAny P md ops Q n l a w
 | 0,_,_,_,h=>h
 | n+1,_,_,_,h=>⟨h.1,fun i hi=>wpOp_mono (fun a' w' h'=>wpAny_of_last n _ a' w' h'.2) (h.2 i hi)⟩
theorem wpAnyL_first {i:Nat} {oi:Oper} {v:Value} (hi:ops[i]?=some oi) (hsel:∀ (j:Nat) (o:Oper) cs b,ops[j]?=some o→o.op≠.select cs b)
  (hQ:∀ c a w,Q (.panic c) (a.put oi.dst v) w→Q (.panic c) a w) (hst:∀ o,ops[st]?=some o→∃ e∈o.after,Region.binds md e=true∧e.on=i):
  ∀ (n:Nat) (l:Array Bool) (a:Act) (w:World),
   (∀ j oj,ops[j]?=some oj→j≠i→l.getD j true=false→(∀ e∈oj.after,Region.binds md e=true→e.on≠i)→oi.apart ops oj=true)→
   i∈Region.ready md ops l→YieldsIf P ops S oi v a→S w→
   wpAnyL P md ops Q st S n (l.setIfInBounds i true) (a.put oi.dst v) w→wpAnyL P md ops Q st S (n+1) l a w:=by
 intro n
 induction n with
 | zero=>
  intro l a w _ hr hy hS H
  refine ⟨fun h=>(by rw [h] at hr;cases hr),fun j hj=>?_⟩
  by_cases hji:j=i
  ·subst hji;exact hy.wpOp hi hS ⟨fun _=>hS,H⟩
  ·have:=ready_mono hj hji
   rw [H.1] at this
   cases this
 | succ n ih=>
  intro l a w hfree hr hy hS H
  refine ⟨fun h=>(by rw [h] at hr;cases hr),fun j hj=>?_⟩
  by_cases hji:j=i
  ·subst hji;exact hy.wpOp hi hS ⟨fun _=>hS,H⟩
  ·have h1:=H.2 j (ready_mono hj hji)
   obtain ⟨hjun,oj,hoj,hall⟩:=mem_ready.1 hj
   have hnot:∀ e∈oj.after,Region.binds md e=true→e.on≠i:=fun e he hb heq=>by
    have h1:=hall e he hb
    have h0:=(mem_ready.1 hr).1
    rw [heq] at h1
    rcases Nat.lt_or_ge i l.size with h' | h'
    ·simp [h'] at h0 h1;rw [h0] at h1;cases h1
    ·simp [Array.getElem?_eq_none h'] at h1
   have hjs:j≠st:=fun h=>by
    subst h
    obtain ⟨e,he,hb,heq⟩:=hst oj hoj
    exact hnot e he hb heq
   have h2:=wpOp_putIf hoj (hfree j oj hoj hji hjun hnot) (fun cs b=>hsel i oi cs b hi) (fun cs b=>hsel j oj cs b hoj) hQ hy h1
   have hfree':∀ k ok,ops[k]?=some ok→k≠i→(l.setIfInBounds j true).getD k true=false→
     (∀ e∈ok.after,Region.binds md e=true→e.on≠i)→oi.apart ops ok=true:=fun k ok hk hki hun hno=>by
    refine hfree k ok hk hki ?_ hno
    by_cases hjk:j=k
    ·subst hjk;exact hjun
    ·rw [getD_set_ne true hjk] at hun;exact hun
   refine wpOp_mono (fun a' w' h3=>⟨h3.2.1,ih (l.setIfInBounds j true) a' w' hfree' (ready_mono hr (Ne.symm hji)) h3.1 (h3.2.1 hjs) ?_⟩) h2
   rw [Array.setIfInBounds_comm _ _ hji]
   exact h3.2.2
def waitsB (md:Region.Mode) (ops:Array Oper) (st i:Nat):Bool:=match ops[st]? with
 | some o=>o.after.any fun e=>Region.binds md e && e.on == i
 | none=>true
theorem wpAnyL_take {i:Nat} {oi:Oper} {v:Value} {n:Nat} {l:Array Bool} {a:Act} {w:World} (hi:ops[i]?=some oi)
  (hs:Region.noSelect ops=true) (hf:Region.free md ops l i=true) (hr:(Region.ready md ops l).contains i=true) (hw:waitsB md ops st i=true)
  (hQ:∀ c a w,Q (.panic c) (a.put oi.dst v) w→Q (.panic c) a w) (hy:YieldsIf P ops S oi v a) (hS:S w)
  (h:wpAnyL P md ops Q st S n (l.setIfInBounds i true) (a.put oi.dst v) w):wpAnyL P md ops Q st S (n+1) l a w:=by
 refine wpAnyL_first hi (Region.noSelect_spec hs) hQ (fun o ho=>?_) n l a w (Region.free_spec hi hf) (by simpa using hr) hy hS h
 unfold waitsB at hw
 rw [ho] at hw
 simp only [Array.any_eq_true,Bool.and_eq_true,beq_iff_eq] at hw
 obtain ⟨k,hk,h1,h2⟩:=hw
 exact ⟨_,Array.getElem_mem hk,h1,h2⟩
def AllReadyL (P:Program) (md:Region.Mode) (ops:Array Oper) (Q:Exit→Act→World→Prop) (st:Nat) (S:World→Prop) (n:Nat) (l:Array Bool) (a:Act) (w:World) (rs:List Nat):Prop:=
 ∀ i∈rs,wpOp P ops Q i (fun a' w'=>(i≠st→S w')∧wpAnyL P md ops Q st S n (l.setIfInBounds i true) a' w') a w
theorem AllReadyL.nil {n:Nat} {l:Array Bool} {a:Act} {w:World}:AllReadyL P md ops Q st S n l a w []:=fun _ h=>by cases h
theorem AllReadyL.cons {n:Nat} {l:Array Bool} {a:Act} {w:World} {i:Nat} {o:Oper} {rs:List Nat} (ho:ops[i]?=some o)
  (h:∀ K':Act→World→Prop,Shut (∀ a w,S w→(S w→wpAnyL P md ops Q st S n (l.setIfInBounds i true) a w)→K' a w)→if Region.wanted o (yielded ops a.tmps)=true then Oper.wp P o a w K' Q else K' (a.put o.dst undef) w)
  (hs:AllReadyL P md ops Q st S n l a w rs):AllReadyL P md ops Q st S n l a w (i :: rs):=fun j hj=>by
 rcases List.mem_cons.1 hj with rfl | hj
 ·exact wpOp_step ho (fun K' hK=>h K' (fun a w hS hW=>hK a w ⟨fun _=>hS,hW hS⟩))
 ·exact hs j hj
theorem AllReadyL.last {n:Nat} {l:Array Bool} {a:Act} {w:World} {o:Oper} (ho:ops[st]?=some o)
  (h:∀ K':Act→World→Prop,Shut (∀ a w,wpAnyL P md ops Q st S n (l.setIfInBounds st true) a w→K' a w)→if Region.wanted o (yielded ops a.tmps)=true then Oper.wp P o a w K' Q else K' (a.put o.dst undef) w):
  AllReadyL P md ops Q st S n l a w [st]:=fun j hj=>by
 obtain rfl:=List.mem_singleton.1 hj
 exact wpOp_step ho (fun K' hK=>h K' (fun a w hW=>hK a w ⟨fun h=>absurd rfl h,hW⟩))
theorem wpAnyL_ready {rs:List Nat} {n:Nat} {l:Array Bool} {a:Act} {w:World} (hr:Region.ready md ops l=rs) (hne:rs≠[])
  (h:AllReadyL P md ops Q st S n l a w rs):wpAnyL P md ops Q st S (n+1) l a w:=⟨fun h0=>absurd (hr ▸ h0) hne,hr ▸ h⟩
theorem wpAnyL_done {l:Array Bool} {a:Act} {w:World} (hr:Region.ready md ops l=[]) (h:Q .normal a w):∀ n,wpAnyL P md ops Q st S n l a w
 | 0=>⟨hr,h⟩
 | _+1=>⟨fun _=>h,by rw [hr];simp⟩
theorem tkL {oi:Oper} {v:Value} {n:Nat} {l:Array Bool} {a:Act} {w:World} (i:Nat) (hS:S w)
  (h:wpAnyL P md ops Q st S n (l.setIfInBounds i true) (a.put oi.dst v) w) (hi:ops[i]?=some oi:=by rfl) (hb:(Region.noSelect ops && Region.free md ops l i && (Region.ready md ops l).contains i && waitsB md ops st i)=true:=by kernel_rfl)
  (hQ:∀ c a w,Q (.panic c) (a.put oi.dst v) w→Q (.panic c) a w:=by exact fun _ _ _ h=>h) (hw:Region.wanted oi (yielded ops a.tmps)=true:=by rfl) (hy:∀ w,S w→(execOp a.eval oi).run P w=.ok (.value v) w:=by (intro w0 hSw;(try dsimp only at hSw);go_simp;try with_reducible rfl)):wpAnyL P md ops Q st S (n+1) l a w:=by
 simp only [Bool.and_eq_true] at hb
 exact wpAnyL_take hi hb.1.1.1 hb.1.1.2 hb.1.2 hb.2 hQ (.inl ⟨hw,hy⟩) hS h
theorem rdL {o:Oper} {n:Nat} {l:Array Bool} {a:Act} {w:World} (i:Nat) (hr:Region.ready md ops l=[i]) (ho:ops[i]?=some o)
  (h:∀ K':Act→World→Prop,Shut (∀ a w,S w→(S w→wpAnyL P md ops Q st S n (l.setIfInBounds i true) a w)→K' a w)→if Region.wanted o (yielded ops a.tmps)=true then Oper.wp P o a w K' Q else K' (a.put o.dst undef) w):wpAnyL P md ops Q st S (n+1) l a w:=
 wpAnyL_ready hr (by simp) (AllReadyL.cons ho h AllReadyL.nil)
theorem wp_region_last_drew {id:Nat} {a:Act} {w:World} (hm:P.follows .mixedOrders=true) (hS:S w.drew)
  (h:S w.drew→wpAnyL P .any ops Q st S ops.size (Array.replicate ops.size false) a w.drew):(Code.region id ops true).wp P Q a w:=
 wp_region_any hm (wpAny_of_last _ _ _ _ (h hS))
end
open Go.RowKit

theorem append_where {P:Program} (w:World) (base:Nat) (t ty e:TypeId) (i:TypeInfo) (z:Value) (size bytes:Nat) (ht:P.underlying t=some (.slice e)) (hi:P.info? e=some i) (hz:i.zero=some z)
  (hsize:i.size=size) (hby:i.bytes=bytes) (v:Value) (n:Nat) (xs:List Value) (hown:w.ownsRow base e size v n xs)
  (a:Addr) (m c:Nat) (news:List Value) (hl:news.length=m*size) (hnews:∀ j u,news[j]?=some u→w.cell? (a.add j)=some u) (h1:∀ u∈news,u.oneCell'=true)
  (h63:n+m≤maxLen) (hbytes:(n+m)*bytes≤140737488355328) (hm:0 < m) {v':Value} {w':World} (hr:(Builtin.append_ #[t,t] ty #[v,.slice (some a) m c]).run P w=.ok v' w'):
  ∀ g,v'.ownBlock=some g→v.ownBlock=some g∨w.heap.size≤g:=by
 subst hsize
 subst hby
 have hsmall:n+m≤9223372036854775807:=by simp only [maxLen] at h63;omega
 intro g0 hg0
 rcases hown.2 with ⟨rfl,rfl⟩ | ⟨g,cap,cur,rfl,hbg,hg,hnc,hcm,hcs,htake⟩
 ·have h:=run_append_nil (P:=P) w t ty e i z ht hi hz a m c news hl hnews hm (by omega) (by have hb:=hbytes;simp only [Nat.zero_add] at hb;omega)
  rw [h] at hr
  simp only [Result.ok.injEq] at hr
  rw [← hr.1] at hg0
  simp [Value.ownBlock] at hg0
  exact .inr (Nat.le_of_eq hg0)
 ·by_cases hroom:n+m≤cap
  ·have hfit:n*i.size+news.length≤cur.size:=by rw [hl,hcs,← Nat.add_mul];exact Nat.mul_le_mul_right _ hroom
   have h:=run_append_room (P:=P) w t ty e i ht hi g n cap cur hg a m c news hl hnews h1 hroom hfit
   rw [h] at hr
   simp only [Result.ok.injEq] at hr
   rw [← hr.1] at hg0
   exact .inl hg0
  ·have holds:∀ j u,xs[j]?=some u→w.cell? ((⟨g,0,none⟩:Addr).add j)=some u:=hown.cells (g:=g) rfl
   have h:=run_append_grow (P:=P) w t ty e i z ht hi hz ⟨g,0,none⟩ n cap xs hown.1 holds a m c news hl hnews (by omega) (by omega) (growslice_fits (by omega) hbytes)
   rw [h] at hr
   simp only [Result.ok.injEq] at hr
   rw [← hr.1] at hg0
   simp [Value.ownBlock] at hg0
   exact .inr (Nat.le_of_eq hg0)

def Apt (v u:Value):Prop:=∀ g,v.ownBlock=some g→u.ownBlock≠some g
theorem Apt.symm {v u:Value} (h:Apt v u):Apt u v:=fun g h1 h2=>h g h2 h1
theorem OwnRow.lt {α:Type} {k B:Nat} {T:World→Value→α→Prop} {e:TypeId} {w:World} {v:Value} {l:List α} (h:OwnRow k T e B w v l):∀ g,v.ownBlock=some g→B≤g∧g < w.heap.size:=by
 obtain ⟨E,hE,-⟩:=h
 exact hE.lt
theorem OwnRow.apart {α:Type} {k B:Nat} {T:World→Value→α→Prop} {e:TypeId} {w w':World} {v u:Value} {l:List α} (h:OwnRow k T e B w v l) (ha:Apt v u) (hg:w.grownBy w' u.ownBlock) (hT:∀ v a,T w v a→T w' v a):OwnRow k T e B w' v l:=by
 obtain ⟨E,hE,hP⟩:=h
 refine ⟨E,hE.kept hg ?_,hP.mono fun _ _ h=>hT _ _ h⟩
 cases hv:v.ownBlock with
 | none=>exact .inl rfl
 | some g=>exact .inr fun h=>ha g hv (by rw [← h])
theorem Bx.grow {w w':World} {b:Nat} {cs:List Value} {o:Option Nat} (h:Bx w b cs) (hg:w.grownBy w' o) (hne:o≠some b):Bx w' b cs:=fun i v hv=>hg.cell (h i v hv) fun e=>hne e.symm
theorem OwnRow.own {α:Type} {k B:Nat} {T:World→Value→α→Prop} {e:TypeId} {w:World} {v:Value} {l:List α} (h:OwnRow k T e B w v l):∃ n xs,w.ownsRow B e k v n xs:=by
 obtain ⟨E,hE,-⟩:=h
 exact ⟨_,_,hE⟩
end Go.Att
