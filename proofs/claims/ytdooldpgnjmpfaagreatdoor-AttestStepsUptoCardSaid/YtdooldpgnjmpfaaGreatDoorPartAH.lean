/- A group of texts: Atom, OwnN, Net, Frame15, FrameA, Cls -/
import Derived.Test.YtdooldpgnjmpfaaGreatDoorPartAG
import Derived.Test.YtdooldpgnjmpfaaGreatDoorPartAD
import Derived.Sort.Statements
import Derived.Lib.SlicesCompact
namespace Go.Att
open Go.RowKit

theorem Bx.c5 {w:World} {b:Nat} {x0 x1 x2 x3 x4:Value} (h:Bx w b [x0,x1,x2,x3,x4]):w.cell? ⟨b,0,none⟩=some x0∧w.cell? ⟨b,1,none⟩=some x1∧w.cell? ⟨b,2,none⟩=some x2∧w.cell? ⟨b,3,none⟩=some x3∧w.cell? ⟨b,4,none⟩=some x4:=
 ⟨h 0 _ rfl,h 1 _ rfl,h 2 _ rfl,h 3 _ rfl,h 4 _ rfl⟩
theorem Bo.c5 {w:World} {b o:Nat} {x0 x1 x2 x3 x4:Value} {l:List Value} (h:Bo w b o (x0 :: x1 :: x2 :: x3 :: x4 :: l)):w.cell? ⟨b,o,none⟩=some x0∧w.cell? ⟨b,o+1,none⟩=some x1∧w.cell? ⟨b,o+2,none⟩=some x2∧w.cell? ⟨b,o+3,none⟩=some x3∧w.cell? ⟨b,o+4,none⟩=some x4:=
 ⟨h 0 _ rfl,h 1 _ rfl,h 2 _ rfl,h 3 _ rfl,h 4 _ rfl⟩
theorem Rt.c5 {w:World} {b:Nat} {t:TypeId} (h:Rt w b 5 t):∃ x0 x1 x2 x3 x4,w.cell? ⟨b,0,none⟩=some x0∧w.cell? ⟨b,1,none⟩=some x1∧w.cell? ⟨b,2,none⟩=some x2∧w.cell? ⟨b,3,none⟩=some x3∧w.cell? ⟨b,4,none⟩=some x4∧
  w.frozen? ⟨b,0,none⟩=false∧w.frozen? ⟨b,1,none⟩=false∧w.frozen? ⟨b,2,none⟩=false∧w.frozen? ⟨b,3,none⟩=false∧w.frozen? ⟨b,4,none⟩=false:=by
 obtain ⟨x0,h0,g0⟩:=h.rm.at 0 (by omega)
 obtain ⟨x1,h1,g1⟩:=h.rm.at 1 (by omega)
 obtain ⟨x2,h2,g2⟩:=h.rm.at 2 (by omega)
 obtain ⟨x3,h3,g3⟩:=h.rm.at 3 (by omega)
 obtain ⟨x4,h4,g4⟩:=h.rm.at 4 (by omega)
 exact ⟨x0,x1,x2,x3,x4,h0,h1,h2,h3,h4,g0,g1,g2,g3,g4⟩
theorem OwnRow.grown {α:Type} {k:Nat} {T:World→Value→α→Prop} {e e':TypeId} {B B':Nat} {w w':World} {v v':Value} {l:List α} {n size:Nat} {xs:List Value} (h:OwnRow k T e B w v l) (hT:∀ u a,T w u a→T w' u a) (hr:w.ownsRow B' e' size v' n xs) (hne:e≠e') (hg:w.grownBy w' v'.ownBlock):OwnRow k T e B w' v l:=by
 obtain ⟨E,h1,h2⟩:=h
 exact ⟨E,owns_grown h1 hr hne hg,h2.mono fun _ _ h=>hT _ _ h⟩
theorem OwnEx.grown {e t e':TypeId} {B':Nat} {w w':World} {v v':Value} {l:TL} {c:Rat} {B n size:Nat} {xs:List Value} (h:OwnEx e t B w v l c) (hr:w.ownsRow B' e' size v' n xs) (h1:e≠e') (h2:t≠e') (hg:w.grownBy w' v'.ownBlock):OwnEx e t B w' v l c:=by
 obtain ⟨s,x,y,z,rfl,h3,h4⟩:=h
 refine ⟨s,x,y,z,rfl,h3.grown (fun u a h=>h.grown hr h1 hg) hr h2 hg,?_⟩
 obtain ⟨n',d',he,g1,g2⟩:=h4
 exact ⟨n',d',he,⟨owns_grown g1.1 hr h1 hg,g1.2⟩,⟨owns_grown g2.1 hr h1 hg,g2.2⟩⟩
abbrev AT:=(TL × Rat) × Int
def OwnAt (e t:TypeId) (w:World) (v:Value) (p:AT):Prop:=∃ s x y z,v=.agg #[s,x,y,z,.int .i64 p.2]∧OwnEx e t 0 w (.agg #[s,x,y,z]) p.1.1 p.1.2
theorem OwnAt.ext {e t:TypeId} {w w':World} {v:Value} {p:AT} (h:OwnAt e t w v p) (x:Ext w w'):OwnAt e t w' v p:=by
 obtain ⟨a,b,c,d,rfl,h⟩:=h
 exact ⟨a,b,c,d,rfl,h.ext x⟩
theorem OwnAt.op {e t:TypeId} {w:World} {v:Value} {p:AT} (h:OwnAt e t w v p):∃ a k s b m d b' m' d',v=.agg #[.slice a p.1.1.length k,.bool s,.slice b m d,.slice b' m' d',.int .i64 p.2]∧Hid (OwnEx e t 0 w (.agg #[.slice a p.1.1.length k,.bool s,.slice b m d,.slice b' m' d']) p.1.1 p.1.2):=by
 obtain ⟨s,x,y,z,rfl,h⟩:=h
 obtain ⟨a,k,s,b,m,d,b',m',d',he,-,-,h1⟩:=h.op
 simp only [Value.agg.injEq,Array.mk.injEq,List.cons.injEq,and_true] at he
 obtain ⟨rfl,rfl,rfl,rfl⟩:=he
 exact ⟨a,k,s,b,m,d,b',m',d',rfl,h1⟩
theorem cells_At {e t:TypeId} {w:World} {cs:List Value} {p:AT} (h:OwnAt e t w (.agg cs.toArray) p):∃ a k s b m d b' m' d',cs=[.slice a p.1.1.length k,.bool s,.slice b m d,.slice b' m' d',.int .i64 p.2]∧OwnEx e t 0 w (.agg #[.slice a p.1.1.length k,.bool s,.slice b m d,.slice b' m' d']) p.1.1 p.1.2:=by
 obtain ⟨a,k,s,b,m,d,b',m',d',he,h1⟩:=h.op
 have:cs.toArray=#[.slice a p.1.1.length k,.bool s,.slice b m d,.slice b' m' d',.int .i64 p.2]:=by simpa using he
 exact ⟨a,k,s,b,m,d,b',m',d',by simpa using congrArg Array.toList this,h1.out⟩
theorem kdAt {e t e':TypeId} (h1:e≠e') (h2:t≠e'):Kd e' (OwnAt e t):=⟨fun h X=>h.ext X,fun h hr hg=>by
 obtain ⟨a,b,c,d,rfl,h⟩:=h
 exact ⟨a,b,c,d,rfl,h.grown hr h1 h2 hg⟩,fun h u hu=>by
 obtain ⟨a,k,s,b,m,d,b',m',d',rfl,-⟩:=cells_At h
 simp at hu
 rcases hu with rfl | rfl | rfl | rfl | rfl <;> rfl⟩
theorem RdRow.atm {e t:TypeId} {w:World} {a:Option Addr} {n c:Nat} {l:List AT} (h:RdRow 5 (OwnAt e t) w (.slice a n c) l) (i:Nat) (hi:i < l.length):
  ∃ b off x k s y m d y' m' d',a=some ⟨b,off,none⟩∧Bo w b (off+i*5) [.slice x l[i].1.1.length k,.bool s,.slice y m d,.slice y' m' d',.int .i64 l[i].2]∧OwnEx e t 0 w (.agg #[.slice x l[i].1.1.length k,.bool s,.slice y m d,.slice y' m' d']) l[i].1.1 l[i].1.2:=by
 obtain ⟨b1,o1,cs,he,hl,hT,hc⟩:=h.at (by decide) i hi
 obtain ⟨x,k,s,y,m,d,y',m',d',rfl,h2⟩:=cells_At hT
 exact ⟨b1,o1,x,k,s,y,m,d,y',m',d',he,Bo.of hc,h2⟩
abbrev NAT:=(List (Int × NN) × NN) × Int
def RdNA (w:World) (v:Value) (p:NAT):Prop:=∃ s x y z,v=.agg #[s,x,y,z,.int .i64 p.2]∧RdNE w (.agg #[s,x,y,z]) p.1.1 p.1.2
theorem RdNA.ext {w w':World} {v:Value} {p:NAT} (h:RdNA w v p) (x:Ext w w'):RdNA w' v p:=by
 obtain ⟨a,b,c,d,rfl,h⟩:=h
 exact ⟨a,b,c,d,rfl,h.ext x⟩
theorem RdNA.op {w:World} {v:Value} {p:NAT} (h:RdNA w v p):∃ a k y z,v=.agg #[.slice a p.1.1.length k,.bool p.1.2.1,y,z,.int .i64 p.2]∧RdNE w (.agg #[.slice a p.1.1.length k,.bool p.1.2.1,y,z]) p.1.1 p.1.2:=by
 obtain ⟨s,x,y,z,rfl,h⟩:=h
 have h2:=h
 obtain ⟨s',y',z',he,hr,-⟩:=h2
 simp only [Value.agg.injEq,Array.mk.injEq,List.cons.injEq,and_true] at he
 obtain ⟨rfl,rfl,rfl,rfl⟩:=he
 obtain ⟨a,k,rfl,-,-⟩:=hr.shape
 exact ⟨a,k,y,z,rfl,h⟩
def atA (p:NAT):AT:=((tL p.1.1,qN p.1.2),p.2)
def says (op:Int) (q:Rat):Bool:=(q.num.sign == 0 && op != 2) || (decide (q.num.sign < 0) && op != 3)
open Go.RowKit

def OwnN (e:TypeId) (w:World) (v:Value) (n:NN):Prop:=∃ y z,v=.agg #[.bool n.1,y,z]∧OwnL e 0 w y n.2.1∧OwnL e 0 w z n.2.2
theorem OwnN.ext {e:TypeId} {w w':World} {v:Value} {n:NN} (h:OwnN e w v n) (x:Ext w w'):OwnN e w' v n:=by
 obtain ⟨y,z,rfl,h1,h2⟩:=h
 exact ⟨y,z,rfl,h1.ext x,h2.ext x⟩
theorem OwnN.rd {e:TypeId} {w:World} {v:Value} {n:NN} (h:OwnN e w v n):RdNp w v n:=by
 obtain ⟨y,z,rfl,h1,h2⟩:=h
 exact ⟨y,z,rfl,h1.rd,h2.rd⟩
theorem OwnN.op {e:TypeId} {w:World} {v:Value} {n:NN} (h:OwnN e w v n):∃ a l c a' l' c',v=.agg #[.bool n.1,.slice a l c,.slice a' l' c']∧Hid (OwnN e w (.agg #[.bool n.1,.slice a l c,.slice a' l' c']) n):=by
 have h0:=h
 obtain ⟨y,z,rfl,h1,h2⟩:=h
 obtain ⟨a,c,rfl,-,-,-,-⟩:=h1.rd.1.shape
 obtain ⟨a',c',rfl,-,-,-,-⟩:=h2.rd.1.shape
 exact ⟨_,_,_,_,_,_,rfl,h0⟩
theorem OwnN.grown {e e':TypeId} {w w':World} {v v':Value} {q:NN} {B n size:Nat} {xs:List Value} (h:OwnN e w v q) (hr:w.ownsRow B e' size v' n xs) (hne:e≠e') (hg:w.grownBy w' v'.ownBlock):OwnN e w' v q:=by
 obtain ⟨n,d,rfl,h1,h2⟩:=h
 exact ⟨_,_,rfl,⟨owns_grown h1.1 hr hne hg,h1.2⟩,⟨owns_grown h2.1 hr hne hg,h2.2⟩⟩
theorem OwnN.putT {e t:TypeId} {c m:Nat} {w:World} {v:Value} {q:NN} (h:OwnN e w v q) (hc:Rt w c m t) (hne:e≠t) (i:Nat) (l:List Value):OwnN e (Att.putL w c i l) v q:=by
 obtain ⟨n,d,rfl,h1,h2⟩:=h
 exact ⟨_,_,rfl,h1.putT hc hne i l,h2.putT hc hne i l⟩
def OwnNT (e:TypeId) (w:World) (v:Value) (t:Int × NN):Prop:=∃ y z,v=.agg #[.int .i64 t.1,.bool t.2.1,y,z]∧OwnN e w (.agg #[.bool t.2.1,y,z]) t.2
theorem OwnNT.ext {e:TypeId} {w w':World} {v:Value} {t:Int × NN} (h:OwnNT e w v t) (x:Ext w w'):OwnNT e w' v t:=by
 obtain ⟨y,z,rfl,h⟩:=h
 exact ⟨y,z,rfl,h.ext x⟩
theorem OwnNT.rd {e:TypeId} {w:World} {v:Value} {t:Int × NN} (h:OwnNT e w v t):RdNT w v t:=by
 obtain ⟨y,z,rfl,h⟩:=h
 exact ⟨y,z,rfl,h.rd⟩
theorem OwnNT.putT {e t:TypeId} {c m:Nat} {w:World} {v:Value} {q:Int × NN} (h:OwnNT e w v q) (hc:Rt w c m t) (hne:e≠t) (i:Nat) (l:List Value):OwnNT e (Att.putL w c i l) v q:=by
 obtain ⟨a,b,rfl,h⟩:=h
 exact ⟨a,b,rfl,h.putT hc hne i l⟩
def OwnNA (e t:TypeId) (w:World) (v:Value) (p:NAT):Prop:=∃ s y z,v=.agg #[s,.bool p.1.2.1,y,z,.int .i64 p.2]∧OwnRow 4 (OwnNT e) t 0 w s p.1.1∧OwnN e w (.agg #[.bool p.1.2.1,y,z]) p.1.2
theorem OwnNA.ext {e t:TypeId} {w w':World} {v:Value} {p:NAT} (h:OwnNA e t w v p) (x:Ext w w'):OwnNA e t w' v p:=by
 obtain ⟨s,y,z,rfl,h1,h2⟩:=h
 exact ⟨s,y,z,rfl,h1.ext OwnNT.ext x,h2.ext x⟩
theorem OwnNA.rd {e t:TypeId} {w:World} {v:Value} {p:NAT} (h:OwnNA e t w v p):RdNA w v p:=by
 obtain ⟨s,y,z,rfl,h1,h2⟩:=h
 exact ⟨_,_,_,_,rfl,_,_,_,rfl,RdRow.mono h1.rd fun _ _ h=>h.rd,h2.rd⟩
open Go.RowKit

def RowT {α:Type} (k:Nat) (T:World→Value→α→Prop) (w:World) (v:Value) (l:List α):Prop:=∃ a c,v=.agg #[.slice a l.length c]∧RdRow k T w (.slice a l.length c) l
def RowO {α:Type} (k:Nat) (T:World→Value→α→Prop) (e:TypeId) (w:World) (v:Value) (l:List α):Prop:=∃ a c,v=.agg #[.slice a l.length c]∧OwnRow k T e 0 w (.slice a l.length c) l
section
variable {α:Type} {k:Nat} {T S:World→Value→α→Prop} {e e':TypeId} {w w':World} {v:Value} {l:List α}
theorem RowT.ext (h:RowT k T w v l) (hT:∀ {w w' v a},T w v a→Ext w w'→T w' v a) (x:Ext w w'):RowT k T w' v l:=by
 obtain ⟨a,c,rfl,h⟩:=h
 exact ⟨a,c,rfl,h.ext hT x⟩
theorem RowT.mono (h:RowT k T w v l) (hTS:∀ v a,T w v a→S w v a):RowT k S w v l:=by
 obtain ⟨a,c,rfl,h⟩:=h
 exact ⟨a,c,rfl,RdRow.mono h hTS⟩
theorem RowO.ext (h:RowO k T e w v l) (hT:∀ {w w' v a},T w v a→Ext w w'→T w' v a) (x:Ext w w'):RowO k T e w' v l:=by
 obtain ⟨a,c,rfl,h⟩:=h
 exact ⟨a,c,rfl,h.ext hT x⟩
theorem RowO.rd (h:RowO k T e w v l) (hTS:∀ v a,T w v a→S w v a):RowT k S w v l:=by
 obtain ⟨a,c,rfl,h⟩:=h
 exact ⟨a,c,rfl,RdRow.mono h.rd hTS⟩
theorem RowO.of (h:OwnRow k T e 0 w v l):∃ a c,v=.slice a l.length c∧RowO k T e w (.agg #[.slice a l.length c]) l:=by
 obtain ⟨a,c,rfl,-,-⟩:=h.rd.shape
 exact ⟨a,c,rfl,a,c,rfl,h⟩
theorem cells_RowT {cs:List Value} (h:RowT k T w (.agg cs.toArray) l):∃ a c,cs=[.slice a l.length c]∧RdRow k T w (.slice a l.length c) l:=by
 obtain ⟨a,c,he,h⟩:=h
 exact ⟨a,c,by simpa using he,h⟩
theorem RdRow.row {a:Option Addr} {n c:Nat} {l:List (List α)} (h:RdRow 1 (RowT k T) w (.slice a n c) l) (i:Nat) (hi:i < l.length):
  ∃ b off x m,a=some ⟨b,off,none⟩∧w.cell? ⟨b,off+i,none⟩=some (.slice x l[i].length m)∧RdRow k T w (.slice x l[i].length m) l[i]:=by
 obtain ⟨b1,o1,cs,he,hl,hT,hc⟩:=h.at (by decide) i hi
 obtain ⟨x,m,rfl,hr⟩:=cells_RowT hT
 have h0:=hc 0 (by decide)
 exact ⟨b1,o1,x,m,he,by simpa using h0,hr⟩
end

structure Lay (ν:Type) where
 K:Int
 W:List (List ν)
 B:List ν
 G:List (List Int)
instance {ν:Type}:Inhabited (Lay ν):=⟨⟨0,[],[],[]⟩⟩
def RdLay {ν:Type} (T:World→Value→ν→Prop) (w:World) (v:Value) (l:Lay ν):Prop:=
 ∃ a b c,v=.agg #[.int .i64 l.K,a,b,c]∧RdRow 1 (RowT 3 T) w a l.W∧RdRow 3 T w b l.B∧RdRow 1 (RowT 1 IntT) w c l.G
def OwnLay {ν:Type} (T:World→Value→ν→Prop) (e r g:TypeId) (w:World) (v:Value) (l:Lay ν):Prop:=
 ∃ a b c,v=.agg #[.int .i64 l.K,a,b,c]∧OwnRow 1 (RowO 3 T e) r 0 w a l.W∧OwnRow 3 T e 0 w b l.B∧OwnRow 1 (RowO 1 IntT 3) g 0 w c l.G
section
variable {ν:Type} {T S:World→Value→ν→Prop} {e r g e':TypeId} {w w':World} {v:Value} {l:Lay ν}
theorem RdLay.ext (h:RdLay T w v l) (hT:∀ {w w' v a},T w v a→Ext w w'→T w' v a) (x:Ext w w'):RdLay T w' v l:=by
 obtain ⟨a,b,c,rfl,h1,h2,h3⟩:=h
 exact ⟨a,b,c,rfl,h1.ext (fun h x=>RowT.ext h hT x) x,h2.ext hT x,h3.ext (fun h x=>RowT.ext h IntT.ext x) x⟩
theorem OwnLay.ext (h:OwnLay T e r g w v l) (hT:∀ {w w' v a},T w v a→Ext w w'→T w' v a) (x:Ext w w'):OwnLay T e r g w' v l:=by
 obtain ⟨a,b,c,rfl,h1,h2,h3⟩:=h
 exact ⟨a,b,c,rfl,h1.ext (fun h x=>RowO.ext h hT x) x,h2.ext hT x,h3.ext (fun h x=>RowO.ext h IntT.ext x) x⟩
theorem OwnLay.rd (h:OwnLay T e r g w v l) (hTS:∀ v a,T w v a→S w v a):RdLay S w v l:=by
 obtain ⟨a,b,c,rfl,h1,h2,h3⟩:=h
 exact ⟨a,b,c,rfl,RdRow.mono h1.rd fun _ _ h=>h.rd hTS,RdRow.mono h2.rd hTS,RdRow.mono h3.rd fun _ _ h=>h.rd fun _ _ h=>h⟩
theorem RdLay.op (h:RdLay T w v l):∃ a m b n c k,v=.agg #[.int .i64 l.K,.slice a l.W.length m,.slice b l.B.length n,.slice c l.G.length k]∧RdRow 1 (RowT 3 T) w (.slice a l.W.length m) l.W∧RdRow 3 T w (.slice b l.B.length n) l.B∧RdRow 1 (RowT 1 IntT) w (.slice c l.G.length k) l.G:=by
 obtain ⟨a,b,c,rfl,h1,h2,h3⟩:=h
 obtain ⟨a,m,rfl,-,-⟩:=h1.shape
 obtain ⟨b,n,rfl,-,-⟩:=h2.shape
 obtain ⟨c,k,rfl,-,-⟩:=h3.shape
 exact ⟨a,m,b,n,c,k,rfl,h1,h2,h3⟩
theorem OwnLay.op (h:OwnLay T e r g w v l):∃ a m b n c k,v=.agg #[.int .i64 l.K,.slice a l.W.length m,.slice b l.B.length n,.slice c l.G.length k]∧OwnRow 1 (RowO 3 T e) r 0 w (.slice a l.W.length m) l.W∧OwnRow 3 T e 0 w (.slice b l.B.length n) l.B∧OwnRow 1 (RowO 1 IntT 3) g 0 w (.slice c l.G.length k) l.G:=by
 obtain ⟨a,b,c,rfl,h1,h2,h3⟩:=h
 obtain ⟨a,m,rfl,-,-⟩:=h1.rd.shape
 obtain ⟨b,n,rfl,-,-⟩:=h2.rd.shape
 obtain ⟨c,k,rfl,-,-⟩:=h3.rd.shape
 exact ⟨a,m,b,n,c,k,rfl,h1,h2,h3⟩
end
abbrev Nt (ν:Type):=Int × List (Lay ν)
def RdNet {ν:Type} (T:World→Value→ν→Prop) (w:World) (v:Value) (n:Nt ν):Prop:=∃ a,v=.agg #[.int .i64 n.1,a]∧RdRow 4 (RdLay T) w a n.2
def OwnNet {ν:Type} (T:World→Value→ν→Prop) (e r g t:TypeId) (w:World) (v:Value) (n:Nt ν):Prop:=∃ a,v=.agg #[.int .i64 n.1,a]∧OwnRow 4 (OwnLay T e r g) t 0 w a n.2
section
variable {ν:Type} {T S:World→Value→ν→Prop} {e r g t:TypeId} {w w':World} {v:Value} {n:Nt ν}
theorem RdNet.ext (h:RdNet T w v n) (hT:∀ {w w' v a},T w v a→Ext w w'→T w' v a) (x:Ext w w'):RdNet T w' v n:=by
 obtain ⟨a,rfl,h⟩:=h
 exact ⟨a,rfl,h.ext (fun h x=>RdLay.ext h hT x) x⟩
theorem RdNet.mono (h:RdNet T w v n) (hTS:∀ v a,T w v a→S w v a):RdNet S w v n:=by
 obtain ⟨a,rfl,h⟩:=h
 refine ⟨a,rfl,RdRow.mono h fun _ _ h=>?_⟩
 obtain ⟨a,b,c,rfl,h1,h2,h3⟩:=h
 exact ⟨a,b,c,rfl,RdRow.mono h1 fun _ _ h=>h.mono hTS,RdRow.mono h2 hTS,h3⟩
theorem OwnNet.rd (h:OwnNet T e r g t w v n) (hTS:∀ v a,T w v a→S w v a):RdNet S w v n:=by
 obtain ⟨a,rfl,h⟩:=h
 exact ⟨a,rfl,RdRow.mono h.rd fun _ _ h=>h.rd hTS⟩
theorem RdNet.op (h:RdNet T w v n):∃ a c,v=.agg #[.int .i64 n.1,.slice a n.2.length c]∧n.2.length≤c∧c≤maxLen∧RdRow 4 (RdLay T) w (.slice a n.2.length c) n.2:=by
 obtain ⟨a,rfl,h⟩:=h
 obtain ⟨a,c,rfl,h1,h2⟩:=h.shape
 exact ⟨a,c,rfl,h1,h2,h⟩
end
theorem RowO.putT {α:Type} {k:Nat} {T:World→Value→α→Prop} {e t:TypeId} {c m:Nat} {w:World} {v:Value} {l:List α} (h:RowO k T e w v l) (hc:Rt w c m t) (hne:e≠t) (i:Nat) (cs:List Value) (hT:∀ v a,T w v a→T (Att.putL w c i cs) v a):RowO k T e (Att.putL w c i cs) v l:=by
 obtain ⟨a,d,rfl,h⟩:=h
 exact ⟨a,d,rfl,h.putT hc hne i cs hT⟩
theorem OwnLay.putT {ν:Type} {T:World→Value→ν→Prop} {e r g t:TypeId} {c m:Nat} {w:World} {v:Value} {l:Lay ν} (h:OwnLay T e r g w v l) (hc:Rt w c m t) (h1:e≠t) (h2:r≠t) (h3:g≠t) (h4:3≠t) (i:Nat) (cs:List Value) (hT:∀ v a,T w v a→T (Att.putL w c i cs) v a):OwnLay T e r g (Att.putL w c i cs) v l:=by
 obtain ⟨a,b,d,rfl,k1,k2,k3⟩:=h
 exact ⟨a,b,d,rfl,k1.putT hc h2 i cs (fun _ _ h=>h.putT hc h1 i cs hT),k2.putT hc h1 i cs hT,k3.putT hc h3 i cs (fun _ _ h=>h.putT hc h4 i cs fun _ _ h=>h)⟩
theorem Rt.setAt {w:World} {b n:Nat} {t:TypeId} (h:Rt w b n t) (i:Nat) (x:Value):Rt (Att.putL w b i [x]) b n t:=by
 obtain ⟨cs,h1,h2⟩:=h
 exact ⟨_,by simp [h1],heap_setCell_same w b i _ t x h2⟩
theorem Bx.setAt {w:World} {b n:Nat} {t:TypeId} {cs:List Value} (h:Bx w b cs) (hr:Rt w b n t) (i:Nat) (hi:i < n) (x:Value):Bx (Att.putL w b i [x]) b (cs.set i x):=by
 obtain ⟨cur,h1,h2⟩:=hr
 intro j v hv
 have hc:=heap_setCell_same w b i _ t x h2
 show (w.setCell ⟨b,i,none⟩ x).cell? _=_
 rw [cell_of_row _ b _ _ t (0,0) hc]
 by_cases e:j=i
 ·subst e
  have hlt:j < cs.length:=by
   rcases Nat.lt_or_ge j cs.length with h | h
   ·exact h
   ·rw [List.getElem?_eq_none (by rw [List.length_set];omega)] at hv;cases hv
  rw [List.getElem?_set_self hlt] at hv
  rw [Array.getElem?_setIfInBounds_self_of_lt (by omega)]
  exact hv
 ·rw [List.getElem?_set_ne (by omega)] at hv
  rw [Array.getElem?_setIfInBounds_ne (by omega)]
  have h3:=h j v hv
  rwa [cell_of_row w b _ _ t (0,0) h2] at h3
theorem Rt.c2 {w:World} {b:Nat} {t:TypeId} (h:Rt w b 2 t):∃ x0 x1,w.cell? ⟨b,0,none⟩=some x0∧w.cell? ⟨b,1,none⟩=some x1∧w.frozen? ⟨b,0,none⟩=false∧w.frozen? ⟨b,1,none⟩=false:=by
 obtain ⟨x0,h0,g0⟩:=h.rm.at 0 (by omega)
 obtain ⟨x1,h1,g1⟩:=h.rm.at 1 (by omega)
 exact ⟨x0,x1,h0,h1,g0,g1⟩
theorem Bo.c4 {w:World} {b o:Nat} {x0 x1 x2 x3:Value} {l:List Value} (h:Bo w b o (x0 :: x1 :: x2 :: x3 :: l)):w.cell? ⟨b,o,none⟩=some x0∧w.cell? ⟨b,o+1,none⟩=some x1∧w.cell? ⟨b,o+2,none⟩=some x2∧w.cell? ⟨b,o+3,none⟩=some x3:=
 ⟨h 0 _ rfl,h 1 _ rfl,h 2 _ rfl,h 3 _ rfl⟩
end Go.Att

namespace Go.Proofs.YtdooldpgnjmpfaaGreatDoor
open Go.ChangeShapes Go.WideShapes Go.ChangeAt Go.RowKit Go.Att Go.Joins

theorem trod_row {H α:Type} [Inhabited α] {enc:TypeId × Value→H} {P:Program} {W:World} {spare:Nat→Bool} {held:Bool} {t e:TypeId} {k:Nat} {T:World→Value→α→Prop} {fuel:Nat} {cs:List Value} {y:DataW H × List MemPlace}
  (ht:P.underlying t=some (.slice e)) (hC:P.cellsOf e=k) (hk:0 < k)
  (hel:∀ n cs y,DataW.trod enc P W 0 spare held n e cs=some y→∃ a:α,cs.length=k∧T W (.agg cs.toArray) a)
  (h:DataW.trod enc P W 0 spare held fuel t cs=some y):∃ l:List α,cs.length=1∧RowT k T W (.agg cs.toArray) l:=by
 obtain ⟨a0,l0,k0,rfl⟩:=slice_form ht h
 obtain ⟨l,rd,-,-⟩:=row_of (T:=T) (g:=fun _=>0) (k:=k) (d:=y.1) (ps:=y.2) ht hC hk (fun n cs y hy=>by
  obtain ⟨a,h1,h2⟩:=hel n cs y hy
  exact ⟨a,h1,h2,Nat.zero_le _⟩) h
 obtain ⟨a,c,he,-,-⟩:=rd.shape
 simp only [Value.slice.injEq] at he
 obtain ⟨rfl,rfl,rfl⟩:=he
 exact ⟨l,rfl,a0,k0,rfl,rd⟩
open Go.ChangeShapes Go.WideShapes Go.ChangeAt Go.RowKit Go.Att Go.Joins

def mxl:List (Int × NN)→Nat
 | []=>0
 | t :: l=>max (bN t.2) (mxl l)
theorem mxl_in:∀ {l:List (Int × NN)} {t:Int × NN},t∈l→bN t.2≤mxl l
 | x :: l,t,h=>by
  unfold mxl
  rcases List.mem_cons.1 h with rfl | h
  ·omega
  ·have:=mxl_in h;omega
theorem mxl_le:∀ {l:List (Int × NN)} {B:Nat},(∀ t∈l,bN t.2≤B)→mxl l≤B
 | [],_,_=>Nat.zero_le _
 | x :: l,B,h=>by
  unfold mxl
  have h1:=h x List.mem_cons_self
  have h2:=mxl_le (l:=l) fun t ht=>h t (List.mem_cons_of_mem _ ht)
  omega
def bA (p:NAT):Nat:=max (bN p.1.2) (mxl p.1.1)
set_option maxRecDepth 100000 in
theorem trod_A {H:Type} {enc:TypeId × Value→H} {W:World} {spare:Nat→Bool} {held:Bool} {fuel:Nat} {cs:List Value} {y:DataW H × List MemPlace}
  (h:DataW.trod enc Tryz.prog W 0 spare held fuel 75 cs=some y):
  ∃ p:NAT,cs.length=5∧RdNA W (.agg cs.toArray) p∧bA p≤Rows.uptoBulk y.1:=by
 obtain ⟨y0,y1,n,rfl,hl,h0,h1⟩:=trod_struct2 Tryz.underlying75 h
 have e0:Tryz.prog.cellsOf 73=4:=by kernel_rfl
 have e1:Tryz.prog.cellsOf 3=1:=by kernel_rfl
 dsimp only at h0 h1
 rw [e0] at h0
 rw [e1] at h1
 have hl5:cs.length=5:=hl.trans (by kernel_rfl)
 match cs,hl5 with
 | [c0,c1,c2,c3,c4],_=>
  simp only [List.drop_zero,List.drop_succ_cons,List.take_succ_cons,List.take_zero] at h0 h1
  obtain ⟨z,e4,rfl,wz⟩:=DataW.trod_int Tryz.underlying3 h1
  simp at e4
  subst e4
  obtain ⟨l,n,-,r,b1,b2,-⟩:=trod_E h0
  refine ⟨((l,n),z),rfl,⟨_,_,_,_,rfl,r⟩,?_⟩
  have:=mxl_le b1
  simp only [Rows.uptoBulk,Rows.uptoBulkAll,bA]
  omega
end Go.Proofs.YtdooldpgnjmpfaaGreatDoor

namespace Go.Att
open Go.Sort

def szl (l:Int):Int:=if l = -9223372036854775808 then 0 else l.natAbs
def ord (a b:Int):Int:=if szl a≠szl b then szl a - szl b else if b < a then -1 else if a < b then 1 else 0
def ltl (a b:Int):Bool:=decide (ord a b < 0)
theorem ord_lt {a b:Int}:ltl a b=true↔szl a < szl b∨szl a=szl b∧b < a:=by
 unfold ltl ord
 rw [decide_eq_true_eq]
 by_cases h:szl a=szl b
 ·rw [if_neg (fun h2=>h2 h)]
  by_cases h1:b < a
  ·rw [if_pos h1];omega
  ·rw [if_neg h1]
   by_cases h2:a < b
   ·rw [if_pos h2];omega
   ·rw [if_neg h2];omega
 ·rw [if_pos h];omega
theorem ltl_irr (a:Int):ltl a a=false:=by
 have:=@ord_lt a a
 cases h:ltl a a
 ·rfl
 ·rw [h] at this;simp at this
theorem ltl_trans {a b c:Int} (h1:ltl a b=true) (h2:ltl b c=true):ltl a c=true:=by
 rw [ord_lt] at h1 h2 ⊢;omega
theorem ltl_tot {a b:Int} (h1:ltl a b=false) (h2:ltl b a=false):a=b:=by
 have k1:=@ord_lt a b
 have k2:=@ord_lt b a
 rw [h1] at k1
 rw [h2] at k2
 simp at k1 k2
 have h3:szl a=szl b:=by omega
 omega
theorem ltl_asymm {a b:Int} (h:ltl a b=true):ltl b a=false:=by
 cases h2:ltl b a
 ·rfl
 ·rw [ord_lt] at h h2;omega
theorem swo_ord:SWO ltl:=⟨ltl_irr,fun _ _ _ h1 h2=>ltl_trans h1 h2,fun a b c h1 h2=>by
 cases h:ltl a c
 ·rfl
 ·rw [ord_lt] at h
  have k1:=@ord_lt a b
  have k2:=@ord_lt b c
  rw [h1] at k1
  rw [h2] at k2
  simp at k1 k2
  omega⟩
def srt (c:List Int):List Int:=c.mergeSort fun x y=>!ltl y x
theorem srt_perm (c:List Int):(srt c).Perm c:=List.mergeSort_perm ..
theorem srt_sorted (c:List Int):(srt c).Pairwise fun a b=>ltl b a=false:=by
 have h:=List.pairwise_mergeSort (le:=fun x y=>!ltl y x) (fun a b c h1 h2=>by
  simp only [Bool.not_eq_true'] at h1 h2 ⊢
  cases h:ltl c a
  ·rfl
  ·rcases hb:ltl b a with _ | _
   ·rcases hc:ltl a b with _ | _
    ·have:=ltl_tot hc hb;subst this;rw [h] at h2;cases h2
    ·have:=ltl_trans h hc;rw [this] at h2;cases h2
   ·rw [hb] at h1;cases h1) (fun a b=>by
  cases h:ltl b a
  ·rfl
  ·simp [ltl_asymm h]) c
 exact h.imp fun h=>by simpa using h
def cmpc:List Int→List Int
 | []=>[]
 | [a]=>[a]
 | a :: b :: l=>if a=b then cmpc (b :: l) else a :: cmpc (b :: l)
theorem mem_cmpc (x:Int):∀ l:List Int,x∈cmpc l↔x∈l
 | []=>Iff.rfl
 | [a]=>Iff.rfl
 | a :: b :: l=>by
  unfold cmpc
  have ih:=mem_cmpc x (b :: l)
  split
  ·rename_i h;subst h;rw [ih];simp
  ·rw [List.mem_cons,ih,List.mem_cons (a:=x) (b:=a)]
theorem cmpc_len:∀ l:List Int,(cmpc l).length≤l.length
 | []=>Nat.le_refl _
 | [a]=>Nat.le_refl _
 | a :: b :: l=>by
  unfold cmpc
  have ih:=cmpc_len (b :: l)
  split
  ·simp only [List.length_cons] at ih ⊢;omega
  ·simp only [List.length_cons] at ih ⊢;omega
theorem cmpc_strict:∀ l:List Int,l.Pairwise (fun a b=>ltl b a=false)→(cmpc l).Pairwise fun a b=>ltl a b=true
 | [],_=>List.Pairwise.nil
 | [a],_=>by unfold cmpc;exact List.pairwise_singleton _ _
 | a :: b :: l,h=>by
  unfold cmpc
  rw [List.pairwise_cons] at h
  have ih:=cmpc_strict (b :: l) h.2
  split
  ·exact ih
  ·rename_i hab
   refine List.pairwise_cons.2 ⟨fun y hy=>?_,ih⟩
   rw [mem_cmpc] at hy
   have h1:=h.1 b List.mem_cons_self
   have h2:ltl a b=true:=by
    cases h3:ltl a b
    ·exact absurd (ltl_tot h3 h1) hab
    ·rfl
   rcases List.mem_cons.1 hy with rfl | hy
   ·exact h2
   ·have h4:=(List.pairwise_cons.1 h.2).1 y hy
    cases h5:ltl b y
    ·have:=ltl_tot h5 h4;subst this;exact h2
    ·exact ltl_trans h2 h5
theorem cmpc_id:∀ l:List Int,l.Pairwise (fun a b=>ltl a b=true)→cmpc l=l
 | [],_=>rfl
 | [a],_=>rfl
 | a :: b :: l,h=>by
  unfold cmpc
  rw [List.pairwise_cons] at h
  rw [if_neg (fun hab=>by have:=h.1 b List.mem_cons_self;subst hab;rw [ltl_irr] at this;cases this),cmpc_id (b :: l) h.2]
theorem srt_id {l:List Int} (h:l.Pairwise fun a b=>ltl a b=true):srt l=l:=by
 refine List.mergeSort_of_pairwise (h.imp fun h=>?_)
 simp [ltl_asymm h]
def cnL (c:List Int):List Int:=cmpc (srt c)
theorem mem_cnL {x:Int} {c:List Int}:x∈cnL c↔x∈c:=by
 unfold cnL
 rw [mem_cmpc,(srt_perm c).mem_iff]
theorem cnL_strict (c:List Int):(cnL c).Pairwise fun a b=>ltl a b=true:=cmpc_strict _ (srt_sorted c)
theorem cnL_len (c:List Int):(cnL c).length≤c.length:=by
 unfold cnL
 refine Nat.le_trans (cmpc_len _) ?_
 rw [(srt_perm c).length_eq]
 exact Nat.le_refl _
theorem cnL_id {c:List Int} (h:c.Pairwise fun a b=>ltl a b=true):cnL c=c:=by
 unfold cnL
 rw [srt_id h,cmpc_id c h]
theorem cnL_idem (c:List Int):cnL (cnL c)=cnL c:=cnL_id (cnL_strict c)
theorem srt_len (c:List Int):(srt c).length=c.length:=(srt_perm c).length_eq
theorem cmpc_snoc:∀ (l:List Int) (a b:Int),cmpc (l ++ [a,b])=if a=b then cmpc (l ++ [a]) else cmpc (l ++ [a]) ++ [b]
 | [],a,b=>by
  show cmpc [a,b]=_
  simp only [cmpc,List.nil_append]
  split
  ·rename_i h;subst h;rfl
  ·rfl
 | [x],a,b=>by
  show cmpc [x,a,b]=if a=b then cmpc [x,a] else cmpc [x,a] ++ [b]
  by_cases h1:x=a <;> by_cases h2:a=b <;> simp [cmpc,h1,h2]
 | x :: y :: l,a,b=>by
  have ih:=cmpc_snoc (y :: l) a b
  show cmpc (x :: y :: (l ++ [a,b]))=if a=b then cmpc (x :: y :: (l ++ [a])) else cmpc (x :: y :: (l ++ [a])) ++ [b]
  rw [cmpc,cmpc]
  have ih':cmpc (y :: (l ++ [a,b]))=if a=b then cmpc (y :: (l ++ [a])) else cmpc (y :: (l ++ [a])) ++ [b]:=ih
  rw [ih']
  by_cases h1:x=y
  ·rw [if_pos h1,if_pos h1]
  ·rw [if_neg h1,if_neg h1]
   split <;> rfl
theorem compact_take (d:List Int):∀ m,m≤d.length→Lib.compactUpTo d.toArray m=cmpc (d.take m)
 | 0,_=>rfl
 | 1,h=>by
  rw [Lib.compactUpTo_succ]
  cases d with
  | nil=>simp at h
  | cons a d=>simp [Lib.compactUpTo,Lib.keeps,cmpc]
 | m+2,h=>by
  have ih:=compact_take d (m+1) (by omega)
  rw [Lib.compactUpTo_succ,ih]
  have h1:d.take (m+2)=d.take m ++ [d[m]'(by omega),d[m+1]'(by omega)]:=by
   rw [← List.take_append_getElem (show m+1 < d.length by omega),← List.take_append_getElem (show m < d.length by omega),List.append_assoc]
   rfl
  have h2:d.take (m+1)=d.take m ++ [d[m]'(by omega)]:=(List.take_append_getElem (show m < d.length by omega)).symm
  rw [h1,cmpc_snoc,← h2]
  have g1:d.toArray[m+1]! = d[m+1]'(by omega):=by simp [getElem!_pos,show m+1 < d.length by omega]
  have g2:d.toArray[m]! = d[m]'(by omega):=by simp [getElem!_pos,show m < d.length by omega]
  unfold Lib.keeps
  rw [g1,Nat.add_sub_cancel,g2]
  by_cases he:d[m]'(by omega)=d[m+1]'(by omega)
  ·rw [if_pos he]
   simp [he]
  ·rw [if_neg he]
   have he':¬ d[m+1]'(by omega)=d[m]'(by omega):=fun h=>he h.symm
   simp [he']
theorem compact_cmpc (d:List Int):Lib.compact d=cmpc d:=by
 unfold Lib.compact
 rw [compact_take d d.length (Nat.le_refl _),List.take_length]

def tl (V:Int→Bool) (l:Int):Bool:=V l.natAbs == decide (0 < l)
def clsT (V:Int→Bool) (c:List Int):Bool:=c.any (tl V)
theorem tl_neg {V:Int→Bool} {l:Int} (h:l≠0):tl V (-l)=!tl V l:=by
 unfold tl
 rw [show ((-l).natAbs:Int)=(l.natAbs:Int) by omega]
 by_cases h1:0 < l
 ·rw [decide_eq_true h1,decide_eq_false (show ¬ 0 < -l by omega)]
  cases V l.natAbs <;> rfl
 ·rw [decide_eq_false h1,decide_eq_true (show 0 < -l by omega)]
  cases V l.natAbs <;> rfl
theorem clsT_mem {V:Int→Bool} {c:List Int}:clsT V c=true↔∃ l∈c,tl V l=true:=by
 unfold clsT
 rw [List.any_eq_true]
theorem clsT_cnL {V:Int→Bool} {c:List Int}:clsT V (cnL c)=clsT V c:=by
 rw [Bool.eq_iff_iff,clsT_mem,clsT_mem]
 constructor
 ·rintro ⟨l,h,h2⟩;exact ⟨l,mem_cnL.1 h,h2⟩
 ·rintro ⟨l,h,h2⟩;exact ⟨l,mem_cnL.2 h,h2⟩
def rsl (a b:List Int) (on:Int):List Int:=cnL ((cnL a).filter (fun l=>l != on) ++ (cnL b).filter fun l=>l != -on)
theorem rsl_sound {V:Int→Bool} {a b:List Int} {on:Int} (h0:on≠0) (ha:clsT V a=true) (hb:clsT V b=true):clsT V (rsl a b on)=true:=by
 unfold rsl
 rw [clsT_cnL]
 rw [clsT_mem] at ha hb ⊢
 obtain ⟨l,h1,h2⟩:=ha
 obtain ⟨k,h3,h4⟩:=hb
 by_cases hl:l=on
 ·by_cases hk:k = -on
  ·subst hl hk
   rw [tl_neg h0,h2] at h4
   cases h4
  ·exact ⟨k,List.mem_append.2 (.inr (List.mem_filter.2 ⟨mem_cnL.2 h3,by simpa using hk⟩)),h4⟩
 ·exact ⟨l,List.mem_append.2 (.inl (List.mem_filter.2 ⟨mem_cnL.2 h1,by simpa using hl⟩)),h2⟩
end Go.Att
