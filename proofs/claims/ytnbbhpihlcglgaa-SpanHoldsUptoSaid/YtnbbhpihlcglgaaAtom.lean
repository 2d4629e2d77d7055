/- Constraints: how they lie in memory. Nothing here names the program. -/
import Derived.Test.YtnbbhpihlcglgaaLinPlain
import Derived.Test.YtnbbhpihlcglgaaBq
namespace Go.Att
open Go.RowKit

theorem Bx.c5 {w:World} {b:Nat} {x0 x1 x2 x3 x4:Value} (h:Bx w b [x0,x1,x2,x3,x4]):w.cell? ⟨b,0,none⟩=some x0∧w.cell? ⟨b,1,none⟩=some x1∧w.cell? ⟨b,2,none⟩=some x2∧w.cell? ⟨b,3,none⟩=some x3∧w.cell? ⟨b,4,none⟩=some x4:=
 ⟨h 0 _ rfl,h 1 _ rfl,h 2 _ rfl,h 3 _ rfl,h 4 _ rfl⟩
theorem Bo.c5 {w:World} {b o:Nat} {x0 x1 x2 x3 x4:Value} {l:List Value} (h:Bo w b o (x0 :: x1 :: x2 :: x3 :: x4 :: l)):w.cell? ⟨b,o,none⟩=some x0∧w.cell? ⟨b,o+1,none⟩=some x1∧w.cell? ⟨b,o+2,none⟩=some x2∧w.cell? ⟨b,o+3,none⟩=some x3∧w.cell? ⟨b,o+4,none⟩=some x4:=
 ⟨h 0 _ rfl,h 1 _ rfl,h 2 _ rfl,h 3 _ rfl,h 4 _ rfl⟩
theorem Rt.c5 {w:World} {b:Nat} {t:TypeId} (h:Rt w b 5 t):∃ x0 x1 x2 x3 x4,w.cell? ⟨b,0,none⟩=some x0∧w.cell? ⟨b,1,none⟩=some x1∧w.cell? ⟨b,2,none⟩=some x2∧w.cell? ⟨b,3,none⟩=some x3∧w.cell? ⟨b,4,none⟩=some x4∧
  w.frozen? ⟨b,0,none⟩=false∧w.frozen? ⟨b,1,none⟩=false∧w.frozen? ⟨b,2,none⟩=false∧w.frozen? ⟨b,3,none⟩=false∧w.frozen? ⟨b,4,none⟩=false:=by
 obtain ⟨x0,h0,g0⟩:=h.rm.at 0 (by omega)
 obtain ⟨x1,h1,g1⟩:=h.rm.at 1 (by omega)
 obtain ⟨x2,h2,g2⟩:=h.rm.at 2 (by omega)
 obtain ⟨x3,h3,g3⟩:=h.rm.at 3 (by omega)
 obtain ⟨x4,h4,g4⟩:=h.rm.at 4 (by omega)
 exact ⟨x0,x1,x2,x3,x4,h0,h1,h2,h3,h4,g0,g1,g2,g3,g4⟩
theorem OwnRow.grown {α:Type} {k:Nat} {T:World→Value→α→Prop} {e e':TypeId} {B B':Nat} {w w':World} {v v':Value} {l:List α} {n size:Nat} {xs:List Value} (h:OwnRow k T e B w v l) (hT:∀ u a,T w u a→T w' u a) (hr:w.ownsRow B' e' size v' n xs) (hne:e≠e') (hg:w.grownBy w' v'.ownBlock):OwnRow k T e B w' v l:=by
 obtain ⟨E,h1,h2⟩:=h
 exact ⟨E,owns_grown h1 hr hne hg,h2.mono fun _ _ h=>hT _ _ h⟩
theorem OwnEx.grown {e t e':TypeId} {B':Nat} {w w':World} {v v':Value} {l:TL} {c:Rat} {B n size:Nat} {xs:List Value} (h:OwnEx e t B w v l c) (hr:w.ownsRow B' e' size v' n xs) (h1:e≠e') (h2:t≠e') (hg:w.grownBy w' v'.ownBlock):OwnEx e t B w' v l c:=by
 obtain ⟨s,x,y,z,rfl,h3,h4⟩:=h
 refine ⟨s,x,y,z,rfl,h3.grown (fun u a h=>h.grown hr h1 hg) hr h2 hg,?_⟩
 obtain ⟨n',d',he,g1,g2⟩:=h4
 exact ⟨n',d',he,⟨owns_grown g1.1 hr h1 hg,g1.2⟩,⟨owns_grown g2.1 hr h1 hg,g2.2⟩⟩
abbrev AT:=(TL × Rat) × Int
def OwnAt (e t:TypeId) (w:World) (v:Value) (p:AT):Prop:=∃ s x y z,v=.agg #[s,x,y,z,.int .i64 p.2]∧OwnEx e t 0 w (.agg #[s,x,y,z]) p.1.1 p.1.2
theorem OwnAt.ext {e t:TypeId} {w w':World} {v:Value} {p:AT} (h:OwnAt e t w v p) (x:Ext w w'):OwnAt e t w' v p:=by
 obtain ⟨a,b,c,d,rfl,h⟩:=h
 exact ⟨a,b,c,d,rfl,h.ext x⟩
theorem OwnAt.op {e t:TypeId} {w:World} {v:Value} {p:AT} (h:OwnAt e t w v p):∃ a k s b m d b' m' d',v=.agg #[.slice a p.1.1.length k,.bool s,.slice b m d,.slice b' m' d',.int .i64 p.2]∧Hid (OwnEx e t 0 w (.agg #[.slice a p.1.1.length k,.bool s,.slice b m d,.slice b' m' d']) p.1.1 p.1.2):=by
 obtain ⟨s,x,y,z,rfl,h⟩:=h
 obtain ⟨a,k,s,b,m,d,b',m',d',he,-,-,h1⟩:=h.op
 simp only [Value.agg.injEq,Array.mk.injEq,List.cons.injEq,and_true] at he
 obtain ⟨rfl,rfl,rfl,rfl⟩:=he
 exact ⟨a,k,s,b,m,d,b',m',d',rfl,h1⟩
abbrev NAT:=(List (Int × NN) × NN) × Int
def RdNA (w:World) (v:Value) (p:NAT):Prop:=∃ s x y z,v=.agg #[s,x,y,z,.int .i64 p.2]∧RdNE w (.agg #[s,x,y,z]) p.1.1 p.1.2
theorem RdNA.ext {w w':World} {v:Value} {p:NAT} (h:RdNA w v p) (x:Ext w w'):RdNA w' v p:=by
 obtain ⟨a,b,c,d,rfl,h⟩:=h
 exact ⟨a,b,c,d,rfl,h.ext x⟩
theorem RdNA.op {w:World} {v:Value} {p:NAT} (h:RdNA w v p):∃ a k y z,v=.agg #[.slice a p.1.1.length k,.bool p.1.2.1,y,z,.int .i64 p.2]∧RdNE w (.agg #[.slice a p.1.1.length k,.bool p.1.2.1,y,z]) p.1.1 p.1.2:=by
 obtain ⟨s,x,y,z,rfl,h⟩:=h
 have h2:=h
 obtain ⟨s',y',z',he,hr,-⟩:=h2
 simp only [Value.agg.injEq,Array.mk.injEq,List.cons.injEq,and_true] at he
 obtain ⟨rfl,rfl,rfl,rfl⟩:=he
 obtain ⟨a,k,rfl,-,-⟩:=hr.shape
 exact ⟨a,k,y,z,rfl,h⟩
end Go.Att
