/- Networks: how they lie in memory (rows of rows; layers). Nothing here names the program. -/
import Derived.Test.YtmlhccajicmpfaaGreatSq
import Derived.Test.YtmlhccajicmpfaaGreatPartAF
set_option maxHeartbeats 40000000
set_option maxRecDepth 100000
set_option linter.unusedSimpArgs false
namespace Go.Att
open Go.RowKit

def RowT {α:Type} (k:Nat) (T:World→Value→α→Prop) (w:World) (v:Value) (l:List α):Prop:=∃ a c,v=.agg #[.slice a l.length c]∧RdRow k T w (.slice a l.length c) l
def RowO {α:Type} (k:Nat) (T:World→Value→α→Prop) (e:TypeId) (w:World) (v:Value) (l:List α):Prop:=∃ a c,v=.agg #[.slice a l.length c]∧OwnRow k T e 0 w (.slice a l.length c) l
section
variable {α:Type} {k:Nat} {T S:World→Value→α→Prop} {e e':TypeId} {w w':World} {v:Value} {l:List α}
theorem RowT.ext (h:RowT k T w v l) (hT:∀ {w w' v a},T w v a→Ext w w'→T w' v a) (x:Ext w w'):RowT k T w' v l:=by
 obtain ⟨a,c,rfl,h⟩:=h
 exact ⟨a,c,rfl,h.ext hT x⟩
theorem RowT.mono (h:RowT k T w v l) (hTS:∀ v a,T w v a→S w v a):RowT k S w v l:=by
 obtain ⟨a,c,rfl,h⟩:=h
 exact ⟨a,c,rfl,RdRow.mono h hTS⟩
theorem RowO.ext (h:RowO k T e w v l) (hT:∀ {w w' v a},T w v a→Ext w w'→T w' v a) (x:Ext w w'):RowO k T e w' v l:=by
 obtain ⟨a,c,rfl,h⟩:=h
 exact ⟨a,c,rfl,h.ext hT x⟩
theorem RowO.rd (h:RowO k T e w v l) (hTS:∀ v a,T w v a→S w v a):RowT k S w v l:=by
 obtain ⟨a,c,rfl,h⟩:=h
 exact ⟨a,c,rfl,RdRow.mono h.rd hTS⟩
theorem RowO.of (h:OwnRow k T e 0 w v l):∃ a c,v=.slice a l.length c∧RowO k T e w (.agg #[.slice a l.length c]) l:=by
 obtain ⟨a,c,rfl,-,-⟩:=h.rd.shape
 exact ⟨a,c,rfl,a,c,rfl,h⟩
theorem cells_RowT {cs:List Value} (h:RowT k T w (.agg cs.toArray) l):∃ a c,cs=[.slice a l.length c]∧RdRow k T w (.slice a l.length c) l:=by
 obtain ⟨a,c,he,h⟩:=h
 exact ⟨a,c,by simpa using he,h⟩
theorem cells_RowO {cs:List Value} (h:RowO k T e w (.agg cs.toArray) l):∃ a c,cs=[.slice a l.length c]∧OwnRow k T e 0 w (.slice a l.length c) l:=by
 obtain ⟨a,c,he,h⟩:=h
 exact ⟨a,c,by simpa using he,h⟩
theorem kdO (hne:e≠e') (hT:Kd e' T):Kd e' (RowO k T e):=⟨fun h X=>h.ext hT.ext X,fun h hr hg=>by
 obtain ⟨a,c,rfl,h⟩:=h
 exact ⟨a,c,rfl,OwnRow.grown h (fun _ _ h=>hT.grown h hr hg) hr hne hg⟩,fun h u hu=>by
 obtain ⟨a,c,rfl,-⟩:=cells_RowO h
 simp at hu
 subst hu
 rfl⟩
theorem RdRow.row {a:Option Addr} {n c:Nat} {l:List (List α)} (h:RdRow 1 (RowT k T) w (.slice a n c) l) (i:Nat) (hi:i < l.length):
  ∃ b off x m,a=some ⟨b,off,none⟩∧w.cell? ⟨b,off+i,none⟩=some (.slice x l[i].length m)∧RdRow k T w (.slice x l[i].length m) l[i]:=by
 obtain ⟨b1,o1,cs,he,hl,hT,hc⟩:=h.at dC i hi
 obtain ⟨x,m,rfl,hr⟩:=cells_RowT hT
 have h0:=hc 0 dC
 exact ⟨b1,o1,x,m,he,by simpa using h0,hr⟩
theorem RdRow.rowO {a:Option Addr} {n c:Nat} {l:List (List α)} (h:RdRow 1 (RowO k T e) w (.slice a n c) l) (i:Nat) (hi:i < l.length):
  ∃ b off x m,a=some ⟨b,off,none⟩∧w.cell? ⟨b,off+i,none⟩=some (.slice x l[i].length m)∧OwnRow k T e 0 w (.slice x l[i].length m) l[i]:=by
 obtain ⟨b1,o1,cs,he,hl,hT,hc⟩:=h.at dC i hi
 obtain ⟨x,m,rfl,hr⟩:=cells_RowO hT
 have h0:=hc 0 dC
 exact ⟨b1,o1,x,m,he,by simpa using h0,hr⟩
end

structure Lay (ν:Type) where
 K:Int
 W:List (List ν)
 B:List ν
 G:List (List Int)
instance {ν:Type}:Inhabited (Lay ν):=⟨⟨0,[],[],[]⟩⟩
def RdLay {ν:Type} (T:World→Value→ν→Prop) (w:World) (v:Value) (l:Lay ν):Prop:=
 ∃ a b c,v=.agg #[.int .i64 l.K,a,b,c]∧RdRow 1 (RowT 3 T) w a l.W∧RdRow 3 T w b l.B∧RdRow 1 (RowT 1 IntT) w c l.G
def OwnLay {ν:Type} (T:World→Value→ν→Prop) (e r g:TypeId) (w:World) (v:Value) (l:Lay ν):Prop:=
 ∃ a b c,v=.agg #[.int .i64 l.K,a,b,c]∧OwnRow 1 (RowO 3 T e) r 0 w a l.W∧OwnRow 3 T e 0 w b l.B∧OwnRow 1 (RowO 1 IntT 3) g 0 w c l.G
section
variable {ν:Type} {T S:World→Value→ν→Prop} {e r g e':TypeId} {w w':World} {v:Value} {l:Lay ν}
theorem RdLay.ext (h:RdLay T w v l) (hT:∀ {w w' v a},T w v a→Ext w w'→T w' v a) (x:Ext w w'):RdLay T w' v l:=by
 obtain ⟨a,b,c,rfl,h1,h2,h3⟩:=h
 exact ⟨a,b,c,rfl,h1.ext (fun h x=>RowT.ext h hT x) x,h2.ext hT x,h3.ext (fun h x=>RowT.ext h IntT.ext x) x⟩
theorem OwnLay.ext (h:OwnLay T e r g w v l) (hT:∀ {w w' v a},T w v a→Ext w w'→T w' v a) (x:Ext w w'):OwnLay T e r g w' v l:=by
 obtain ⟨a,b,c,rfl,h1,h2,h3⟩:=h
 exact ⟨a,b,c,rfl,h1.ext (fun h x=>RowO.ext h hT x) x,h2.ext hT x,h3.ext (fun h x=>RowO.ext h IntT.ext x) x⟩
theorem OwnLay.rd (h:OwnLay T e r g w v l) (hTS:∀ v a,T w v a→S w v a):RdLay S w v l:=by
 obtain ⟨a,b,c,rfl,h1,h2,h3⟩:=h
 exact ⟨a,b,c,rfl,RdRow.mono h1.rd fun _ _ h=>h.rd hTS,RdRow.mono h2.rd hTS,RdRow.mono h3.rd fun _ _ h=>h.rd fun _ _ h=>h⟩
theorem RdLay.op (h:RdLay T w v l):∃ a m b n c k,v=.agg #[.int .i64 l.K,.slice a l.W.length m,.slice b l.B.length n,.slice c l.G.length k]∧RdRow 1 (RowT 3 T) w (.slice a l.W.length m) l.W∧RdRow 3 T w (.slice b l.B.length n) l.B∧RdRow 1 (RowT 1 IntT) w (.slice c l.G.length k) l.G:=by
 obtain ⟨a,b,c,rfl,h1,h2,h3⟩:=h
 obtain ⟨a,m,rfl,-,-⟩:=h1.shape
 obtain ⟨b,n,rfl,-,-⟩:=h2.shape
 obtain ⟨c,k,rfl,-,-⟩:=h3.shape
 exact ⟨a,m,b,n,c,k,rfl,h1,h2,h3⟩
theorem OwnLay.op (h:OwnLay T e r g w v l):∃ a m b n c k,v=.agg #[.int .i64 l.K,.slice a l.W.length m,.slice b l.B.length n,.slice c l.G.length k]∧OwnRow 1 (RowO 3 T e) r 0 w (.slice a l.W.length m) l.W∧OwnRow 3 T e 0 w (.slice b l.B.length n) l.B∧OwnRow 1 (RowO 1 IntT 3) g 0 w (.slice c l.G.length k) l.G:=by
 obtain ⟨a,b,c,rfl,h1,h2,h3⟩:=h
 obtain ⟨a,m,rfl,-,-⟩:=h1.rd.shape
 obtain ⟨b,n,rfl,-,-⟩:=h2.rd.shape
 obtain ⟨c,k,rfl,-,-⟩:=h3.rd.shape
 exact ⟨a,m,b,n,c,k,rfl,h1,h2,h3⟩
theorem cells_Lay {cs:List Value} (h:RdLay T w (.agg cs.toArray) l):∃ a m b n c k,cs=[.int .i64 l.K,.slice a l.W.length m,.slice b l.B.length n,.slice c l.G.length k]∧RdRow 1 (RowT 3 T) w (.slice a l.W.length m) l.W∧RdRow 3 T w (.slice b l.B.length n) l.B∧RdRow 1 (RowT 1 IntT) w (.slice c l.G.length k) l.G:=by
 obtain ⟨a,m,b,n,c,k,he,h⟩:=h.op
 have:cs.toArray=#[.int .i64 l.K,.slice a l.W.length m,.slice b l.B.length n,.slice c l.G.length k]:=by simpa using he
 exact ⟨a,m,b,n,c,k,by simpa using congrArg Array.toList this,h⟩
theorem cells_LayO {cs:List Value} (h:OwnLay T e r g w (.agg cs.toArray) l):∃ a m b n c k,cs=[.int .i64 l.K,.slice a l.W.length m,.slice b l.B.length n,.slice c l.G.length k]:=by
 obtain ⟨a,m,b,n,c,k,he,-⟩:=h.op
 have:cs.toArray=#[.int .i64 l.K,.slice a l.W.length m,.slice b l.B.length n,.slice c l.G.length k]:=by simpa using he
 exact ⟨a,m,b,n,c,k,by simpa using congrArg Array.toList this⟩
theorem kdLay (hT:Kd e' T) (h1:e≠e') (h2:r≠e') (h3:g≠e') (h4:3≠e'):Kd e' (OwnLay T e r g):=⟨fun h X=>h.ext hT.ext X,fun h hr hg=>by
 obtain ⟨a,b,c,rfl,k1,k2,k3⟩:=h
 exact ⟨a,b,c,rfl,OwnRow.grown k1 (fun _ _ h=>(kdO h1 hT).grown h hr hg) hr h2 hg,OwnRow.grown k2 (fun _ _ h=>hT.grown h hr hg) hr h1 hg,OwnRow.grown k3 (fun _ _ h=>(kdO h4 (kdI _)).grown h hr hg) hr h3 hg⟩,fun h u hu=>by
 obtain ⟨a,m,b,n,c,k,rfl⟩:=cells_LayO h
 simp at hu
 rcases hu with rfl | rfl | rfl | rfl <;> rfl⟩
theorem RdRow.lay {a:Option Addr} {n c:Nat} {l:List (Lay ν)} (h:RdRow 4 (RdLay T) w (.slice a n c) l) (i:Nat) (hi:i < l.length):
  ∃ b off x m y n z k,a=some ⟨b,off,none⟩∧Bo w b (off+i*4) [.int .i64 l[i].K,.slice x l[i].W.length m,.slice y l[i].B.length n,.slice z l[i].G.length k]∧RdRow 1 (RowT 3 T) w (.slice x l[i].W.length m) l[i].W∧RdRow 3 T w (.slice y l[i].B.length n) l[i].B∧RdRow 1 (RowT 1 IntT) w (.slice z l[i].G.length k) l[i].G:=by
 obtain ⟨b1,o1,cs,he,hl,hT,hc⟩:=h.at dC i hi
 obtain ⟨x,m,y,n,z,k,rfl,h1,h2,h3⟩:=cells_Lay hT
 exact ⟨b1,o1,x,m,y,n,z,k,he,Bo.of hc,h1,h2,h3⟩
end
abbrev Nt (ν:Type):=Int × List (Lay ν)
def RdNet {ν:Type} (T:World→Value→ν→Prop) (w:World) (v:Value) (n:Nt ν):Prop:=∃ a,v=.agg #[.int .i64 n.1,a]∧RdRow 4 (RdLay T) w a n.2
def OwnNet {ν:Type} (T:World→Value→ν→Prop) (e r g t:TypeId) (w:World) (v:Value) (n:Nt ν):Prop:=∃ a,v=.agg #[.int .i64 n.1,a]∧OwnRow 4 (OwnLay T e r g) t 0 w a n.2
section
variable {ν:Type} {T S:World→Value→ν→Prop} {e r g t:TypeId} {w w':World} {v:Value} {n:Nt ν}
theorem RdNet.ext (h:RdNet T w v n) (hT:∀ {w w' v a},T w v a→Ext w w'→T w' v a) (x:Ext w w'):RdNet T w' v n:=by
 obtain ⟨a,rfl,h⟩:=h
 exact ⟨a,rfl,h.ext (fun h x=>RdLay.ext h hT x) x⟩
theorem RdNet.mono (h:RdNet T w v n) (hTS:∀ v a,T w v a→S w v a):RdNet S w v n:=by
 obtain ⟨a,rfl,h⟩:=h
 refine ⟨a,rfl,RdRow.mono h fun _ _ h=>?_⟩
 obtain ⟨a,b,c,rfl,h1,h2,h3⟩:=h
 exact ⟨a,b,c,rfl,RdRow.mono h1 fun _ _ h=>h.mono hTS,RdRow.mono h2 hTS,h3⟩
theorem OwnNet.rd (h:OwnNet T e r g t w v n) (hTS:∀ v a,T w v a→S w v a):RdNet S w v n:=by
 obtain ⟨a,rfl,h⟩:=h
 exact ⟨a,rfl,RdRow.mono h.rd fun _ _ h=>h.rd hTS⟩
theorem RdNet.op (h:RdNet T w v n):∃ a c,v=.agg #[.int .i64 n.1,.slice a n.2.length c]∧n.2.length≤c∧c≤maxLen∧RdRow 4 (RdLay T) w (.slice a n.2.length c) n.2:=by
 obtain ⟨a,rfl,h⟩:=h
 obtain ⟨a,c,rfl,h1,h2⟩:=h.shape
 exact ⟨a,c,rfl,h1,h2,h⟩
end
theorem RowO.putT {α:Type} {k:Nat} {T:World→Value→α→Prop} {e t:TypeId} {c m:Nat} {w:World} {v:Value} {l:List α} (h:RowO k T e w v l) (hc:Rt w c m t) (hne:e≠t) (i:Nat) (cs:List Value) (hT:∀ v a,T w v a→T (Att.putL w c i cs) v a):RowO k T e (Att.putL w c i cs) v l:=by
 obtain ⟨a,d,rfl,h⟩:=h
 exact ⟨a,d,rfl,h.putT hc hne i cs hT⟩
theorem OwnLay.putT {ν:Type} {T:World→Value→ν→Prop} {e r g t:TypeId} {c m:Nat} {w:World} {v:Value} {l:Lay ν} (h:OwnLay T e r g w v l) (hc:Rt w c m t) (h1:e≠t) (h2:r≠t) (h3:g≠t) (h4:3≠t) (i:Nat) (cs:List Value) (hT:∀ v a,T w v a→T (Att.putL w c i cs) v a):OwnLay T e r g (Att.putL w c i cs) v l:=by
 obtain ⟨a,b,d,rfl,k1,k2,k3⟩:=h
 exact ⟨a,b,d,rfl,k1.putT hc h2 i cs (fun _ _ h=>h.putT hc h1 i cs hT),k2.putT hc h1 i cs hT,k3.putT hc h3 i cs (fun _ _ h=>h.putT hc h4 i cs fun _ _ h=>h)⟩
theorem Rt.setAt {w:World} {b n:Nat} {t:TypeId} (h:Rt w b n t) (i:Nat) (x:Value):Rt (Att.putL w b i [x]) b n t:=by
 obtain ⟨cs,h1,h2⟩:=h
 exact ⟨_,by simp [h1],heap_setCell_same w b i _ t x h2⟩
theorem Bx.setAt {w:World} {b n:Nat} {t:TypeId} {cs:List Value} (h:Bx w b cs) (hr:Rt w b n t) (i:Nat) (hi:i < n) (x:Value):Bx (Att.putL w b i [x]) b (cs.set i x):=by
 obtain ⟨cur,h1,h2⟩:=hr
 intro j v hv
 have hc:=heap_setCell_same w b i _ t x h2
 show (w.setCell ⟨b,i,none⟩ x).cell? _=_
 rw [cell_of_row _ b _ _ t (0,0) hc]
 by_cases e:j=i
 ·subst e
  have hlt:j < cs.length:=by
   rcases Nat.lt_or_ge j cs.length with h | h
   ·exact h
   rw [List.getElem?_eq_none (by rw [List.length_set];omega)] at hv;cases hv
  rw [List.getElem?_set_self hlt] at hv
  rw [Array.getElem?_setIfInBounds_self_of_lt oM]
  exact hv
 rw [List.getElem?_set_ne oM] at hv
 rw [Array.getElem?_setIfInBounds_ne oM]
 have h3:=h j v hv
 rwa [cell_of_row w b _ _ t (0,0) h2] at h3
theorem Rt.c2 {w:World} {b:Nat} {t:TypeId} (h:Rt w b 2 t):∃ x0 x1,w.cell? ⟨b,0,none⟩=some x0∧w.cell? ⟨b,1,none⟩=some x1∧w.frozen? ⟨b,0,none⟩=false∧w.frozen? ⟨b,1,none⟩=false:=by
 obtain ⟨x0,h0,g0⟩:=h.rm.at 0 oM
 obtain ⟨x1,h1,g1⟩:=h.rm.at 1 oM
 exact ⟨x0,x1,h0,h1,g0,g1⟩
theorem Bo.c4 {w:World} {b o:Nat} {x0 x1 x2 x3:Value} {l:List Value} (h:Bo w b o (x0 :: x1 :: x2 :: x3 :: l)):w.cell? ⟨b,o,none⟩=some x0∧w.cell? ⟨b,o+1,none⟩=some x1∧w.cell? ⟨b,o+2,none⟩=some x2∧w.cell? ⟨b,o+3,none⟩=some x3:=
 ⟨h 0 _ rfl,h 1 _ rfl,h 2 _ rfl,h 3 _ rfl⟩
end Go.Att
