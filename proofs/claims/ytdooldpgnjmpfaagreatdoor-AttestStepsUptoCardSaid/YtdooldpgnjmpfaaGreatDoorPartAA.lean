/- A group of texts: Lib, Law, Law2, Num, Num2, Num3, Num4, Num5, NumN, NumL, NumM, Lend -/
import Derived.WalkKit
import Derived.Lib.Hide
import Derived.Lib.BitFns
namespace Go.Att
open Go.RowKit

abbrev Ext (w w':World):Prop:=Below w.heap.size w w'
theorem Ext.refl (w:World):Ext w w:=Below.refl _ _
theorem Ext.trans {a b c:World} (h:Ext a b) (k:Ext b c):Ext a c:=Below.trans h (Below.mono k h.size)
theorem Ext.alloc (w:World) (o:Obj):Ext w (w.alloc o):=(Below.refl _ _).alloc (Nat.le_refl _) o
theorem Ext.grown {w w':World} (h:w.grownBy w' none):Ext w w':=(Below.refl _ _).grown h (Nat.le_refl _) (fun k h=>by cases h)
theorem Ext.lt {w w':World} (h:Ext w w') {b:Nat} (hb:b < w.heap.size):b < w'.heap.size:=Nat.lt_of_lt_of_le hb h.size
theorem Ext.cell {w w':World} (h:Ext w w') {a:Addr} {v:Value} (hc:w.cell? a=some v):w'.cell? a=some v:=
 (Below.cell h (World.block_lt_of_cell? w a hc)).trans hc
theorem Ext.owns {w w':World} (h:Ext w w') {B:Nat} {e:TypeId} {size:Nat} {v:Value} {n:Nat} {xs:List Value} (o:w.ownsRow B e size v n xs):w'.ownsRow B e size v n xs:=by
 obtain ⟨h1,h2⟩:=o
 refine ⟨h1,?_⟩
 rcases h2 with h2 | ⟨g,cap,cur,hv,hg,hh,r⟩
 ·exact .inl h2
 ·exact .inr ⟨g,cap,cur,hv,hg,by rw [h.block g (Array.getElem?_eq_some_iff.1 hh).1];exact hh,r⟩

theorem via {P:Program} {f:FuncId} {args:Array Value} {w:World} {R:Ending→World→Prop}
  (h:∀ R':Ending→World→Prop,Hid (∀ e w',R e w'→R' e w')→Calls P f args w R'):Calls P f args w R:=h R (fun _ _ h=>h)

def Gives (w:World) (R:Value→World→Prop):Ending→World→Prop:=fun e w'=>∃ v,e=.returned v∧Below w.heap.size w w'∧R v w'
theorem Gives.mk {w w':World} {R:Value→World→Prop} {v:Value} (h:Below w.heap.size w w') (r:R v w'):Gives w R (.returned v) w':=⟨v,rfl,h,r⟩

def RdV (w:World) (v:Value) (size n:Nat) (cells:List Value):Prop:=
 cells.length=n*size∧∃ a cap,v=.slice a n cap∧n≤cap∧cap≤maxLen∧(a=none→cap=0)∧
  ∀ i,i < cells.length→∃ b off,a=some ⟨b,off,none⟩∧w.cell? ⟨b,off+i,none⟩=cells[i]?

theorem RdV.ext {w w':World} {v:Value} {size n:Nat} {cells:List Value} (h:RdV w v size n cells) (e:Ext w w'):RdV w' v size n cells:=by
 obtain ⟨h0,a,cap,rfl,h1,h2,h3,h5⟩:=h
 refine ⟨h0,a,cap,rfl,h1,h2,h3,fun i hi=>?_⟩
 obtain ⟨b,off,ha,hc⟩:=h5 i hi
 refine ⟨b,off,ha,?_⟩
 rw [List.getElem?_eq_getElem hi] at hc ⊢
 exact e.cell hc

theorem RdV.nil (w:World) (size:Nat):RdV w (.slice none 0 0) size 0 []:=
 ⟨by simp,none,0,rfl,Nat.le_refl _,Nat.zero_le _,fun _=>rfl,fun i hi=>by simp at hi⟩

theorem RdV.of_owns {w:World} {B:Nat} {e:TypeId} {size:Nat} {v:Value} {n:Nat} {xs:List Value} (o:w.ownsRow B e size v n xs):RdV w v size n xs:=by
 rcases o with ⟨h1,⟨rfl,rfl⟩ | ⟨g,cap,cur,rfl,hg,hh,hn,hm,hs,ht⟩⟩
 ·obtain rfl:xs=[]:=List.eq_nil_of_length_eq_zero (by simpa using h1)
  exact RdV.nil w size
 ·refine ⟨h1,some ⟨g,0,none⟩,cap,rfl,hn,hm,(fun h=>by cases h),fun i hi=>⟨g,0,rfl,?_⟩⟩
  have ho:w.ownsRow B e size (.slice (some ⟨g,0,none⟩) n cap) n xs:=⟨h1,.inr ⟨g,cap,cur,rfl,hg,hh,hn,hm,hs,ht⟩⟩
  rw [Nat.zero_add]
  exact ho.cellAt i (by omega)

@[irreducible] def nth (xs:List Nat) (i:Nat):Nat:=xs.getD i 0
@[irreducible] def nthB (xs:List Bool) (i:Nat):Bool:=xs.getD i false

theorem nth_lt (xs:List Nat) (i:Nat) (h:i < xs.length):nth xs i=xs[i]:=by unfold nth;simp [List.getD,h]
theorem nth_ge (xs:List Nat) (i:Nat) (h:xs.length≤i):nth xs i=0:=by unfold nth;simp [List.getD,h]
theorem nthB_lt (xs:List Bool) (i:Nat) (h:i < xs.length):nthB xs i=xs[i]:=by unfold nthB;simp [List.getD,h]
theorem nthB_ge (xs:List Bool) (i:Nat) (h:xs.length≤i):nthB xs i=false:=by unfold nthB;simp [List.getD,h]

def Fit (M:Nat) (xs:List Nat):Prop:=∀ x∈xs,x < M
theorem Fit.nil (M:Nat):Fit M []:=fun x h=>by simp at h
theorem Fit.nth {M:Nat} {xs:List Nat} (h:Fit M xs) (hM:0 < M) (i:Nat):Att.nth xs i < M:=by
 by_cases hi:i < xs.length
 ·rw [nth_lt xs i hi];exact h _ (List.getElem_mem hi)
 ·rw [nth_ge xs i (by omega)];exact hM
theorem Fit.app {M:Nat} {xs ys:List Nat} (h:Fit M xs) (k:Fit M ys):Fit M (xs ++ ys):=fun x hx=>by
 rcases List.mem_append.1 hx with hx | hx
 ·exact h x hx
 ·exact k x hx
theorem Fit.one {M x:Nat} (h:x < M):Fit M [x]:=fun y hy=>by simp at hy;omega
theorem Fit.take {M:Nat} {xs:List Nat} (h:Fit M xs) (n:Nat):Fit M (xs.take n):=fun x hx=>h x (List.mem_of_mem_take hx)
theorem Fit.drop {M:Nat} {xs:List Nat} (h:Fit M xs) (n:Nat):Fit M (xs.drop n):=fun x hx=>h x (List.mem_of_mem_drop hx)
theorem Fit.set {M:Nat} {xs:List Nat} (h:Fit M xs) (i x:Nat) (hx:x < M):Fit M (xs.set i x):=fun y hy=>by
 rcases List.mem_or_eq_of_mem_set hy with hy | rfl
 ·exact h y hy
 ·exact hx
theorem Fit.replicate {M:Nat} (n x:Nat) (hx:x < M):Fit M (List.replicate n x):=fun y hy=>by rw [List.eq_of_mem_replicate hy];exact hx

def ints (k:IntKind) (xs:List Nat):List Value:=xs.map fun (n:Nat)=>Value.int k n
def bools (xs:List Bool):List Value:=xs.map Value.bool
theorem len_ints (k:IntKind) (xs:List Nat):(ints k xs).length=xs.length:=by simp [ints]
theorem len_bools (xs:List Bool):(bools xs).length=xs.length:=by simp [bools]
theorem at_ints (k:IntKind) (xs:List Nat) (i:Nat) (h:i < xs.length):(ints k xs)[i]?=some (.int k (nth xs i)):=by
 simp [ints,nth_lt xs i h,h]
theorem at_bools (xs:List Bool) (i:Nat) (h:i < xs.length):(bools xs)[i]?=some (.bool (nthB xs i)):=by
 simp [bools,nthB_lt xs i h,h]

def RdI (k:IntKind) (w:World) (v:Value) (xs:List Nat):Prop:=RdV w v 1 xs.length (ints k xs)
def RdB (w:World) (v:Value) (xs:List Bool):Prop:=RdV w v 1 xs.length (bools xs)
def OwnI (k:IntKind) (e:TypeId) (B:Nat) (w:World) (v:Value) (xs:List Nat):Prop:=w.ownsRow B e 1 v xs.length (ints k xs)
def OwnB (e:TypeId) (B:Nat) (w:World) (v:Value) (xs:List Bool):Prop:=w.ownsRow B e 1 v xs.length (bools xs)

theorem RdI.ext {k:IntKind} {w w':World} {v:Value} {xs:List Nat} (h:RdI k w v xs) (e:Ext w w'):RdI k w' v xs:=RdV.ext h e
theorem RdB.ext {w w':World} {v:Value} {xs:List Bool} (h:RdB w v xs) (e:Ext w w'):RdB w' v xs:=RdV.ext h e
theorem OwnI.rd {k:IntKind} {e:TypeId} {B:Nat} {w:World} {v:Value} {xs:List Nat} (h:OwnI k e B w v xs):RdI k w v xs:=RdV.of_owns h
theorem OwnB.rd {e:TypeId} {B:Nat} {w:World} {v:Value} {xs:List Bool} (h:OwnB e B w v xs):RdB w v xs:=RdV.of_owns h
theorem OwnI.ext {k:IntKind} {e:TypeId} {B:Nat} {w w':World} {v:Value} {xs:List Nat} (h:OwnI k e B w v xs) (x:Ext w w'):OwnI k e B w' v xs:=Ext.owns x h
theorem OwnB.ext {e:TypeId} {B:Nat} {w w':World} {v:Value} {xs:List Bool} (h:OwnB e B w v xs) (x:Ext w w'):OwnB e B w' v xs:=Ext.owns x h
theorem owns_mono {w:World} {B B':Nat} {e:TypeId} {size:Nat} {v:Value} {n:Nat} {xs:List Value} (o:w.ownsRow B e size v n xs) (h:B'≤B):w.ownsRow B' e size v n xs:=by
 rcases o with ⟨h1,h2 | ⟨g,cap,cur,hv,hg,r⟩⟩
 ·exact ⟨h1,.inl h2⟩
 ·exact ⟨h1,.inr ⟨g,cap,cur,hv,Nat.le_trans h hg,r⟩⟩
theorem OwnI.mono {k:IntKind} {e:TypeId} {B B':Nat} {w:World} {v:Value} {xs:List Nat} (h:OwnI k e B w v xs) (hB:B'≤B):OwnI k e B' w v xs:=owns_mono h hB
theorem OwnB.mono {e:TypeId} {B B':Nat} {w:World} {v:Value} {xs:List Bool} (h:OwnB e B w v xs) (hB:B'≤B):OwnB e B' w v xs:=owns_mono h hB

theorem RdI.shape {k:IntKind} {w:World} {v:Value} {xs:List Nat} (h:RdI k w v xs):∃ a cap,v=.slice a xs.length cap∧xs.length≤cap∧cap≤maxLen∧(a=none→cap=0)∧
  ∀ i,i < xs.length→∃ b off,a=some ⟨b,off,none⟩∧w.cell? ⟨b,off+i,none⟩=some (.int k (nth xs i)):=by
 obtain ⟨h0,a,cap,rfl,h1,h2,h3,h5⟩:=h
 refine ⟨a,cap,rfl,h1,h2,h3,fun i hi=>?_⟩
 obtain ⟨b,off,ha,hc⟩:=h5 i (by rw [len_ints];exact hi)
 exact ⟨b,off,ha,hc.trans (at_ints k xs i hi)⟩
theorem RdB.shape {w:World} {v:Value} {xs:List Bool} (h:RdB w v xs):∃ a cap,v=.slice a xs.length cap∧xs.length≤cap∧cap≤maxLen∧(a=none→cap=0)∧
  ∀ i,i < xs.length→∃ b off,a=some ⟨b,off,none⟩∧w.cell? ⟨b,off+i,none⟩=some (.bool (nthB xs i)):=by
 obtain ⟨h0,a,cap,rfl,h1,h2,h3,h5⟩:=h
 refine ⟨a,cap,rfl,h1,h2,h3,fun i hi=>?_⟩
 obtain ⟨b,off,ha,hc⟩:=h5 i (by rw [len_bools];exact hi)
 exact ⟨b,off,ha,hc.trans (at_bools xs i hi)⟩

theorem RdI.cell {k:IntKind} {w:World} {b off n cap:Nat} {xs:List Nat} (h:RdI k w (.slice (some ⟨b,off,none⟩) n cap) xs) (i:Nat) (hi:i < xs.length):w.cell? ⟨b,off+i,none⟩=some (.int k (nth xs i)):=by
 obtain ⟨a,c,hv,_,_,_,h5⟩:=h.shape
 simp only [Value.slice.injEq] at hv
 obtain ⟨rfl,_,_⟩:=hv
 obtain ⟨b',o',hb,hc⟩:=h5 i hi
 simp only [Option.some.injEq,Addr.mk.injEq,and_true] at hb
 obtain ⟨rfl,rfl⟩:=hb
 exact hc
theorem RdB.cell {w:World} {b off n cap:Nat} {xs:List Bool} (h:RdB w (.slice (some ⟨b,off,none⟩) n cap) xs) (i:Nat) (hi:i < xs.length):w.cell? ⟨b,off+i,none⟩=some (.bool (nthB xs i)):=by
 obtain ⟨a,c,hv,_,_,_,h5⟩:=h.shape
 simp only [Value.slice.injEq] at hv
 obtain ⟨rfl,_,_⟩:=hv
 obtain ⟨b',o',hb,hc⟩:=h5 i hi
 simp only [Option.some.injEq,Addr.mk.injEq,and_true] at hb
 obtain ⟨rfl,rfl⟩:=hb
 exact hc

theorem RdV.take {w:World} {a:Option Addr} {n cap m:Nat} {cells:List Value} (h:RdV w (.slice a n cap) 1 n cells) (hm:m≤n):RdV w (.slice a m cap) 1 m (cells.take m):=by
 obtain ⟨h0,a',c,hv,h1,h2,h3,h5⟩:=h
 simp only [Value.slice.injEq] at hv
 obtain ⟨rfl,_,rfl⟩:=hv
 have hl:(cells.take m).length=m:=by rw [List.length_take,h0];omega
 refine ⟨by rw [hl];omega,a,cap,rfl,by omega,h2,h3,fun i hi=>?_⟩
 rw [hl] at hi
 obtain ⟨b,off,ha,hc⟩:=h5 i (by omega)
 refine ⟨b,off,ha,?_⟩
 rw [List.getElem?_take_of_lt (by omega)]
 exact hc
theorem RdI.take {k:IntKind} {w:World} {a:Option Addr} {n cap m:Nat} {xs:List Nat} (h:RdI k w (.slice a n cap) xs) (hn:n=xs.length) (hm:m≤xs.length):RdI k w (.slice a m cap) (xs.take m):=by
 subst hn
 have:=RdV.take h hm
 unfold RdI ints at*
 rw [List.map_take]
 rw [show (xs.take m).length=m by rw [List.length_take];omega]
 exact this
theorem RdB.take {w:World} {a:Option Addr} {n cap m:Nat} {xs:List Bool} (h:RdB w (.slice a n cap) xs) (hn:n=xs.length) (hm:m≤xs.length):RdB w (.slice a m cap) (xs.take m):=by
 subst hn
 have:=RdV.take h hm
 unfold RdB bools at*
 rw [List.map_take]
 rw [show (xs.take m).length=m by rw [List.length_take];omega]
 exact this
theorem owns_take {w:World} {B:Nat} {e:TypeId} {a:Option Addr} {n cap m:Nat} {xs:List Value} (o:w.ownsRow B e 1 (.slice a n cap) n xs) (hm:m≤n):w.ownsRow B e 1 (.slice a m cap) m (xs.take m):=by
 rcases o with ⟨h1,⟨h2,rfl⟩ | ⟨g,c,cur,hv,hg,hh,hn,hc,hs,ht⟩⟩
 ·simp only [Value.slice.injEq] at h2
  obtain ⟨rfl,_,rfl⟩:=h2
  obtain rfl:m=0:=by omega
  exact ⟨by simp,.inl ⟨rfl,rfl⟩⟩
 ·simp only [Value.slice.injEq] at hv
  obtain ⟨rfl,_,rfl⟩:=hv
  refine ⟨by rw [List.length_take];omega,.inr ⟨g,cap,cur,rfl,hg,hh,by omega,hc,hs,?_⟩⟩
  rw [← ht,List.take_take]
  congr 1
  omega
theorem OwnI.take {k:IntKind} {e:TypeId} {B:Nat} {w:World} {a:Option Addr} {n cap m:Nat} {xs:List Nat} (h:OwnI k e B w (.slice a n cap) xs) (hn:n=xs.length) (hm:m≤xs.length):OwnI k e B w (.slice a m cap) (xs.take m):=by
 subst hn
 have:=owns_take h hm
 unfold OwnI ints at*
 rw [List.map_take,show (xs.take m).length=m by rw [List.length_take];omega]
 exact this
theorem OwnB.take {e:TypeId} {B:Nat} {w:World} {a:Option Addr} {n cap m:Nat} {xs:List Bool} (h:OwnB e B w (.slice a n cap) xs) (hn:n=xs.length) (hm:m≤xs.length):OwnB e B w (.slice a m cap) (xs.take m):=by
 subst hn
 have:=owns_take h hm
 unfold OwnB bools at*
 rw [List.map_take,show (xs.take m).length=m by rw [List.length_take];omega]
 exact this
theorem OwnI.nil (k:IntKind) (e:TypeId) (B:Nat) (w:World):OwnI k e B w (.slice none 0 0) []:=World.ownsRow_nil w B e 1
theorem OwnB.nil (e:TypeId) (B:Nat) (w:World):OwnB e B w (.slice none 0 0) []:=World.ownsRow_nil w B e 1
theorem RdI.nil (k:IntKind) (w:World):RdI k w (.slice none 0 0) []:=RdV.nil w 1
theorem RdB.nil (w:World):RdB w (.slice none 0 0) []:=RdV.nil w 1

theorem RdV.news {w:World} {size n cap:Nat} {ao:Option Addr} {cells:List Value} (h:RdV w (.slice ao n cap) size n cells):∀ ad,ao=some ad→∀ j u,cells[j]?=some u→w.cell? (ad.add j)=some u:=by
 obtain ⟨h0,a',c,hv,h1,h2,h3,h5⟩:=h
 simp only [Value.slice.injEq] at hv
 obtain ⟨rfl,_,rfl⟩:=hv
 intro ad had j u hu
 have hj:=(List.getElem?_eq_some_iff.1 hu).1
 obtain ⟨b,off,ha,hc⟩:=h5 j hj
 rw [ha] at had
 obtain rfl:=Option.some.inj had
 rw [Addr.add_lit,hc]
 exact hu
theorem ints_one (k:IntKind) (xs:List Nat):∀ u∈ints k xs,u.oneCell'=true:=by
 intro u hu;obtain ⟨_,_,rfl⟩:=List.mem_map.1 hu;rfl
theorem bools_one (xs:List Bool):∀ u∈bools xs,u.oneCell'=true:=by
 intro u hu;obtain ⟨_,_,rfl⟩:=List.mem_map.1 hu;rfl
theorem ints_app (k:IntKind) (xs ys:List Nat):ints k (xs ++ ys)=ints k xs ++ ints k ys:=by simp [ints]
theorem bools_app (xs ys:List Bool):bools (xs ++ ys)=bools xs ++ bools ys:=by simp [bools]

theorem bneT {a b:Int} (h:a≠b):(a != b)=true:=bne_iff_ne.2 h
theorem bneF {a b:Int} (h:a=b):(a != b)=false:=by rw [h];simp
theorem beqT {a b:Int} (h:a=b):(a == b)=true:=beq_iff_eq.2 h
theorem beqF {a b:Int} (h:a≠b):(a == b)=false:=beq_eq_false_iff_ne.2 h

open Go.RowKit

structure ElemT (P:Program) (t e:TypeId) (z:Value) (size bytes:Nat):Prop where
 und:P.underlying t=some (.slice e)
 inf:∃ i,P.info? e=some i∧i.zero=some z∧i.size=size∧i.bytes=bytes
 cells:z.cells.size=size
 pos:0 < size
theorem ElemT.mk' {P:Program} {t e:TypeId} {z:Value} {size bytes:Nat} (h1:P.underlying t=some (.slice e)) (h2:(P.info? e).map (fun i=>(i.zero,i.size,i.bytes))=some (some z,size,bytes)) (h3:z.cells.size=size) (h4:0 < size):ElemT P t e z size bytes:=
 ⟨h1,info_parts h2,h3,h4⟩

theorem wpList_want {P:Program} {w:World} {ops:Array Oper} {rest:List Oper} {o:Oper} {a:Act} {Q:Exit→Act→World→Prop} (hw:Region.wanted o (yielded ops a.tmps)=true)
  (h:∀ K:Act→World→Prop,(∀ a w,wpList P ops Q rest a w→K a w)→o.wp P a w K Q):wpList P ops Q (o :: rest) a w:=
 wpList_step fun K hK=>by rw [if_pos hw];exact h K hK
theorem append_rd {P:Program} {w:World} {ops:Array Oper} {rest:List Oper} {o:Oper} {a:Act} {Q:Exit→Act→World→Prop} {t e:TypeId} {z:Value} {size bytes:Nat} (T:ElemT P t e z size bytes)
  (hgd:Region.wanted o (yielded ops a.tmps)=true) (s x:Operand) (ho:o.op=.call { callee:=.builtin .append,args:=#[s,x],argTypes:=#[t,t] })
  (base:Nat) {v:Value} {n:Nat} {xs:List Value} (hs:a.eval s=v) (hown:w.ownsRow base e size v n xs)
  {v2:Value} {m:Nat} {news:List Value} (hx:a.eval x=v2) (hr:RdV w v2 size m news) (h1:∀ u∈news,u.oneCell'=true)
  (h63:(n+m)*bytes≤140737488355328) (hm63:n+m≤maxLen) (hbase:base≤w.heap.size)
  (h:∀ v' w',w'.ownsRow base e size v' (n+m) (xs ++ news)→Below base w w'→w.grownBy w' v.ownBlock→wpList P ops Q rest (a.put o.dst v') w'):wpList P ops Q (o :: rest) a w:=by
 obtain ⟨i,hi,hz,hsz,hby⟩:=T.inf
 have hb:∀ w',w.grownBy w' v.ownBlock→Below base w w':=fun w' hg=>
  (Below.refl base w).grown hg hbase (fun k hk=>(hown.lt k hk).1)
 have hr':=hr
 obtain ⟨hlen,ao,cap,rfl,hmc,hcm,hnone,_⟩:=hr'
 cases ao with
 | some ad=>exact wpList_want hgd fun _ hK=>wp_append_own w s x t ho base e i z size bytes T.und hi hz hsz hby T.cells T.pos v n xs hs hown ad m cap news hx hlen (hr.news ad rfl) h1 hm63 h63 hbase (fun v' w' a1 a2 _=>hK _ _ (h v' w' a1 (hb w' a2) a2))
 | none=>
  obtain rfl:=hnone rfl
  obtain rfl:m=0:=by omega
  have hnews:news=[]:=List.eq_nil_of_length_eq_zero (by simpa using hlen)
  subst hnews
  refine wpList_want hgd fun K hK'=>?_
  have hrun:=run_append_owned_none (P:=P) w base t o.type e i size T.und hi v n xs hown
  unfold Oper.wp
  simp [execOp,ho,resolve,invoke,builtin,hs,hx,hrun,Result.andThen]
  exact hK' _ _ (by simpa using h v w (by simpa using hown) (Below.refl _ _) (World.grownBy.refl _ _))

theorem make_full {P:Program} {w:World} {ops:Array Oper} {rest:List Oper} {o:Oper} {a:Act} {Q:Exit→Act→World→Prop} {t e:TypeId} {z:Value} {size bytes:Nat} (T:ElemT P t e z size bytes)
  (hg:o.guard=none) (l c:Operand) (hop:o.op=Op.makeSlice t l c)
  (kl kc:IntKind) (n:Nat) (hl:a.eval l=.int kl n) (hc:a.eval c=.int kc n) (b2:bytes*n≤281474976710656) (b3:n≤maxLen)
  (hK:∀ w',w'.ownsRow w.heap.size e size (.slice (some ⟨w.heap.size,0,none⟩) n n) n (madeCells z.cells (n*size)).toList→Ext w w'→wpList P ops Q rest (a.put o.dst (.slice (some ⟨w.heap.size,0,none⟩) n n)) w'):
  wpList P ops Q (o :: rest) a w:=by
 obtain ⟨i,hi,hz,hsz,hby⟩:=T.inf
 exact wpList_make_full w hg l c t hop w.heap.size e i z size T.und hi hz hsz kl kc n n n hl hc rfl rfl (by rw [hby];exact b2) b3 (Nat.le_refl _) (fun w' h1 h2=>hK w' h1 (Ext.grown h2))

theorem make_cap {P:Program} {w:World} {ops:Array Oper} {rest:List Oper} {o:Oper} {a:Act} {Q:Exit→Act→World→Prop} {t e:TypeId} {z:Value} {size bytes:Nat} (T:ElemT P t e z size bytes)
  (hg:o.guard=none) (l c:Operand) (hop:o.op=Op.makeSlice t l c)
  (kl kc:IntKind) (n:Nat) (hl:a.eval l=.int kl 0) (hc:a.eval c=.int kc n) (b2:bytes*n≤281474976710656) (b3:n≤maxLen)
  (hK:∀ w',w'.ownsRow w.heap.size e size (.slice (some ⟨w.heap.size,0,none⟩) 0 n) 0 []→Ext w w'→wpList P ops Q rest (a.put o.dst (.slice (some ⟨w.heap.size,0,none⟩) 0 n)) w'):
  wpList P ops Q (o :: rest) a w:=by
 obtain ⟨i,hi,hz,hsz,hby⟩:=T.inf
 exact wpList_make_own w hg l c t hop w.heap.size e i z size T.und hi hz hsz kl kc n n hl hc rfl (by rw [hby];exact b2) b3 (Nat.le_refl _) (fun w' h1 h2=>hK w' h1 (Ext.grown h2))

theorem RdV.lit (w:World) (cs:Array Value) (e:TypeId) (size n:Nat) (hs:cs.size=n*size) (hn:n≤maxLen):RdV (w.alloc (.cells cs e)) (.slice (some ⟨w.heap.size,0,none⟩) n n) size n cs.toList:=
 RdV.of_owns (World.ownsRow_lit (base:=w.heap.size) w cs n (Nat.le_refl _) hn hs)
theorem madeInts (k:IntKind) (n:Nat):(madeCells (Value.int k 0).cells (n*1)).toList=ints k (List.replicate n 0):=by
 rw [Nat.mul_one]
 show (madeCells #[Value.int k 0] n).toList=_
 rw [toList_madeCells_one];simp [ints]
theorem madeBools (n:Nat):(madeCells (Value.bool false).cells (n*1)).toList=bools (List.replicate n false):=by
 rw [Nat.mul_one]
 show (madeCells #[Value.bool false] n).toList=_
 rw [toList_madeCells_one];simp [bools]
def zeros (n:Nat):List Nat:=List.replicate n 0
def nays (n:Nat):List Bool:=List.replicate n false
theorem len_zeros (n:Nat):(zeros n).length=n:=by simp [zeros]
theorem len_nays (n:Nat):(nays n).length=n:=by simp [nays]
theorem fit_zeros {M:Nat} (n:Nat) (h:0 < M):Fit M (zeros n):=Fit.replicate _ _ h
theorem make_ints {P:Program} {w:World} {ops:Array Oper} {rest:List Oper} {o:Oper} {a:Act} {Q:Exit→Act→World→Prop} {t e:TypeId} {k:IntKind} {bytes:Nat} (T:ElemT P t e (.int k 0) 1 bytes)
  (hg:o.guard=none) (l c:Operand) (hop:o.op=Op.makeSlice t l c)
  (kl kc:IntKind) (n:Nat) (hl:a.eval l=.int kl n) (hc:a.eval c=.int kc n) (b2:bytes*n≤281474976710656) (b3:n≤maxLen)
  (hK:∀ w',OwnI k e w.heap.size w' (.slice (some ⟨w.heap.size,0,none⟩) n n) (zeros n)→Ext w w'→wpList P ops Q rest (a.put o.dst (.slice (some ⟨w.heap.size,0,none⟩) n n)) w'):
  wpList P ops Q (o :: rest) a w:=
 make_full T hg l c hop kl kc n hl hc b2 b3 (fun w' h1 h2=>hK w' (by rw [madeInts] at h1;unfold OwnI zeros;rw [List.length_replicate];exact h1) h2)
theorem make_bools {P:Program} {w:World} {ops:Array Oper} {rest:List Oper} {o:Oper} {a:Act} {Q:Exit→Act→World→Prop} {t e:TypeId} {bytes:Nat} (T:ElemT P t e (.bool false) 1 bytes)
  (hg:o.guard=none) (l c:Operand) (hop:o.op=Op.makeSlice t l c)
  (kl kc:IntKind) (n:Nat) (hl:a.eval l=.int kl n) (hc:a.eval c=.int kc n) (b2:bytes*n≤281474976710656) (b3:n≤maxLen)
  (hK:∀ w',OwnB e w.heap.size w' (.slice (some ⟨w.heap.size,0,none⟩) n n) (nays n)→Ext w w'→wpList P ops Q rest (a.put o.dst (.slice (some ⟨w.heap.size,0,none⟩) n n)) w'):
  wpList P ops Q (o :: rest) a w:=
 make_full T hg l c hop kl kc n hl hc b2 b3 (fun w' h1 h2=>hK w' (by rw [madeBools] at h1;unfold OwnB nays;rw [List.length_replicate];exact h1) h2)
theorem op_bin {P:Program} {w:World} {ops:Array Oper} {rest:List Oper} {o:Oper} {a:Act} {Q:Exit→Act→World→Prop} {op:BinOp} {t ty:TypeId} {x y:Operand}
  (hg:Region.wanted o (yielded ops a.tmps)=true) (ho:o.op=.binOp op t x y ty) {X Y V:Value} (hx:a.eval x=X) (hy:a.eval y=Y) (hne:op≠.eql∧op≠.neq) (hrun:(binOp op t X Y).run P w=.ok V w)
  (h:wpList P ops Q rest (a.put o.dst V) w):wpList P ops Q (o :: rest) a w:=by
 refine wpList_want hg fun K hK'=>?_
 unfold Oper.wp
 have hgd:∀ A B:Value,eqGuard op t x y A B=pure ():=by
  intro A B
  unfold eqGuard
  cases op <;> first | rfl | exact absurd rfl hne.1 | exact absurd rfl hne.2
 simp [execOp,ho,hx,hy,hrun,hgd,Result.andThen]
 exact hK' _ _ h

theorem wrap_id {k:IntKind} {V:Nat} (hs:k.signed=false) (h:V < 2 ^ k.bits):k.wrap (V:Int)=V:=by
 cases k <;> simp [IntKind.signed] at hs <;> simp [IntKind.wrap,IntKind.bits,IntKind.signed] at h ⊢ <;> omega

theorem op_shl {P:Program} {w:World} {ops:Array Oper} {rest:List Oper} {o:Oper} {a:Act} {Q:Exit→Act→World→Prop} {t ty:TypeId} {x y:Operand}
  (hg:Region.wanted o (yielded ops a.tmps)=true) (ho:o.op=.binOp .shl t x y ty) {k yk:IntKind} {Xi Si:Int} (X S V:Nat) (hx:a.eval x=.int k Xi) (hy:a.eval y=.int yk Si) (hX:Xi=X) (hS:Si=S) (hk:k.signed=false) (hsb:S≤k.bits) (hV:X*2 ^ S=V) (hlt:V < 2 ^ k.bits)
  (h:wpList P ops Q rest (a.put o.dst (.int k V)) w):wpList P ops Q (o :: rest) a w:=by
 subst hX hS
 refine op_bin hg ho hx hy (by constructor <;> intro h <;> cases h) ?_ h
 have e:(X:Int)*2 ^ min (S:Int).toNat k.bits=(V:Int):=by
  rw [Int.toNat_natCast,Nat.min_eq_left hsb,← hV];simp
 rw [binOp_shl,shift_shl_any _ _ _ _ (by omega),e,wrap_id hk hlt]
 rfl
theorem op_shr {P:Program} {w:World} {ops:Array Oper} {rest:List Oper} {o:Oper} {a:Act} {Q:Exit→Act→World→Prop} {t ty:TypeId} {x y:Operand}
  (hg:Region.wanted o (yielded ops a.tmps)=true) (ho:o.op=.binOp .shr t x y ty) {k yk:IntKind} {Xi Si:Int} (X S V:Nat) (hx:a.eval x=.int k Xi) (hy:a.eval y=.int yk Si) (hX:Xi=X) (hS:Si=S) (hsb:S≤k.bits) (hV:X / 2 ^ S=V)
  (h:wpList P ops Q rest (a.put o.dst (.int k V)) w):wpList P ops Q (o :: rest) a w:=by
 subst hX hS
 refine op_bin hg ho hx hy (by constructor <;> intro h <;> cases h) ?_ h
 have e:(X:Int) / 2 ^ min (S:Int).toNat k.bits=(V:Int):=by
  rw [Int.toNat_natCast,Nat.min_eq_left hsb,← hV];simp
 rw [binOp_shr,shift_shr_any _ _ _ _ (by omega),e]
 rfl
theorem op_or {P:Program} {w:World} {ops:Array Oper} {rest:List Oper} {o:Oper} {a:Act} {Q:Exit→Act→World→Prop} {t ty:TypeId} {x y:Operand}
  (hg:Region.wanted o (yielded ops a.tmps)=true) (ho:o.op=.binOp .or t x y ty) {k:IntKind} {Xi Yi:Int} (X Y V:Nat) (hx:a.eval x=.int k Xi) (hy:a.eval y=.int k Yi) (hX:Xi=X) (hY:Yi=Y) (hk:k.signed=false) (hx64:X < 2 ^ k.bits) (hy64:Y < 2 ^ k.bits) (hV:X ||| Y=V)
  (h:wpList P ops Q rest (a.put o.dst (.int k V)) w):wpList P ops Q (o :: rest) a w:=by
 subst hX hY
 refine op_bin hg ho hx hy (by constructor <;> intro h <;> cases h) ?_ h
 rw [binOp_or]
 have e:(BitVec.ofInt k.bits (X:Int) ||| BitVec.ofInt k.bits (Y:Int)).toNat=V:=by
  rw [BitVec.toNat_or]
  simp only [BitVec.ofInt_natCast,BitVec.toNat_ofNat,Nat.mod_eq_of_lt hx64,Nat.mod_eq_of_lt hy64,hV]
 have hv:V < 2 ^ k.bits:=by rw [← hV];exact Nat.or_lt_two_pow hx64 hy64
 simp only [Op.intBits,e,wrap_id hk hv]
 rfl
theorem or_sum {lo hi s:Nat} (h:lo < 2 ^ s):lo ||| hi*2 ^ s=lo+hi*2 ^ s:=by
 rw [Nat.mul_comm hi,Nat.or_comm,← Nat.two_pow_add_eq_or_of_lt h]
 omega

theorem make_ints_lc {P:Program} {w:World} {ops:Array Oper} {rest:List Oper} {o:Oper} {a:Act} {Q:Exit→Act→World→Prop} {t e:TypeId} {k:IntKind} {bytes:Nat} (T:ElemT P t e (.int k 0) 1 bytes)
  (hg:o.guard=none) (l c:Operand) (hop:o.op=Op.makeSlice t l c)
  {kl kc:IntKind} {li ci:Int} (n m:Nat) (hl:a.eval l=.int kl li) (hc:a.eval c=.int kc ci) (hn:li=n) (hm:ci=m) (hnm:n≤m) (b2:bytes*m≤281474976710656) (b3:m≤maxLen)
  (hK:∀ w',OwnI k e w.heap.size w' (.slice (some ⟨w.heap.size,0,none⟩) n m) (zeros n)→Ext w w'→wpList P ops Q rest (a.put o.dst (.slice (some ⟨w.heap.size,0,none⟩) n m)) w'):
  wpList P ops Q (o :: rest) a w:=by
 obtain ⟨i,hi,hz,hsz,hby⟩:=T.inf
 subst hn hm
 have hb':(i.bytes:Int)*(m:Int)≤281474976710656:=by
  rw [hby];have:((bytes*m:Nat):Int)≤281474976710656:=by omega
  rwa [Int.natCast_mul] at this
 have hr:=run_make (P:=P) w t e i _ T.und hi hz kl kc n m (by omega) (by omega) hb' (by unfold maxLen at b3;omega)
 simp only [Int.toNat_natCast] at hr
 refine wpList_plain hg fun K hK'=>?_
 unfold Oper.wp
 simp [execOp,hop,hl,hc,hr,Result.andThen]
 refine hK' _ _ (hK _ ?_ (Ext.alloc _ _))
 unfold OwnI zeros
 rw [List.length_replicate,hsz]
 refine ⟨by simp [ints],.inr ⟨_,_,_,rfl,Nat.le_refl _,heap_alloc_new w _,hnm,b3,size_madeCells _ _,?_⟩⟩
 rw [madeInts]
 simp [ints,List.take_replicate,Nat.min_eq_left hnm]
open Go.RowKit

theorem append_ints {P:Program} {w:World} {ops:Array Oper} {rest:List Oper} {o:Oper} {a:Act} {Q:Exit→Act→World→Prop} {t e:TypeId} {k:IntKind} {bytes:Nat} (T:ElemT P t e (.int k 0) 1 bytes)
  (hgd:Region.wanted o (yielded ops a.tmps)=true) (s x:Operand) (ho:o.op=.call { callee:=.builtin .append,args:=#[s,x],argTypes:=#[t,t] })
  (base:Nat) {g n cap:Nat} {xs ys:List Nat} (hs:a.eval s=.slice (some ⟨g,0,none⟩) n cap) (hown:OwnI k e base w (.slice (some ⟨g,0,none⟩) n cap) xs)
  {v2:Value} (hx:a.eval x=v2) (hr:RdI k w v2 ys)
  (h63:(xs.length+ys.length)*bytes≤140737488355328) (hm63:xs.length+ys.length≤maxLen) (hbase:base≤w.heap.size)
  (h:∀ g' cap' w',(g'=g∨w.heap.size≤g')→OwnI k e base w' (.slice (some ⟨g',0,none⟩) (xs.length+ys.length) cap') (xs ++ ys)→Below base w w'→w.grownBy w' (some g)→wpList P ops Q rest (a.put o.dst (.slice (some ⟨g',0,none⟩) (xs.length+ys.length) cap')) w'):wpList P ops Q (o :: rest) a w:=by
 obtain ⟨i,hi,hz,hsz,hby⟩:=T.inf
 have hn:n=xs.length:=by
  obtain ⟨_,_,h1,_⟩:=hown.rd.shape
  simp only [Value.slice.injEq] at h1
  exact h1.2.1
 subst hn
 have hg1:base≤g:=(World.ownsRow.lt hown g rfl).1
 have hb:∀ w',w.grownBy w' (some g)→Below base w w':=fun w' hg=>(Below.refl base w).grown hg hbase (fun k hk=>by cases hk;exact hg1)
 have hr':=hr
 obtain ⟨a2,c2,rfl,hlc,hcm,hnone,_⟩:=hr'.shape
 have hnews:∀ ad,a2=some ad→∀ j u,(ints k ys)[j]?=some u→w.cell? (ad.add j)=some u:=RdV.news hr
 cases a2 with
 | none=>
  obtain rfl:=hnone rfl
  have hys:ys=[]:=List.eq_nil_of_length_eq_zero (by omega)
  subst hys
  refine wpList_want hgd fun K hK'=>?_
  have hrun:=run_append_owned_none (P:=P) w base t o.type e i 1 T.und hi _ xs.length _ hown
  unfold Oper.wp
  simp [execOp,ho,resolve,invoke,builtin,hs,hx,hrun,Result.andThen]
  exact hK' _ _ (by simpa using h g cap w (.inl rfl) (by simpa using hown) (Below.refl _ _) (World.grownBy.refl _ _))
 | some ad=>
  by_cases hroom:xs.length+ys.length≤cap
  ·refine wpList_want hgd fun K hK'=>?_
   obtain ⟨w',hrun,r1,r2⟩:=run_append_fits (P:=P) w base t o.type e i 1 T.und hi hsz g xs.length cap _ hown ad ys.length c2 (ints k ys) (by rw [len_ints,Nat.mul_one]) (hnews ad rfl) (ints_one _ _) hroom
   unfold Oper.wp
   simp [execOp,ho,resolve,invoke,builtin,hs,hx,hrun,Result.andThen]
   refine hK' _ _ (h g cap w' (.inl rfl) ?_ (hb w' r2) r2)
   unfold OwnI
   rw [ints_app,List.length_append]
   exact r1
  ·have holds:∀ j u,(ints k xs)[j]?=some u→w.cell? ((⟨g,0,none⟩:Addr).add j)=some u:=World.ownsRow.cells hown rfl
   have hrun:=run_append_grow (P:=P) w t o.type e i _ T.und hi hz ⟨g,0,none⟩ xs.length cap (ints k xs) (by rw [len_ints,hsz,Nat.mul_one]) holds ad ys.length c2 (ints k ys) (by rw [len_ints,hsz,Nat.mul_one]) (hnews ad rfl) (by omega) (by unfold maxLen at hm63;omega) (growslice_fits (by omega) (by rw [hby];exact h63))
   have hge:=grownCap_ge w (xs.length+ys.length) cap e
   have hcm2:grownCap w (xs.length+ys.length) cap e≤maxLen:=grownCap_le_maxLen w _ cap e hm63
   have hgr:w.grownBy (w.drew.alloc (.cells ((ints k xs).toArray ++ (ints k ys).toArray ++ Builtin.zeroCells (Value.int k 0).cells (grownCap w (xs.length+ys.length) cap e - (xs.length+ys.length))) e)) (some g):=
    ⟨rfl,rfl,rfl,by simp,fun j hj _=>_root_.Go.heap_alloc_old w.drew _ hj⟩
   have hown2:OwnI k e base (w.drew.alloc (.cells ((ints k xs).toArray ++ (ints k ys).toArray ++ Builtin.zeroCells (Value.int k 0).cells (grownCap w (xs.length+ys.length) cap e - (xs.length+ys.length))) e)) (.slice (some ⟨w.heap.size,0,none⟩) (xs.length+ys.length) (grownCap w (xs.length+ys.length) cap e)) (xs ++ ys):=by
    refine ⟨by rw [len_ints,Nat.mul_one],.inr ⟨w.heap.size,_,_,by rw [List.length_append],hbase,heap_alloc_new w.drew _,by rw [List.length_append];exact hge,hcm2,?_,?_⟩⟩
    ·simp only [Array.size_append,List.size_toArray,len_ints,size_zeroCells]
     show xs.length+ys.length+(grownCap w (xs.length+ys.length) cap e - (xs.length+ys.length))*1=_
     omega
    ·rw [ints_app]
     simp only [Array.toList_append,List.append_assoc]
     rw [← List.append_assoc,List.take_left' (by rw [List.length_append,len_ints,len_ints,List.length_append,Nat.mul_one])]
   have:=h w.heap.size _ _ (.inr (Nat.le_refl _)) hown2 (hb _ hgr) hgr
   refine wpList_want hgd fun K hK'=>?_
   unfold Oper.wp execOp
   simp only [ho,resolve,invoke,builtin,Sem.run_bind,Sem.run_pure,Result.andThen_ok,List.map_toArray,List.map_cons,List.map_nil,hs,hx,hrun]
   exact hK' _ _ this

def val (B:Nat):List Nat→Nat
 | []=>0
 | d :: ds=>d+B*val B ds

def digsF (B:Nat):Nat→Nat→List Nat
 | 0,_=>[]
 | f+1,n=>if n=0 then [] else n % B :: digsF B f (n / B)
@[irreducible] def digs (B n:Nat):List Nat:=digsF B n n

theorem val_app (B:Nat) (xs ys:List Nat):val B (xs ++ ys)=val B xs+B ^ xs.length*val B ys:=by
 induction xs with
 | nil=>simp [val]
 | cons d ds ih=>
  simp only [List.cons_append,val,ih,List.length_cons,Nat.pow_succ]
  rw [Nat.mul_add,Nat.add_assoc]
  congr 2
  rw [← Nat.mul_assoc,Nat.mul_comm B]
theorem val_one (B d:Nat):val B [d]=d:=by simp [val]
theorem val_snoc (B:Nat) (xs:List Nat) (d:Nat):val B (xs ++ [d])=val B xs+B ^ xs.length*d:=by rw [val_app,val_one]
theorem val_lt {B:Nat} (_hB:0 < B) {xs:List Nat} (h:Fit B xs):val B xs < B ^ xs.length:=by
 induction xs with
 | nil=>simp [val]
 | cons d ds ih=>
  have h1:d < B:=h d (by simp)
  have h2:=ih (fun x hx=>h x (by simp [hx]))
  simp only [val,List.length_cons,Nat.pow_succ]
  calc d+B*val B ds < B+B*val B ds:=by omega
   _=B*(val B ds+1):=by rw [Nat.mul_add];omega
   _≤B*B ^ ds.length:=Nat.mul_le_mul_left _ h2
   _=B ^ ds.length*B:=Nat.mul_comm _ _
theorem val_take_drop (B:Nat) (xs:List Nat) (k:Nat) (h:k≤xs.length):val B xs=val B (xs.take k)+B ^ k*val B (xs.drop k):=by
 conv=>lhs;rw [← List.take_append_drop k xs,val_app]
 rw [List.length_take,Nat.min_eq_left h]
theorem take_succ_nth (xs:List Nat) (k:Nat) (h:k < xs.length):xs.take (k+1)=xs.take k ++ [nth xs k]:=by
 rw [nth_lt xs k h,List.take_succ_eq_append_getElem h]
theorem val_take_succ (B:Nat) (xs:List Nat) (k:Nat):val B (xs.take (k+1))=val B (xs.take k)+B ^ k*nth xs k:=by
 by_cases h:k < xs.length
 ·rw [take_succ_nth xs k h,val_snoc,List.length_take,Nat.min_eq_left (by omega)]
 ·rw [nth_ge xs k (by omega),List.take_of_length_le (by omega),List.take_of_length_le (by omega)];simp
theorem val_take_ge (B:Nat) (xs:List Nat) (k:Nat) (h:xs.length≤k):val B (xs.take k)=val B xs:=by rw [List.take_of_length_le h]
theorem drop_nth (xs:List Nat) (k:Nat) (h:k < xs.length):xs.drop k=nth xs k :: xs.drop (k+1):=by
 rw [nth_lt xs k h,List.drop_eq_getElem_cons h]
theorem val_drop (B:Nat) (xs:List Nat) (k:Nat) (h:k < xs.length):val B (xs.drop k)=nth xs k+B*val B (xs.drop (k+1)):=by
 rw [drop_nth xs k h];rfl
theorem val_zeros (B:Nat) {xs:List Nat} (h:∀ x∈xs,x=0):val B xs=0:=by
 induction xs with
 | nil=>rfl
 | cons d ds ih=>
  simp only [val]
  rw [h d (by simp),ih (fun x hx=>h x (by simp [hx]))]
  simp
theorem nth_drop (xs:List Nat) (k i:Nat):nth (xs.drop k) i=nth xs (k+i):=by
 unfold nth;simp [List.getD]
theorem nth_take (xs:List Nat) (k i:Nat) (h:i < k):nth (xs.take k) i=nth xs i:=by
 unfold nth;simp [List.getD,List.getElem?_take_of_lt h]
theorem nth_app_right (xs ys:List Nat) (i:Nat) (h:xs.length≤i):nth (xs ++ ys) i=nth ys (i - xs.length):=by
 unfold nth;simp [List.getD,List.getElem?_append_right h]
theorem val_take_zeros (B:Nat) (xs:List Nat) (n:Nat) (hn:n≤xs.length) (h:∀ i,n≤i→i < xs.length→nth xs i=0):val B (xs.take n)=val B xs:=by
 rw [val_take_drop B xs n hn,val_zeros B (xs:=xs.drop n) ?_]
 ·simp
 ·intro x hx
  obtain ⟨i,hi,rfl⟩:=List.getElem_of_mem hx
  rw [List.length_drop] at hi
  rw [← nth_lt _ i (by rw [List.length_drop];exact hi),nth_drop]
  exact h _ (by omega) (by omega)

theorem digsF_more (B:Nat) (hB:2≤B):∀ (f n:Nat),n≤f→digsF B f n=digsF B n n:=by
 intro f
 induction f using Nat.strongRecOn with
 | ind f ih=>
  intro n hn
  cases f with
  | zero=>
       obtain rfl:n=0:=by omega
       rfl
  | succ f=>
   cases n with
   | zero=>simp [digsF]
   | succ n=>
    have hlt:(n+1) / B < n+1:=Nat.div_lt_self (by omega) (by omega)
    simp only [digsF]
    simp only [Nat.succ_ne_zero,if_false]
    congr 1
    rw [ih f (by omega) _ (by omega),ih n (by omega) _ (by omega)]
theorem digs_zero (B:Nat):digs B 0=[]:=by unfold digs;rfl
theorem digs_pos (B:Nat) (hB:2≤B) (n:Nat) (h:n≠0):digs B n=n % B :: digs B (n / B):=by
 unfold digs
 cases n with
 | zero=>omega
 | succ n=>
  have hlt:(n+1) / B < n+1:=Nat.div_lt_self (by omega) (by omega)
  conv=>lhs;rw [digsF]
  rw [if_neg h,digsF_more B hB n _ (by omega)]
theorem val_digs (B:Nat) (hB:2≤B) (n:Nat):val B (digs B n)=n:=by
 induction n using Nat.strongRecOn with
 | ind n ih=>
  by_cases h:n=0
  ·subst h;rw [digs_zero];rfl
  ·rw [digs_pos B hB n h,val,ih _ (Nat.div_lt_self (by omega) (by omega))]
   exact Nat.mod_add_div n B
theorem fit_digs (B:Nat) (hB:2≤B) (n:Nat):Fit B (digs B n):=by
 induction n using Nat.strongRecOn with
 | ind n ih=>
  by_cases h:n=0
  ·subst h;rw [digs_zero];exact Fit.nil _
  ·rw [digs_pos B hB n h]
   intro x hx
   rcases List.mem_cons.1 hx with rfl | hx
   ·exact Nat.mod_lt _ (by omega)
   ·exact ih _ (Nat.div_lt_self (by omega) (by omega)) x hx
theorem digs_canon {B:Nat} (hB:2≤B):∀ {xs:List Nat},Fit B xs→(xs.length=0∨nth xs (xs.length - 1)≠0)→xs=digs B (val B xs):=by
 intro xs
 induction xs with
 | nil=>intro _ _;rw [val,digs_zero]
 | cons d ds ih=>
  intro hf hl
  have hd:d < B:=hf d (by simp)
  have hds:Fit B ds:=fun x hx=>hf x (by simp [hx])
  have hl':ds.length=0∨nth ds (ds.length - 1)≠0:=by
   rcases hl with hl | hl
   ·simp at hl
   ·by_cases h0:ds.length=0
    ·exact .inl h0
    ·refine .inr ?_
     rw [List.length_cons] at hl
     have e:d :: ds=[d] ++ ds:=rfl
     rw [e,nth_app_right _ _ _ (by simp;omega)] at hl
     simpa using hl
  have hne:val B (d :: ds)≠0:=by
   intro h0
   simp only [val] at h0
   have hd0:d=0:=by omega
   have hv0:B*val B ds=0:=by omega
   have hv:val B ds=0:=by
    rcases Nat.mul_eq_zero.1 hv0 with h | h
    ·omega
    ·exact h
   have hds0:=ih hds hl'
   rw [hv,digs_zero] at hds0
   subst hds0
   subst hd0
   rcases hl with hl | hl
   ·simp at hl
   ·simp [nth] at hl
  rw [digs_pos B hB _ hne]
  simp only [val]
  have e1:(d+B*val B ds) % B=d:=by rw [Nat.add_mul_mod_self_left];exact Nat.mod_eq_of_lt hd
  have e2:(d+B*val B ds) / B=val B ds:=by
   rw [Nat.add_mul_div_left _ _ (by omega),Nat.div_eq_of_lt hd];simp
  rw [e1,e2,← ih hds hl']
theorem digs_last (B:Nat) (hB:2≤B) (n:Nat):(digs B n).length=0∨nth (digs B n) ((digs B n).length - 1)≠0:=by
 induction n using Nat.strongRecOn with
 | ind n ih=>
  by_cases h:n=0
  ·subst h;rw [digs_zero];exact .inl rfl
  ·refine .inr ?_
   rw [digs_pos B hB n h]
   have ih':=ih _ (Nat.div_lt_self (show 0 < n by omega) (show 1 < B by omega))
   rw [List.length_cons]
   have e:n % B :: digs B (n / B)=[n % B] ++ digs B (n / B):=rfl
   by_cases h0:(digs B (n / B)).length=0
   ·have h1:digs B (n / B)=[]:=List.eq_nil_of_length_eq_zero h0
    have h2:n / B=0:=by rw [← val_digs B hB (n / B),h1];rfl
    rw [h1]
    have h3:=Nat.mod_add_div n B
    rw [h2] at h3
    simp [nth]
    omega
   ·rw [e,nth_app_right _ _ _ (by simp;omega)]
    rcases ih' with ih' | ih'
    ·omega
    ·simpa using ih'
theorem digs_nil (B:Nat) (hB:2≤B) (n:Nat):(digs B n).length=0↔n=0:=by
 constructor
 ·intro h;rw [← val_digs B hB n,List.eq_nil_of_length_eq_zero h];rfl
 ·intro h;subst h;rw [digs_zero];rfl
theorem digs_len (B:Nat) (hB:2≤B) (n k:Nat):(digs B n).length≤k↔n < B ^ k:=by
 constructor
 ·intro h
  have:=val_lt (show 0 < B by omega) (fit_digs B hB n)
  rw [val_digs B hB] at this
  exact Nat.lt_of_lt_of_le this (Nat.pow_le_pow_right (by omega) h)
 ·intro h
  rcases digs_last B hB n with h0 | h0
  ·omega
  ·by_cases hk:(digs B n).length≤k
   ·exact hk
   ·exfalso
    have hl:(digs B n).length - 1 < (digs B n).length:=by omega
    have h1:=val_take_drop B (digs B n) ((digs B n).length - 1) (by omega)
    rw [val_digs B hB,drop_nth _ _ hl,val] at h1
    have h2:B ^ k≤B ^ ((digs B n).length - 1):=Nat.pow_le_pow_right (by omega) (by omega)
    have h3:B ^ ((digs B n).length - 1)*1≤B ^ ((digs B n).length - 1)*(nth (digs B n) ((digs B n).length - 1)+B*val B (List.drop ((digs B n).length - 1+1) (digs B n))):=Nat.mul_le_mul_left _ (by omega)
    omega
theorem take_digs {B:Nat} (hB:2≤B) {xs:List Nat} (hf:Fit B xs) {n:Nat} (hn:n≤xs.length) (hz:∀ i,n≤i→i < xs.length→nth xs i=0) (hl:n=0∨nth xs (n - 1)≠0):xs.take n=digs B (val B xs):=by
 rw [← val_take_zeros B xs n hn hz]
 refine digs_canon hB (hf.take n) ?_
 rw [List.length_take,Nat.min_eq_left hn]
 rcases hl with hl | hl
 ·exact .inl hl
 ·by_cases h0:n=0
  ·exact .inl h0
  ·exact .inr (by rw [nth_take _ _ _ (by omega)];exact hl)

theorem val_lt_of {B:Nat} (hB:0 < B) {a b:List Nat} (ha:Fit B a) (hl:a.length=b.length) (i:Nat) (hi:i < a.length) (heq:∀ j,i < j→j < a.length→nth a j=nth b j) (hlt:nth a i < nth b i):val B a < val B b:=by
 have h1:=val_take_drop B a (i+1) (by omega)
 have h2:=val_take_drop B b (i+1) (by omega)
 have hd:a.drop (i+1)=b.drop (i+1):=by
  apply List.ext_getElem (by simp;omega)
  intro j h3 h4
  rw [List.length_drop] at h3 h4
  rw [← nth_lt _ _ (by rw [List.length_drop];exact h3),← nth_lt _ _ (by rw [List.length_drop];exact h4),nth_drop,nth_drop]
  exact heq _ (by omega) (by omega)
 rw [val_take_succ] at h1 h2
 rw [hd] at h1
 have h3:val B (a.take i) < B ^ i:=by
  have:=val_lt hB (ha.take i)
  rwa [List.length_take,Nat.min_eq_left (by omega)] at this
 have h4:B ^ i*(nth a i+1)≤B ^ i*nth b i:=Nat.mul_le_mul_left _ hlt
 rw [Nat.mul_add] at h4
 omega
theorem val_eq_of {B:Nat} {a b:List Nat} (hl:a.length=b.length) (heq:∀ j,j < a.length→nth a j=nth b j):val B a=val B b:=by
 congr 1
 apply List.ext_getElem hl
 intro j h1 h2
 rw [← nth_lt a j h1,← nth_lt b j h2]
 exact heq j h1
theorem digs_lt_of_len {B:Nat} (hB:2≤B) {m n:Nat} (h:(digs B m).length < (digs B n).length):m < n:=by
 have h1:m < B ^ (digs B m).length:=(digs_len B hB m _).1 (Nat.le_refl _)
 have h2:¬ n < B ^ (digs B m).length:=fun h2=>by have:=(digs_len B hB n _).2 h2;omega
 omega

def bn (bs:List Bool):List Nat:=bs.map Bool.toNat
def bval (bs:List Bool):Nat:=val 2 (bn bs)
@[irreducible] def bitsOf (n:Nat):List Bool:=(digs 2 n).map (· == 1)
theorem len_bn (bs:List Bool):(bn bs).length=bs.length:=by simp [bn]
theorem fit_bn (bs:List Bool):Fit 2 (bn bs):=by
 intro x hx
 obtain ⟨b,_,rfl⟩:=List.mem_map.1 hx
 cases b <;> decide
theorem nth_bn (bs:List Bool) (i:Nat):nth (bn bs) i=(nthB bs i).toNat:=by
 by_cases h:i < bs.length
 ·rw [nth_lt _ _ (by rw [len_bn];exact h),nthB_lt _ _ h];simp [bn]
 ·rw [nth_ge _ _ (by rw [len_bn];omega),nthB_ge _ _ (by omega)];rfl
theorem bn_inj {a b:List Bool} (h:bn a=bn b):a=b:=by
 have:=congrArg (List.map (· == 1)) h
 have e:∀ b:Bool,(b.toNat == 1)=b:=by decide
 simpa [bn,Function.comp_def,e] using this
theorem bn_bitsOf (n:Nat):bn (bitsOf n)=digs 2 n:=by
 unfold bitsOf bn
 rw [List.map_map]
 conv=>rhs;rw [← List.map_id (digs 2 n)]
 apply List.map_congr_left
 intro x hx
 have:=fit_digs 2 (by omega) n x hx
 match x,this with
 | 0,_=>rfl
 | 1,_=>rfl
theorem bval_bitsOf (n:Nat):bval (bitsOf n)=n:=by unfold bval;rw [bn_bitsOf,val_digs 2 (by omega)]
theorem len_bitsOf (n:Nat):(bitsOf n).length=(digs 2 n).length:=by rw [← bn_bitsOf,len_bn]
theorem bitsOf_of_bn {bs:List Bool} {n:Nat} (h:bn bs=digs 2 n):bs=bitsOf n:=bn_inj (h.trans (bn_bitsOf n).symm)
theorem bn_app (a b:List Bool):bn (a ++ b)=bn a ++ bn b:=by simp [bn]
theorem bn_take (a:List Bool) (n:Nat):bn (a.take n)=(bn a).take n:=by simp [bn,List.map_take]
theorem bn_drop (a:List Bool) (n:Nat):bn (a.drop n)=(bn a).drop n:=by simp [bn,List.map_drop]
theorem bval_lt (bs:List Bool):bval bs < 2 ^ bs.length:=by have:=val_lt (by omega) (fit_bn bs);rwa [len_bn] at this

def W32:Nat:=4294967296
theorem W32_ge:2≤W32:=by decide
abbrev limbs (n:Nat):List Nat:=digs W32 n
abbrev nv (xs:List Nat):Nat:=val W32 xs
theorem nv_limbs (n:Nat):nv (limbs n)=n:=val_digs W32 W32_ge n
def RdL (w:World) (v:Value) (xs:List Nat):Prop:=RdI .u32 w v xs∧Fit W32 xs
def OwnL (e:TypeId) (B:Nat) (w:World) (v:Value) (xs:List Nat):Prop:=OwnI .u32 e B w v xs∧Fit W32 xs
theorem OwnL.rd {e:TypeId} {B:Nat} {w:World} {v:Value} {xs:List Nat} (h:OwnL e B w v xs):RdL w v xs:=⟨h.1.rd,h.2⟩
theorem RdL.ext {w w':World} {v:Value} {xs:List Nat} (h:RdL w v xs) (e:Ext w w'):RdL w' v xs:=⟨h.1.ext e,h.2⟩
theorem OwnL.ext {e:TypeId} {B:Nat} {w w':World} {v:Value} {xs:List Nat} (h:OwnL e B w v xs) (x:Ext w w'):OwnL e B w' v xs:=⟨h.1.ext x,h.2⟩
theorem OwnL.mono {e:TypeId} {B B':Nat} {w:World} {v:Value} {xs:List Nat} (h:OwnL e B w v xs) (hB:B'≤B):OwnL e B' w v xs:=⟨h.1.mono hB,h.2⟩
theorem Fit.nth32 {xs:List Nat} (h:Fit W32 xs) (i:Nat):Att.nth xs i≤4294967295:=by
 have:=h.nth (by decide) i
 unfold W32 at this
 omega


@[irreducible] def blen (n:Nat):Nat:=(digs 2 n).length
theorem blen_le (n k:Nat):blen n≤k↔n < 2 ^ k:=by unfold blen;exact digs_len 2 (by omega) n k
theorem eq_of_le {a b:Nat} (h:∀ k,a≤k↔b≤k):a=b:=by
 have h1:=(h b).2 (Nat.le_refl _)
 have h2:=(h a).1 (Nat.le_refl _)
 omega
theorem blen_zero:blen 0=0:=by unfold blen;rw [digs_zero];rfl
theorem blen_pos {n:Nat} (h:n≠0):0 < blen n:=by
 have:=(blen_le n 0)
 omega
theorem blen_high (lo hi m:Nat) (hlo:lo < 2 ^ m) (hhi:hi≠0):blen (lo+2 ^ m*hi)=m+blen hi:=by
 apply eq_of_le
 intro k
 rw [blen_le]
 by_cases hk:k < m
 ·have h1:2 ^ k≤2 ^ m:=Nat.pow_le_pow_right (by omega) (by omega)
  have h2:2 ^ m*1≤2 ^ m*hi:=Nat.mul_le_mul_left _ (by omega)
  constructor
  ·intro h;omega
  ·intro h;omega
 ·obtain ⟨j,rfl⟩:∃ j,k=m+j:=⟨k - m,by omega⟩
  have e:m+blen hi≤m+j↔blen hi≤j:=by omega
  rw [e,blen_le,Nat.pow_add]
  constructor
  ·intro h
   by_cases hh:hi < 2 ^ j
   ·exact hh
   ·have h2:2 ^ m*2 ^ j≤2 ^ m*hi:=Nat.mul_le_mul_left _ (by omega)
    omega
  ·intro h
   have h2:2 ^ m*(hi+1)≤2 ^ m*2 ^ j:=Nat.mul_le_mul_left _ h
   rw [Nat.mul_add] at h2
   omega
theorem blen_bitLen (n:Nat) (h:n < 2 ^ 64):Lib.bitLen n=blen n:=by
 have key:∀ f n,n < 2 ^ f→Lib.bitLenAux f n=blen n:=by
  intro f
  induction f with
  | zero=>
       intro n h;obtain rfl:n=0:=by omega
       rw [blen_zero];rfl
  | succ f ih=>
   intro n h
   by_cases h0:n=0
   ·subst h0;rw [blen_zero];simp [Lib.bitLenAux]
   ·simp only [Lib.bitLenAux,if_neg h0]
    rw [ih _ (by omega)]
    unfold blen
    rw [digs_pos 2 (by omega) n h0,List.length_cons]
    omega
 exact key 64 n h
theorem pow32 (k:Nat):W32 ^ k=2 ^ (32*k):=by rw [Nat.pow_mul];rfl
theorem blen_limbs (n:Nat) (h:n≠0):blen n=32*((limbs n).length - 1)+blen (nth (limbs n) ((limbs n).length - 1))∧nth (limbs n) ((limbs n).length - 1)≠0∧0 < (limbs n).length:=by
 have h0:(limbs n).length≠0:=fun h1=>h ((digs_nil W32 W32_ge n).1 h1)
 have hl:=digs_last W32 W32_ge n
 have hne:nth (limbs n) ((limbs n).length - 1)≠0:=by
  rcases hl with hl | hl
  ·exact absurd hl h0
  ·exact hl
 refine ⟨?_,hne,by omega⟩
 have h1:=val_take_drop W32 (limbs n) ((limbs n).length - 1) (by omega)
 rw [show val W32 (limbs n)=n from nv_limbs n,val_drop _ _ _ (by omega),List.drop_of_length_le (by omega)] at h1
 simp only [val,Nat.mul_zero,Nat.add_zero] at h1
 have h2:=val_lt (show 0 < W32 by decide) ((fit_digs W32 W32_ge n).take ((digs W32 n).length - 1))
 rw [List.length_take,Nat.min_eq_left (by omega)] at h2
 rw [pow32] at h1 h2
 have h3:=blen_high _ _ _ h2 hne
 rw [← h3,← h1]

@[irreducible] def cmpN (x y:Nat):Int:=if x < y then -1 else if x=y then 0 else 1
theorem cmpN_lt {x y:Nat} (h:x < y):cmpN x y = -1:=by unfold cmpN;rw [if_pos h]
theorem cmpN_gt {x y:Nat} (h:y < x):cmpN x y=1:=by unfold cmpN;rw [if_neg (by omega),if_neg (by omega)]
theorem cmpN_eq (x:Nat):cmpN x x=0:=by unfold cmpN;rw [if_neg (by omega),if_pos rfl]
theorem cmpN_cases (x y:Nat):(x < y∧cmpN x y = -1)∨(x=y∧cmpN x y=0)∨(y < x∧cmpN x y=1):=by
 rcases Nat.lt_trichotomy x y with h | h | h
 ·exact .inl ⟨h,cmpN_lt h⟩
 ·subst h;exact .inr (.inl ⟨rfl,cmpN_eq x⟩)
 ·exact .inr (.inr ⟨h,cmpN_gt h⟩)
def SameFrom (a b:List Nat) (k:Nat):Prop:=∀ j,k≤j→j < a.length→nth a j=nth b j
theorem cmp_stop_lt {B:Nat} (hB:2≤B) {x y k:Nat} (hl:(digs B x).length=(digs B y).length) (hk:k < (digs B x).length) (hs:SameFrom (digs B x) (digs B y) (k+1)) (h:nth (digs B x) k < nth (digs B y) k):cmpN x y = -1:=by
 apply cmpN_lt
 have:=val_lt_of (by omega) (fit_digs B hB x) hl k hk (fun j h1 h2=>hs j (by omega) h2) h
 rwa [val_digs B hB,val_digs B hB] at this
theorem cmp_stop_gt {B:Nat} (hB:2≤B) {x y k:Nat} (hl:(digs B x).length=(digs B y).length) (hk:k < (digs B x).length) (hs:SameFrom (digs B x) (digs B y) (k+1)) (h:nth (digs B y) k < nth (digs B x) k):cmpN x y=1:=by
 apply cmpN_gt
 have:=val_lt_of (by omega) (fit_digs B hB y) hl.symm k (by omega) (fun j h1 h2=>(hs j (by omega) (by omega)).symm) h
 rwa [val_digs B hB,val_digs B hB] at this
theorem cmp_end {B:Nat} (hB:2≤B) {x y:Nat} (hl:(digs B x).length=(digs B y).length) (hs:SameFrom (digs B x) (digs B y) 0):cmpN x y=0:=by
 have:x=y:=by
  have:=val_eq_of (B:=B) hl (fun j h=>hs j (by omega) h)
  rwa [val_digs B hB,val_digs B hB] at this
 rw [this,cmpN_eq]
theorem fit_limbs (n:Nat):Fit W32 (limbs n):=fit_digs W32 W32_ge n
theorem blen_32 {n:Nat} (h:n≤4294967295):blen n≤32:=(blen_le n 32).2 (by omega)
theorem bitLen_32 {n:Nat} (h:n≤4294967295):Lib.bitLen n=blen n:=blen_bitLen n (by omega)
theorem nv_lt {xs:List Nat} (h:Fit W32 xs):nv xs < W32 ^ xs.length:=val_lt (by decide) h
theorem limbs_len_le {xs:List Nat} (h:Fit W32 xs):(limbs (nv xs)).length≤xs.length:=(digs_len W32 W32_ge _ _).2 (nv_lt h)

theorem OwnI.snoc {k:IntKind} {e:TypeId} {B:Nat} {w:World} {v:Value} {o:List Nat} {n:Nat} {z:Int} {d:Nat} (h:w.ownsRow B e 1 v n (ints k o ++ [.int k z])) (hn:n=o.length+1) (hz:z=(d:Int)):OwnI k e B w v (o ++ [d]):=by
 subst hz hn
 unfold OwnI
 rw [ints_app,List.length_append]
 exact h
theorem OwnL.snoc {e:TypeId} {B:Nat} {w:World} {v:Value} {o:List Nat} {n:Nat} {z:Int} {d:Nat} (h:w.ownsRow B e 1 v n (ints .u32 o ++ [.int .u32 z])) (hn:n=o.length+1) (hz:z=(d:Int)) (ho:Fit W32 o) (hd:d < W32):OwnL e B w v (o ++ [d]):=
 ⟨OwnI.snoc h hn hz,ho.app (Fit.one hd)⟩
theorem carry_step (W Q t:Nat):Q*(t % W)+Q*W*(t / W)=Q*t:=by rw [Nat.mul_assoc,← Nat.mul_add,Nat.mod_add_div]
theorem add_step {o ya yb:List Nat} {k cc t:Nat} (hol:o.length=k) (hinv:nv o+W32 ^ k*cc=nv (ya.take k)+nv (yb.take k)) (ht:t=cc+nth ya k+nth yb k):nv (o ++ [t % W32])+W32 ^ (k+1)*(t / W32)=nv (ya.take (k+1))+nv (yb.take (k+1)):=by
 unfold nv at*
 rw [val_snoc,hol,val_take_succ,val_take_succ,Nat.pow_succ,Nat.add_assoc,carry_step,ht,Nat.mul_add,Nat.mul_add]
 omega

theorem len_set (o:List Nat) (k d:Nat):(o.set k d).length=o.length:=by simp
theorem take_set_succ (o:List Nat) (k d:Nat) (h:k < o.length):(o.set k d).take (k+1)=o.take k ++ [d]:=by
 rw [List.take_succ_eq_append_getElem (by simpa using h),List.getElem_set_self,List.take_set,List.set_eq_of_length_le (by simp;omega)]
theorem val_take_set (B:Nat) (o:List Nat) (k d:Nat) (h:k < o.length):val B ((o.set k d).take (k+1))=val B (o.take k)+B ^ k*d:=by
 rw [take_set_succ o k d h,val_snoc,List.length_take,Nat.min_eq_left (by omega)]
theorem val_take_of_lt {B:Nat} (_hB:0 < B) (xs:List Nat) (n:Nat) (h:val B xs < B ^ n):val B (xs.take n)=val B xs:=by
 by_cases hn:n≤xs.length
 ·have h1:=val_take_drop B xs n hn
  have h2:val B (xs.drop n)=0:=by
   by_cases h0:val B (xs.drop n)=0
   ·exact h0
   ·exfalso
    have:B ^ n*1≤B ^ n*val B (xs.drop n):=Nat.mul_le_mul_left _ (by omega)
    omega
  rw [h2] at h1
  omega
 ·rw [List.take_of_length_le (by omega)]
theorem sub_step {o ya yb:List Nat} {k c c' d:Nat} (hk:k < o.length) (hinv:nv (ya.take k)+W32 ^ k*c=nv (o.take k)+nv (yb.take k)) (hd:nth ya k+W32*c'=d+c+nth yb k):
  nv (ya.take (k+1))+W32 ^ (k+1)*c'=nv ((o.set k d).take (k+1))+nv (yb.take (k+1)):=by
 unfold nv at*
 rw [val_take_set _ _ _ _ hk,val_take_succ,val_take_succ,Nat.pow_succ,Nat.mul_assoc]
 have h:=congrArg (fun t=>W32 ^ k*t) hd
 simp only [Nat.mul_add] at h
 omega
theorem sub_end {o ya yb:List Nat} {c:Nat} (ho:Fit W32 o) (hy:Fit W32 ya) (hl:o.length=ya.length) (hle:nv yb≤nv ya) (hinv:nv (ya.take ya.length)+W32 ^ ya.length*c=nv (o.take ya.length)+nv (yb.take ya.length)):nv o=nv ya - nv yb:=by
 have h1:=nv_lt hy
 have h2:=nv_lt ho
 unfold nv at*
 rw [val_take_of_lt (by decide) yb _ (by omega),val_take_ge _ _ _ (by omega),val_take_ge _ _ _ (by omega)] at hinv
 rw [hl] at h2
 have hc:c=0:=by
  by_cases h0:c=0
  ·exact h0
  ·exfalso
   have:W32 ^ ya.length*1≤W32 ^ ya.length*c:=Nat.mul_le_mul_left _ (by omega)
   omega
 subst hc
 omega
theorem OwnI.cellAt {k:IntKind} {e:TypeId} {B g n cap:Nat} {w:World} {o:List Nat} (h:OwnI k e B w (.slice (some ⟨g,0,none⟩) n cap) o) (i:Nat) (hi:i < o.length):w.cell? ⟨g,i,none⟩=some (.int k (nth o i)):=by
 have:=h.rd.cell i hi
 rwa [Nat.zero_add] at this
theorem OwnI.len {k:IntKind} {e:TypeId} {B n cap:Nat} {a:Option Addr} {w:World} {o:List Nat} (h:OwnI k e B w (.slice a n cap) o):n=o.length:=by
 obtain ⟨_,_,h1,_⟩:=h.rd.shape
 simp only [Value.slice.injEq] at h1
 exact h1.2.1
theorem OwnI.lt {k:IntKind} {e:TypeId} {B g n cap:Nat} {w:World} {o:List Nat} (h:OwnI k e B w (.slice (some ⟨g,0,none⟩) n cap) o):B≤g∧g < w.heap.size:=World.ownsRow.lt h g rfl
theorem OwnI.free {k:IntKind} {e:TypeId} {B g n cap:Nat} {w:World} {o:List Nat} (h:OwnI k e B w (.slice (some ⟨g,0,none⟩) n cap) o) (i:Nat):w.frozen? ⟨g,i,none⟩=false:=by
 obtain rfl:=h.len
 exact World.ownsRow.frozenAt h i
theorem OwnI.set {k:IntKind} {e:TypeId} {B g n cap:Nat} {w:World} {o:List Nat} (h:OwnI k e B w (.slice (some ⟨g,0,none⟩) n cap) o) (i:Nat) {z:Int} {d:Nat} (hz:z=(d:Int)):OwnI k e B (w.setCell ⟨g,i,none⟩ (.int k z)) (.slice (some ⟨g,0,none⟩) n cap) (o.set i d):=by
 subst hz
 obtain rfl:=h.len
 have:=(World.ownsRow.stored h i (.int k d)).1
 unfold OwnI
 rw [List.length_set]
 have e:ints k (o.set i d)=(ints k o).set i (.int k d):=by simp [ints,List.map_set]
 rw [e]
 exact this
theorem OwnL.set {e:TypeId} {B g n cap:Nat} {w:World} {o:List Nat} (h:OwnL e B w (.slice (some ⟨g,0,none⟩) n cap) o) (i:Nat) {z:Int} {d:Nat} (hz:z=(d:Int)) (hd:d < W32):OwnL e B (w.setCell ⟨g,i,none⟩ (.int .u32 z)) (.slice (some ⟨g,0,none⟩) n cap) (o.set i d):=
 ⟨h.1.set i hz,h.2.set i d hd⟩

theorem shl_step {o xs:List Nat} {q k s c t:Nat} (hol:o.length=q+k) (hinv:nv o+W32 ^ (q+k)*c=W32 ^ q*2 ^ s*nv (xs.take k)) (ht:t=c+nth xs k*2 ^ s):
  nv (o ++ [t % W32])+W32 ^ (q+(k+1))*(t / W32)=W32 ^ q*2 ^ s*nv (xs.take (k+1)):=by
 unfold nv at*
 rw [val_snoc,hol,val_take_succ,← Nat.add_assoc q k 1,Nat.pow_succ,Nat.add_assoc,carry_step,ht,Nat.mul_add,Nat.mul_add,← Nat.add_assoc,hinv,Nat.pow_add]
 congr 1
 simp only [Nat.mul_assoc,Nat.mul_comm,Nat.mul_left_comm]
theorem shl_carry {c x s t:Nat} (hc:c < 2 ^ s) (hx:x≤4294967295) (ht:t=c+x*2 ^ s):t / W32 < 2 ^ s:=by
 rw [Nat.div_lt_iff_lt_mul (by decide)]
 have h1:x*2 ^ s≤4294967295*2 ^ s:=Nat.mul_le_mul_right _ hx
 unfold W32
 omega
theorem shl_end {o xs:List Nat} {n c:Nat} (hol:o.length=n / 32+xs.length) (hinv:nv o+W32 ^ (n / 32+xs.length)*c=W32 ^ (n / 32)*2 ^ (n % 32)*nv (xs.take xs.length)):nv (o ++ [c])=nv xs*2 ^ n:=by
 unfold nv at*
 rw [val_snoc,hol,hinv,val_take_ge _ _ _ (Nat.le_refl _),pow32,← Nat.pow_add,Nat.div_add_mod,Nat.mul_comm]
theorem pow_lt_32 {s:Nat} (h:s < 32):2 ^ s≤2147483648:=by
 have:2 ^ s≤2 ^ 31:=Nat.pow_le_pow_right (by omega) (by omega)
 omega

theorem val_div {B:Nat} (hB:0 < B) {xs:List Nat} (h:Fit B xs) (k:Nat):val B xs / B ^ k=val B (xs.drop k):=by
 by_cases hk:k≤xs.length
 ·rw [val_take_drop B xs k hk]
  have h1:=val_lt hB (h.take k)
  rw [List.length_take,Nat.min_eq_left hk] at h1
  rw [Nat.add_mul_div_left _ _ (Nat.pow_pos hB),Nat.div_eq_of_lt h1,Nat.zero_add]
 ·rw [List.drop_of_length_le (by omega),val]
  apply Nat.div_eq_of_lt
  exact Nat.lt_of_lt_of_le (val_lt hB h) (Nat.pow_le_pow_right hB (by omega))
theorem two_limbs (x y r s:Nat) (hs:s < 32):(x+W32*(y+W32*r)) / 2 ^ s % W32=(x+y*4294967296) / 2 ^ s % W32:=by
 have e:x+W32*(y+W32*r)=(x+y*4294967296)+2 ^ s*(2 ^ (32 - s)*W32*r):=by
  rw [← Nat.mul_assoc,← Nat.mul_assoc,← Nat.pow_add,show s+(32 - s)=32 by omega]
  unfold W32
  omega
 rw [e,Nat.add_mul_div_left _ _ (Nat.two_pow_pos s),show 2 ^ (32 - s)*W32*r=W32*(2 ^ (32 - s)*r) by simp only [Nat.mul_comm,Nat.mul_left_comm],Nat.add_mul_mod_self_left]
theorem shr_step {o ys:List Nat} {k s d:Nat} (hs:s < 32) (hf:Fit W32 ys) (hk:k < ys.length) (hol:o.length=ys.length) (hinv:nv (o.take k)=nv ys / 2 ^ s % W32 ^ k) (hd:d=(nth ys k+nth ys (k+1)*4294967296) / 2 ^ s % W32):
  nv ((o.set k d).take (k+1))=nv ys / 2 ^ s % W32 ^ (k+1):=by
 unfold nv at*
 rw [val_take_set _ _ _ _ (by omega),hinv,Nat.pow_succ,Nat.mod_mul]
 congr 2
 rw [Nat.div_div_eq_div_mul,Nat.mul_comm,← Nat.div_div_eq_div_mul,val_div (by decide) hf,val_drop _ _ _ hk,hd]
 by_cases h2:k+1 < ys.length
 ·rw [val_drop _ _ _ h2,two_limbs _ _ _ _ hs]
 ·rw [List.drop_of_length_le (by omega),nth_ge ys (k+1) (by omega)]
  simp [val]
theorem shr_end {o xs:List Nat} {n:Nat} (hf:Fit W32 xs) (hol:o.length=xs.length - n / 32) (hinv:nv (o.take (xs.length - n / 32))=nv (xs.drop (n / 32)) / 2 ^ (n % 32) % W32 ^ (xs.length - n / 32)):nv o=nv xs / 2 ^ n:=by
 unfold nv at*
 have h1:=val_lt (show 0 < W32 by decide) (hf.drop (n / 32))
 rw [List.length_drop] at h1
 rw [val_take_ge _ _ _ (by omega),Nat.mod_eq_of_lt (Nat.lt_of_le_of_lt (Nat.div_le_self _ _) h1),← val_div (by decide) hf,pow32,Nat.div_div_eq_div_mul,← Nat.pow_add,Nat.div_add_mod] at hinv
 exact hinv
theorem shr_zero {xs:List Nat} {n:Nat} (hf:Fit W32 xs) (h:xs.length≤n / 32):nv xs / 2 ^ n=0:=by
 apply Nat.div_eq_of_lt
 have h1:=nv_lt hf
 rw [pow32] at h1
 exact Nat.lt_of_lt_of_le h1 (Nat.pow_le_pow_right (by omega) (by omega))

theorem limbs_len (n k:Nat):(limbs n).length≤k↔n < W32 ^ k:=digs_len W32 W32_ge n k
theorem W256:W32=256 ^ 4:=by decide
def bytes4 (x:Nat):List Nat:=[x % 256,x / 256 % 256,x / 65536 % 256,x / 16777216 % 256]
theorem val_bytes4 {x:Nat} (h:x≤4294967295):val 256 (bytes4 x)=x:=by
 show x % 256+256*(x / 256 % 256+256*(x / 65536 % 256+256*(x / 16777216 % 256+256*0)))=x
 omega
theorem fit_bytes4 (x:Nat):Fit 256 (bytes4 x):=by
 intro y hy
 simp [bytes4] at hy
 omega
theorem pack_step {o xs:List Nat} {k:Nat} (hf:Fit W32 xs) (hol:o.length=4*k) (hinv:val 256 o=nv (xs.take k)):val 256 (o ++ bytes4 (nth xs k))=nv (xs.take (k+1)):=by
 unfold nv at*
 rw [val_app,hol,hinv,val_take_succ,val_bytes4 (hf.nth32 k),W256,← Nat.pow_mul]
theorem OwnI.app {k:IntKind} {e:TypeId} {B:Nat} {w:World} {v:Value} {o ds:List Nat} {n:Nat} {ys:List Value} (h:w.ownsRow B e 1 v n (ints k o ++ ys)) (hn:n=o.length+ds.length) (hy:ys=ints k ds):OwnI k e B w v (o ++ ds):=by
 subst hn hy
 unfold OwnI
 rw [ints_app,List.length_append]
 exact h
theorem val_set (B:Nat) (o:List Nat) (k d:Nat) (h:k < o.length):val B (o.set k d)+B ^ k*nth o k=val B o+B ^ k*d:=by
 have h1:=val_take_drop B (o.set k d) (k+1) (by simp;omega)
 have h2:=val_take_drop B o (k+1) (by omega)
 rw [val_take_set B o k d h] at h1
 rw [val_take_succ] at h2
 have h3:(o.set k d).drop (k+1)=o.drop (k+1):=by rw [List.drop_set];simp
 rw [h3] at h1
 omega
theorem nth_set_ne (o:List Nat) (k j d:Nat) (h:k≠j):nth (o.set k d) j=nth o j:=by
 unfold nth;simp [List.getD,List.getElem?_set_ne h]
theorem nth_le_val {B:Nat} (xs:List Nat) (k:Nat):B ^ k*nth xs k≤val B xs:=by
 by_cases h:k < xs.length
 ·have h2:=val_take_drop B xs (k+1) (by omega)
  rw [val_take_succ] at h2
  omega
 ·rw [nth_ge xs k (by omega)];simp
open Go.RowKit

theorem bits_or {k:IntKind} (hk:k.signed=false) {X Y V:Nat} (hx:X < 2 ^ k.bits) (hy:Y < 2 ^ k.bits) (hV:X ||| Y=V):Go.bits .or k X Y=V:=by
 have hv:V < 2 ^ k.bits:=by rw [← hV];exact Nat.or_lt_two_pow hx hy
 unfold Go.bits
 simp only [BitVec.ofInt_natCast,BitVec.toNat_or,BitVec.toNat_ofNat,Nat.mod_eq_of_lt hx,Nat.mod_eq_of_lt hy,hV,wrap_id hk hv]

open Go.RowKit

theorem OwnB.snoc {e:TypeId} {B:Nat} {w:World} {v:Value} {o:List Bool} {n:Nat} {z d:Bool} (h:w.ownsRow B e 1 v n (bools o ++ [.bool z])) (hn:n=o.length+1) (hz:z=d):OwnB e B w v (o ++ [d]):=by
 subst hz hn
 unfold OwnB
 rw [bools_app,List.length_append]
 exact h
theorem bval_snoc (o:List Bool) (d:Bool):bval (o ++ [d])=bval o+2 ^ o.length*d.toNat:=by
 unfold bval
 rw [bn_app]
 show val 2 (bn o ++ [d.toNat])=_
 rw [val_snoc,len_bn]
theorem bval_take_succ (xs:List Bool) (k:Nat):bval (xs.take (k+1))=bval (xs.take k)+2 ^ k*(nthB xs k).toNat:=by
 unfold bval
 rw [bn_take,bn_take,val_take_succ,nth_bn]
theorem bval_take_ge (xs:List Bool) (k:Nat) (h:xs.length≤k):bval (xs.take k)=bval xs:=by rw [List.take_of_length_le h]
theorem bval_nil:bval []=0:=rfl
theorem take_bits {bs:List Bool} {n:Nat} (hn:n≤bs.length) (hz:∀ i,n≤i→i < bs.length→nthB bs i=false) (hl:n=0∨nthB bs (n - 1)=true):bs.take n=bitsOf (bval bs):=by
 apply bitsOf_of_bn
 rw [bn_take]
 unfold bval
 refine take_digs (by decide) (fit_bn bs) (by rw [len_bn];exact hn) (fun i h1 h2=>?_) ?_
 ·rw [nth_bn,hz i h1 (by rwa [len_bn] at h2)];rfl
 ·rcases hl with hl | hl
  ·exact .inl hl
  ·exact .inr (by rw [nth_bn,hl];decide)
theorem bit_dec (n:Nat):((((n:Int) % 2) == 1):Bool)=(n % 2 == 1):=by
 rw [Bool.eq_iff_iff];simp;omega
theorem bit_toNat (n:Nat):(n % 2 == 1).toNat=n % 2:=by
 rcases Nat.mod_two_eq_zero_or_one n with h | h <;> simp [h]


theorem of_inner {o:List Bool} {xs:List Nat} {k x i ww:Nat} (hol:o.length=32*k+i) (hinv:bval o=nv (xs.take k)+2 ^ (32*k)*(x % 2 ^ i)) (hw:ww=x / 2 ^ i):
  bval (o ++ [ww % 2 == 1])=nv (xs.take k)+2 ^ (32*k)*(x % 2 ^ (i+1)):=by
 rw [bval_snoc,hinv,bit_toNat,hol,hw,Nat.pow_succ,Nat.mod_mul,Nat.mul_add,Nat.pow_add]
 simp only [Nat.mul_assoc,Nat.add_assoc]
theorem of_outer {xs:List Nat} {k:Nat} (h:nth xs k≤4294967295):nv (xs.take k)+2 ^ (32*k)*(nth xs k % 2 ^ 32)=nv (xs.take (k+1)):=by
 unfold nv
 rw [val_take_succ,pow32,Nat.mod_eq_of_lt (by omega)]

theorem addB_step {B:Nat} {o a b:List Nat} {k cc t:Nat} (hol:o.length=k) (hinv:val B o+B ^ k*cc=val B (a.take k)+val B (b.take k)) (ht:t=cc+nth a k+nth b k):val B (o ++ [t % B])+B ^ (k+1)*(t / B)=val B (a.take (k+1))+val B (b.take (k+1)):=by
 rw [val_snoc,hol,val_take_succ,val_take_succ,Nat.pow_succ,Nat.add_assoc,carry_step,ht,Nat.mul_add,Nat.mul_add]
 omega
theorem badd_step {o a b:List Bool} {k cc t:Nat} (hol:o.length=k) (hinv:bval o+2 ^ k*cc=bval (a.take k)+bval (b.take k)) (ht:t=cc+(nthB a k).toNat+(nthB b k).toNat):
  bval (o ++ [t % 2 == 1])+2 ^ (k+1)*(t / 2)=bval (a.take (k+1))+bval (b.take (k+1)):=by
 unfold bval at*
 rw [bn_take,bn_take] at*
 rw [bn_app]
 show val 2 (bn o ++ [(t % 2 == 1).toNat])+_=_
 rw [bit_toNat]
 exact addB_step (by rw [len_bn];exact hol) hinv (by rw [nth_bn,nth_bn];exact ht)
theorem bsub_step {o a b:List Bool} {k c c':Nat} {d:Bool} (hol:o.length=k) (hinv:bval (a.take k)+2 ^ k*c=bval o+bval (b.take k)) (hd:(nthB a k).toNat+2*c'=d.toNat+c+(nthB b k).toNat):
  bval (a.take (k+1))+2 ^ (k+1)*c'=bval (o ++ [d])+bval (b.take (k+1)):=by
 rw [bval_take_succ,bval_take_succ,bval_snoc,hol,Nat.pow_succ,Nat.mul_assoc]
 have h:=congrArg (fun t=>2 ^ k*t) hd
 simp only [Nat.mul_add] at h
 omega
theorem bsub_end {o a b:List Bool} {c:Nat} (hol:o.length=a.length) (hle:bval b≤bval a) (hinv:bval (a.take a.length)+2 ^ a.length*c=bval o+bval (b.take a.length)):bval o=bval a - bval b:=by
 have h1:=bval_lt a
 have h2:=bval_lt o
 rw [hol] at h2
 have h3:bval (b.take a.length)=bval b:=by
  unfold bval
  rw [bn_take]
  exact val_take_of_lt (by decide) _ _ (by show bval b < _;omega)
 rw [h3,bval_take_ge _ _ (Nat.le_refl _)] at hinv
 have hc:c=0:=by
  by_cases h0:c=0
  ·exact h0
  ·exfalso
   have:2 ^ a.length*1≤2 ^ a.length*c:=Nat.mul_le_mul_left _ (by omega)
   omega
 subst hc
 omega
theorem bval_drop (xs:List Bool) (k:Nat) (h:k < xs.length):bval (xs.drop k)=(nthB xs k).toNat+2*bval (xs.drop (k+1)):=by
 unfold bval
 rw [bn_drop,val_drop _ _ _ (by rw [len_bn];exact h),nth_bn,bn_drop]
theorem nthB_take (xs:List Bool) (k i:Nat) (h:i < k):nthB (xs.take k) i=nthB xs i:=by
 unfold nthB;simp [List.getD,List.getElem?_take_of_lt h]
theorem bitsOf_zero:bitsOf 0=[]:=by unfold bitsOf;rw [digs_zero];rfl
theorem bitsOf_len (n k:Nat):(bitsOf n).length≤k↔n < 2 ^ k:=by rw [len_bitsOf];exact digs_len 2 (by decide) n k
theorem bitsOf_blen (n:Nat):(bitsOf n).length=blen n:=by rw [len_bitsOf];unfold blen;rfl
theorem word_step (u:Nat) (o:List Bool) (x:Nat) (hinv:o ++ bitsOf u=bitsOf x) (h:u≠0):(o ++ [u % 2 == 1]) ++ bitsOf (u / 2)=bitsOf x:=by
 rw [← hinv,List.append_assoc]
 congr 1
 unfold bitsOf
 rw [digs_pos 2 (by decide) u h]
 rfl
def SameFromB (a b:List Bool) (k:Nat):Prop:=∀ j,k≤j→j < a.length→nthB a j=nthB b j
theorem sameB {x y k:Nat} (h:SameFromB (bitsOf x) (bitsOf y) k):SameFrom (digs 2 x) (digs 2 y) k:=by
 intro j h1 h2
 have:=h j h1 (by rwa [len_bitsOf])
 rw [← bn_bitsOf,← bn_bitsOf,nth_bn,nth_bn,this]
theorem bcmp_len {x y:Nat} (h:(bitsOf x).length < (bitsOf y).length):x < y:=by
 rw [len_bitsOf,len_bitsOf] at h
 exact digs_lt_of_len (by decide) h
theorem bcmp_end {x y:Nat} (hl:(bitsOf x).length=(bitsOf y).length) (hs:SameFromB (bitsOf x) (bitsOf y) 0):cmpN x y=0:=by
 rw [len_bitsOf,len_bitsOf] at hl
 exact cmp_end (by decide) hl (sameB hs)
theorem bcmp_lt {x y k:Nat} (hl:(bitsOf x).length=(bitsOf y).length) (hk:k < (bitsOf x).length) (hs:SameFromB (bitsOf x) (bitsOf y) (k+1)) (h1:nthB (bitsOf x) k=false) (h2:nthB (bitsOf y) k=true):cmpN x y = -1:=by
 rw [len_bitsOf,len_bitsOf] at hl
 rw [len_bitsOf] at hk
 exact cmp_stop_lt (by decide) hl hk (sameB hs) (by rw [← bn_bitsOf,← bn_bitsOf,nth_bn,nth_bn,h1,h2];decide)
theorem bcmp_gt {x y k:Nat} (hl:(bitsOf x).length=(bitsOf y).length) (hk:k < (bitsOf x).length) (hs:SameFromB (bitsOf x) (bitsOf y) (k+1)) (h1:nthB (bitsOf x) k=true) (h2:nthB (bitsOf y) k=false):cmpN x y=1:=by
 rw [len_bitsOf,len_bitsOf] at hl
 rw [len_bitsOf] at hk
 exact cmp_stop_gt (by decide) hl hk (sameB hs) (by rw [← bn_bitsOf,← bn_bitsOf,nth_bn,nth_bn,h1,h2];decide)
theorem bval_app (a b:List Bool):bval (a ++ b)=bval a+2 ^ a.length*bval b:=by
 unfold bval
 rw [bn_app,val_app,len_bn]
theorem bval_nays (n:Nat):bval (nays n)=0:=by
 unfold bval
 apply val_zeros
 intro x hx
 simp [bn,nays] at hx
 exact hx.2
theorem bval_shl (n:Nat) (bs:List Bool):bval (nays n ++ bs)=bval bs*2 ^ n:=by
 rw [bval_app,bval_nays,len_nays,Nat.zero_add,Nat.mul_comm]
theorem RdB.drop {w:World} {b off n cap m k:Nat} {xs:List Bool} (h:RdB w (.slice (some ⟨b,off,none⟩) n cap) xs) (hn:n=xs.length) (hm:m < xs.length) (hk:k=n - m):RdB w (.slice (some ⟨b,off+m,none⟩) k (cap - m)) (xs.drop m):=by
 subst hn hk
 obtain ⟨a,c,hv,h1,h2,_,h5⟩:=h.shape
 simp only [Value.slice.injEq] at hv
 obtain ⟨rfl,_,rfl⟩:=hv
 have hl:(xs.drop m).length=xs.length - m:=List.length_drop
 unfold RdB RdV
 rw [len_bools,hl,Nat.mul_one]
 refine ⟨rfl,_,_,rfl,by omega,by omega,(fun h=>by cases h),fun i hi=>⟨b,off+m,rfl,?_⟩⟩
 have hc:=h.cell (m+i) (by omega)
 rw [at_bools _ _ (by rw [hl];exact hi),Nat.add_assoc,hc]
 congr 2
 unfold nthB
 simp [List.getD]
theorem blen_add {a b L:Nat} (ha:(bitsOf a).length≤L) (hb:(bitsOf b).length≤L):(bitsOf (a+b)).length≤L+1:=by
 have h1:=(bitsOf_len a L).1 ha
 have h2:=(bitsOf_len b L).1 hb
 exact (bitsOf_len _ _).2 (by rw [Nat.pow_succ];omega)
theorem blen_mono {a b:Nat} (h:a≤b):(bitsOf a).length≤(bitsOf b).length:=by
 have h1:=(bitsOf_len b _).1 (Nat.le_refl _)
 exact (bitsOf_len _ _).2 (Nat.lt_of_le_of_lt h h1)
theorem blen_shl {a n L:Nat} (ha:(bitsOf a).length≤L):(bitsOf (a*2 ^ n)).length≤L+n:=by
 have h1:=(bitsOf_len a L).1 ha
 exact (bitsOf_len _ _).2 (by rw [Nat.pow_add];exact Nat.mul_lt_mul_of_pos_right h1 (Nat.two_pow_pos n))
theorem blen_nv {xs:List Nat} (h:Fit W32 xs):(bitsOf (nv xs)).length≤32*xs.length:=by
 have h1:=nv_lt h
 rw [pow32] at h1
 exact (bitsOf_len _ _).2 h1
theorem limbs_mono {a b:Nat} (h:a≤b):(limbs a).length≤(limbs b).length:=
 (limbs_len _ _).2 (Nat.lt_of_le_of_lt h ((limbs_len _ _).1 (Nat.le_refl _)))
theorem limbs_add {a b L:Nat} (ha:(limbs a).length≤L) (hb:(limbs b).length≤L):(limbs (a+b)).length≤L+1:=by
 have h1:=(limbs_len a L).1 ha
 have h2:=(limbs_len b L).1 hb
 refine (limbs_len _ _).2 ?_
 rw [Nat.pow_succ]
 have:W32 ^ L*2≤W32 ^ L*W32:=Nat.mul_le_mul_left _ W32_ge
 omega
theorem limbs_shl {a n L:Nat} (ha:(limbs a).length≤L):(limbs (a*2 ^ n)).length≤L+n / 32+1:=by
 have h1:=(limbs_len a L).1 ha
 refine (limbs_len _ _).2 ?_
 rw [pow32] at h1 ⊢
 calc a*2 ^ n < 2 ^ (32*L)*2 ^ n:=Nat.mul_lt_mul_of_pos_right h1 (Nat.two_pow_pos n)
  _=2 ^ (32*L+n):=(Nat.pow_add _ _ _).symm
  _≤2 ^ (32*(L+n / 32+1)):=Nat.pow_le_pow_right (by omega) (by omega)
theorem blen_of_limbs {x L:Nat} (h:(limbs x).length≤L):blen x≤32*L:=by
 have h1:=(limbs_len x L).1 h
 rw [pow32] at h1
 exact (blen_le _ _).2 h1
theorem bits_of_limbs {x L:Nat} (h:(limbs x).length≤L):(bitsOf x).length≤32*L:=by rw [bitsOf_blen];exact blen_of_limbs h

theorem mul_step {o b:List Nat} {k j x c t V0:Nat} (hk:k+j < o.length) (hinv:val W32 o+W32 ^ (k+j)*c=V0+W32 ^ k*(x*val W32 (b.take j))) (ht:t=c+x*nth b j+nth o (k+j)):
  val W32 (o.set (k+j) (t % W32))+W32 ^ (k+(j+1))*(t / W32)=V0+W32 ^ k*(x*val W32 (b.take (j+1))):=by
 have h1:=val_set W32 o (k+j) (t % W32) hk
 have h2:=carry_step W32 (W32 ^ (k+j)) t
 have h3:W32 ^ (k+j)*t=W32 ^ (k+j)*c+W32 ^ k*(x*(W32 ^ j*nth b j))+W32 ^ (k+j)*nth o (k+j):=by
  rw [ht,Nat.mul_add,Nat.mul_add,Nat.pow_add]
  simp only [Nat.mul_assoc,Nat.mul_left_comm,Nat.mul_comm]
 rw [val_take_succ,Nat.mul_add x,Nat.mul_add,← Nat.add_assoc k j 1,Nat.pow_succ]
 omega
theorem mul_carry {c x y z t:Nat} (hc:c≤4294967295) (hx:x≤4294967295) (hy:y≤4294967295) (hz:z≤4294967295) (ht:t=c+x*y+z):t≤18446744073709551615∧t / W32≤4294967295:=by
 have h:x*y≤4294967295*4294967295:=Nat.mul_le_mul hx hy
 unfold W32
 omega
theorem mul_row {o a b:List Nat} {k c:Nat} (hk:k+b.length < o.length) (h0:nth o (k+b.length)=0) (hinv:val W32 o+W32 ^ (k+b.length)*c=nv (a.take k)*nv b+W32 ^ k*(nth a k*val W32 (b.take b.length))):
  nv (o.set (k+b.length) c)=nv (a.take (k+1))*nv b:=by
 have h1:=val_set W32 o (k+b.length) c hk
 unfold nv at*
 rw [h0,Nat.mul_zero,Nat.add_zero] at h1
 rw [h1,hinv,val_take_ge _ _ _ (Nat.le_refl _),val_take_succ,Nat.add_mul,Nat.mul_assoc]
theorem digit_zero {o:List Nat} {k:Nat} (h:val W32 o < W32 ^ k):nth o k=0:=by
 have h1:=nth_le_val (B:=W32) o k
 by_cases h0:nth o k=0
 ·exact h0
 ·exfalso
  have:W32 ^ k*1≤W32 ^ k*nth o k:=Nat.mul_le_mul_left _ (by omega)
  omega
theorem mul_below {a b:List Nat} (ha:Fit W32 a) (hb:Fit W32 b) (k:Nat) (hk:k≤a.length):nv (a.take k)*nv b < W32 ^ (k+b.length):=by
 have h1:=nv_lt (ha.take k)
 rw [List.length_take,Nat.min_eq_left hk] at h1
 have h2:=nv_lt hb
 rw [Nat.pow_add]
 exact Nat.mul_lt_mul'' h1 h2

theorem drop_set (o:List Nat) (k d:Nat) (h:k < o.length):(o.set k d).drop k=d :: o.drop (k+1):=by
 rw [List.drop_eq_getElem_cons (by simpa using h),List.getElem_set_self,List.drop_set]
 simp
theorem divw_step {a q:List Nat} {j r w:Nat} (hj:j < a.length) (hq:q.length=a.length) (hinv:nv (a.drop (j+1))=w*nv (q.drop (j+1))+r):
  nv (a.drop j)=w*nv ((q.set j ((r*4294967296+nth a j) / w)).drop j)+(r*4294967296+nth a j) % w:=by
 unfold nv at*
 rw [val_drop _ _ _ hj,drop_set _ _ _ (by omega),hinv]
 simp only [val]
 have h:=Nat.mod_add_div (r*4294967296+nth a j) w
 rw [Nat.mul_add w]
 have e:w*(W32*val W32 (q.drop (j+1)))=W32*(w*val W32 (q.drop (j+1))):=by rw [← Nat.mul_assoc,Nat.mul_comm w,Nat.mul_assoc]
 rw [Nat.mul_add W32,e]
 unfold W32 at*
 omega
theorem div_mod_of {x w q r:Nat} (h:x=w*q+r) (hr:r < w):q=x / w∧r=x % w:=by
 constructor
 ·rw [h,Nat.mul_add_div (by omega),Nat.div_eq_of_lt hr];simp
 ·rw [h,Nat.mul_add_mod,Nat.mod_eq_of_lt hr]
theorem divw_small {r x w:Nat} (hr:r < w) (hx:x≤4294967295):(r*4294967296+x) / w≤4294967295:=by
 have:(r*4294967296+x) / w < 4294967296:=by
  rw [Nat.div_lt_iff_lt_mul (by omega)]
  have:(r+1)*4294967296≤w*4294967296:=Nat.mul_le_mul_right _ hr
  rw [Nat.mul_comm 4294967296]
  omega
 omega

theorem guess_down {g rest v1 v2 V' top u3 X' P:Nat} (hX':X' < P) (htop:g*v1+rest=top) (hgt:rest*W32+u3 < g*v2):
  (top*W32+u3)*P+X' < g*((v1*W32+v2)*P+V'):=by
 have h1:top*W32+u3+1≤g*(v1*W32+v2):=by
  rw [← htop,Nat.add_mul,Nat.mul_add,Nat.mul_assoc]
  omega
 have h2:(top*W32+u3+1)*P≤g*(v1*W32+v2)*P:=Nat.mul_le_mul_right _ h1
 rw [Nat.mul_add g,← Nat.mul_assoc g]
 rw [Nat.add_mul,Nat.one_mul] at h2
 omega
theorem guess_up {g rest v1 v2 V' top u3 X' P:Nat} (hV':V' < P) (hg:g≤W32) (hv1:1≤v1) (htop:g*v1+rest=top) (hle:g*v2≤rest*W32+u3):
  g*((v1*W32+v2)*P+V') < (top*W32+u3)*P+X'+((v1*W32+v2)*P+V'):=by
 have h1:g*(v1*W32+v2)≤top*W32+u3:=by
  rw [← htop,Nat.add_mul,Nat.mul_add,Nat.mul_assoc]
  omega
 have h2:g*(v1*W32+v2)*P≤(top*W32+u3)*P:=Nat.mul_le_mul_right _ h1
 have h3:g*V'≤W32*V':=Nat.mul_le_mul_right _ hg
 have h4:W32*V' < W32*P:=Nat.mul_lt_mul_of_pos_left hV' (by decide)
 have h5:W32*P≤v1*W32*P:=by have h:=Nat.mul_le_mul_right P (Nat.mul_le_mul_right W32 hv1);rwa [Nat.one_mul] at h
 rw [Nat.mul_add g,← Nat.mul_assoc g]
 rw [Nat.add_mul (v1*W32) v2 P]
 omega

theorem take_owed {g w c p:Nat} (hw:w≤4294967295) (hc:c≤g) (hp:p=g*w+c):p / W32≤g∧(p / W32=g→p % W32=0):=by
 have h1:g*w≤g*4294967295:=Nat.mul_le_mul_left _ hw
 unfold W32
 have h2:p≤g*4294967296:=by omega
 constructor
 ·omega
 ·intro h;omega
theorem take_step {o o' v:List Nat} {j k g c c' d:Nat} (hk:j+k < o'.length) (hinv:val W32 ((o.drop j).take k)+W32 ^ k*c=val W32 ((o'.drop j).take k)+g*val W32 (v.take k)) (hd:nth o (j+k)+W32*c'=d+(g*nth v k+c)):
  val W32 ((o.drop j).take (k+1))+W32 ^ (k+1)*c'=val W32 (((o'.set (j+k) d).drop j).take (k+1))+g*val W32 (v.take (k+1)):=by
 have e:(o'.set (j+k) d).drop j=(o'.drop j).set k d:=by rw [List.drop_set,if_neg (by omega),Nat.add_sub_cancel_left]
 rw [e,val_take_set _ _ _ _ (by simp;omega),val_take_succ,val_take_succ,nth_drop,Nat.mul_add g,Nat.pow_succ,Nat.mul_assoc]
 have h:=congrArg (fun t=>W32 ^ k*t) hd
 simp only [Nat.mul_add] at h
 have e2:g*(W32 ^ k*nth v k)=W32 ^ k*(g*nth v k):=Nat.mul_left_comm _ _ _
 omega
theorem give_step {o o' v:List Nat} {j k c c' d:Nat} (hk:j+k < o'.length) (hinv:val W32 ((o.drop j).take k)+val W32 (v.take k)=val W32 ((o'.drop j).take k)+W32 ^ k*c) (hd:nth o (j+k)+nth v k+c=d+W32*c'):
  val W32 ((o.drop j).take (k+1))+val W32 (v.take (k+1))=val W32 (((o'.set (j+k) d).drop j).take (k+1))+W32 ^ (k+1)*c':=by
 have e:(o'.set (j+k) d).drop j=(o'.drop j).set k d:=by rw [List.drop_set,if_neg (by omega),Nat.add_sub_cancel_left]
 rw [e,val_take_set _ _ _ _ (by simp;omega),val_take_succ,val_take_succ,nth_drop,Nat.pow_succ,Nat.mul_assoc]
 have h:=congrArg (fun t=>W32 ^ k*t) hd
 simp only [Nat.mul_add] at h
 omega

theorem val_drop_any (B:Nat) (xs:List Nat) (k:Nat):val B (xs.drop k)=nth xs k+B*val B (xs.drop (k+1)):=by
 by_cases h:k < xs.length
 ·exact val_drop B xs k h
 ·rw [List.drop_of_length_le (by omega),List.drop_of_length_le (by omega),nth_ge xs k (by omega)];simp [val]
theorem val_split (B:Nat) (xs:List Nat) (k:Nat):val B xs=val B (xs.take k)+B ^ k*val B (xs.drop k):=by
 by_cases h:k≤xs.length
 ·exact val_take_drop B xs k h
 ·rw [List.take_of_length_le (by omega),List.drop_of_length_le (by omega)];simp [val]
theorem val_take_lt {xs:List Nat} (h:Fit W32 xs) (k:Nat):val W32 (xs.take k) < W32 ^ k:=by
 have h1:=val_lt (show 0 < W32 by decide) (h.take k)
 exact Nat.lt_of_lt_of_le h1 (Nat.pow_le_pow_right (by decide) (by rw [List.length_take];omega))
theorem seg3 (u:List Nat) (j p:Nat) (hz:val W32 (u.drop (j+p+3))=0):
  val W32 (u.drop j)=((nth u (j+p+2)*W32+nth u (j+p+1))*W32+nth u (j+p))*W32 ^ p+val W32 ((u.drop j).take p):=by
 rw [val_split W32 (u.drop j) p,List.drop_drop,val_drop_any,val_drop_any,val_drop_any,hz,Nat.mul_zero,Nat.add_zero,Nat.add_comm,Nat.mul_comm]
 congr 2
 rw [Nat.mul_comm _ W32,Nat.mul_comm _ W32,Nat.add_comm,Nat.add_comm (nth u (j+p+1))]
 rfl
theorem top2 (v:List Nat) (p:Nat) (hl:v.length=p+2):val W32 v=(nth v (p+1)*W32+nth v p)*W32 ^ p+val W32 (v.take p):=by
 rw [val_split W32 v p,val_drop_any,val_drop_any,List.drop_of_length_le (by omega),Nat.add_comm,Nat.mul_comm]
 simp only [val,Nat.mul_zero,Nat.add_zero]
 congr 2
 rw [Nat.mul_comm W32,Nat.add_comm]

structure Digit (X V top u3 v1 v2 P X' V':Nat):Prop where
 x:X=(top*W32+u3)*P+X'
 v:V=(v1*W32+v2)*P+V'
 xl:X' < P
 vl:V' < P
 lt:X < W32*V
 lo:2147483648≤v1
 hi:v1≤4294967295
 h2:v2≤4294967295
 h3:u3≤4294967295
theorem Digit.top_le {X V top u3 v1 v2 P X' V':Nat} (d:Digit X V top u3 v1 v2 P X' V'):top≤W32*v1+4294967295:=by
 have h1:top*W32*P≤X:=by
  rw [d.x,Nat.add_mul];omega
 have h2:V < (v1+1)*W32*P:=by
  have h3:(v1*W32+v2+1)*P≤(v1+1)*W32*P:=Nat.mul_le_mul_right _ (by have:=d.h2;unfold W32;omega)
  have h4:=d.vl
  rw [d.v]
  rw [Nat.add_mul _ 1] at h3
  omega
 have h3:top*W32*P < W32*((v1+1)*W32*P):=Nat.lt_of_le_of_lt h1 (Nat.lt_of_lt_of_le d.lt (Nat.mul_le_mul_left _ (Nat.le_of_lt h2)))
 have h4:W32*((v1+1)*W32*P)=W32*(v1+1)*W32*P:=by simp only [Nat.mul_assoc]
 rw [h4] at h3
 have h5:=Nat.lt_of_mul_lt_mul_right h3
 have h6:=Nat.lt_of_mul_lt_mul_right h5
 unfold W32 at*
 omega
theorem Digit.first {X V top u3 v1 v2 P X' V':Nat} (d:Digit X V top u3 v1 v2 P X' V'):X < (top / v1+1)*V:=by
 have h0:top+1≤(top / v1+1)*v1:=by
  have h:=Nat.mod_add_div top v1
  have h2:=Nat.mod_lt top (show 0 < v1 by have:=d.lo;omega)
  rw [Nat.add_mul,Nat.mul_comm (top / v1),Nat.one_mul]
  omega
 have h1:X < (top+1)*W32*P:=by
  have h3:(top*W32+u3+1)*P≤(top+1)*W32*P:=Nat.mul_le_mul_right _ (by have:=d.h3;unfold W32;omega)
  have h4:=d.xl
  rw [d.x]
  rw [Nat.add_mul _ 1] at h3
  omega
 have h2:(top+1)*W32*P≤(top / v1+1)*v1*W32*P:=Nat.mul_le_mul_right _ (Nat.mul_le_mul_right _ h0)
 have h3:(top / v1+1)*v1*W32*P≤(top / v1+1)*V:=by
  rw [d.v,Nat.mul_assoc,Nat.mul_assoc]
  apply Nat.mul_le_mul_left
  rw [Nat.add_mul,Nat.mul_assoc]
  omega
 omega
theorem Digit.down {X V top u3 v1 v2 P X' V' g rest:Nat} (d:Digit X V top u3 v1 v2 P X' V') (ht:g*v1+rest=top) (h:W32≤g∨rest*W32+u3 < g*v2):X < g*V:=by
 rcases h with h | h
 ·exact Nat.lt_of_lt_of_le d.lt (Nat.mul_le_mul_right _ h)
 ·rw [d.x,d.v]
  exact guess_down d.xl ht h
theorem Digit.up {X V top u3 v1 v2 P X' V' g rest:Nat} (d:Digit X V top u3 v1 v2 P X' V') (ht:g*v1+rest=top) (hg:g≤W32) (h:g*v2≤rest*W32+u3):g*V < X+V:=by
 have:=guess_up (X':=X') d.vl hg (by have:=d.lo;omega) ht h
 rw [← d.v,← d.x] at this
 exact this
theorem Digit.late {X V top u3 v1 v2 P X' V' g rest:Nat} (d:Digit X V top u3 v1 v2 P X' V') (ht:g*v1+rest=top) (h:W32≤rest):g≤4294967295∧g*v2≤rest*W32+u3:=by
 have h1:=d.top_le
 have hg:g≤4294967295:=by
  by_cases hh:g≤4294967295
  ·exact hh
  ·exfalso
   have:W32*v1≤g*v1:=Nat.mul_le_mul_right _ (by unfold W32;omega)
   unfold W32 at*
   omega
 refine ⟨hg,?_⟩
 have h2:g*v2≤4294967295*4294967295:=Nat.mul_le_mul hg d.h2
 have h3:W32*W32≤rest*W32:=Nat.mul_le_mul_right _ h
 unfold W32 at*
 omega
theorem first_le {top v1:Nat} (h1:2147483648≤v1) (h2:top≤W32*v1+4294967295):top / v1≤4294967297:=by
 have:top / v1 < 4294967298:=by
  rw [Nat.div_lt_iff_lt_mul (by omega)]
  unfold W32 at h2
  omega
 omega
theorem step_v1 {g v1 rest top:Nat} (hg:1≤g) (ht:g*v1+rest=top):(g - 1)*v1+(rest+v1)=top:=by
 have:(g - 1)*v1+v1=g*v1:=by
  rw [← Nat.succ_mul];congr 1;omega
 omega

theorem off0 {X V S g M:Nat} (hs:X+M*0=S+g*V) (hlt:X < (g+1)*V):X=g*V+S∧S < V:=by
 rw [Nat.add_mul] at hlt
 omega
theorem off1 {X V S T g M b2:Nat} (hs:X+M*1=S+g*V) (hg:S+V=T+M*b2) (hb:b2≤1) (hS:S < M) (hT:T < M) (hup:g*V < X+V):X=(g - 1)*V+T∧T < V∧1≤g:=by
 have hb1:b2=1:=by
  by_cases h:b2=0
  ·subst h;omega
  ·omega
 subst hb1
 have hg1:1≤g:=by
  by_cases h:g=0
  ·subst h;omega
  ·omega
 have e:(g - 1)*V+V=g*V:=by rw [← Nat.succ_mul];congr 1;omega
 omega
theorem long_step {u u' q:List Nat} {j d V S VA:Nat} (hj:j < q.length) (hinv:VA=V*(W32 ^ (j+1)*val W32 (q.drop (j+1)))+val W32 u) (hX:val W32 (u.drop j)=d*V+S) (ht:u'.take j=u.take j) (hS:val W32 (u'.drop j)=S):
  VA=V*(W32 ^ j*val W32 ((q.set j d).drop j))+val W32 u':=by
 rw [hinv,drop_set q j d hj,val_split W32 u j,val_split W32 u' j,ht,hX,hS,val,Nat.pow_succ]
 simp only [Nat.mul_add,Nat.mul_assoc]
 rw [show V*(W32 ^ j*d)=W32 ^ j*(d*V) by simp only [Nat.mul_assoc,Nat.mul_comm,Nat.mul_left_comm]]
 omega
theorem limbs_mul {a b La Lb:Nat} (ha:(limbs a).length≤La) (hb:(limbs b).length≤Lb):(limbs (a*b)).length≤La+Lb:=by
 refine (limbs_len _ _).2 ?_
 rw [Nat.pow_add]
 exact Nat.mul_lt_mul'' ((limbs_len _ _).1 ha) ((limbs_len _ _).1 hb)
open Go.RowKit

def RowAt (w:World) (g n:Nat):Prop:=∃ cur e,w.heap[g]?=some (.cells cur e (0,0))∧n≤cur.size
structure Besides (B C:Nat) (w w':World):Prop where
 os:w'.os=w.os
 tape:w'.tape=w.tape
 output:w'.output=w.output
 size:w'.heap.size=w.heap.size
 block:∀ k,k < B∨C≤k→w'.heap[k]?=w.heap[k]?
theorem Besides.refl (B C:Nat) (w:World):Besides B C w w:=⟨rfl,rfl,rfl,rfl,fun _ _=>rfl⟩
theorem Besides.set {B C:Nat} {w w':World} (h:Besides B C w w') {g i:Nat} (hB:B≤g) (hC:g < C) (u:Value):Besides B C w (w'.setCell ⟨g,i,none⟩ u):=
 ⟨h.os,h.tape,h.output,by simp [World.setCell];exact h.size,fun k hk=>(Below.heap_setCell _ _ _ _ (by show k≠g;omega)).trans (h.block k hk)⟩
theorem Besides.below {B C:Nat} {w w':World} (h:Besides B C w w'):Below B w w':=⟨h.os,h.tape,h.output,Nat.le_of_eq h.size.symm,fun k hk=>h.block k (.inl hk)⟩
theorem RowAt.set {w:World} {g n:Nat} (h:RowAt w g n) (g' i:Nat) (u:Value):RowAt (w.setCell ⟨g',i,none⟩ u) g n:=by
 obtain ⟨cur,e,hh,hn⟩:=h
 by_cases hg:g'=g
 ·subst hg
  exact ⟨_,e,heap_setCell_same w g' i cur e u hh,by simpa using hn⟩
 ·exact ⟨cur,e,by rw [Below.heap_setCell _ _ _ _ (by show g≠g';omega)];exact hh,hn⟩
theorem RowAt.cell {w:World} {g n i:Nat} (h:RowAt w g n) (hi:i < n):∃ u,w.cell? ⟨g,i,none⟩=some u:=by
 obtain ⟨cur,e,hh,hn⟩:=h
 exact ⟨cur[i],by rw [cell_of_row w g i cur e (0,0) hh];exact Array.getElem?_eq_getElem (by omega)⟩
theorem RowAt.free {w:World} {g n:Nat} (h:RowAt w g n) (i:Nat):w.frozen? ⟨g,i,none⟩=false:=by
 obtain ⟨cur,e,hh,hn⟩:=h
 exact frozen_of_row w g i cur e hh
theorem RowAt.ext {w w':World} {g n:Nat} (h:RowAt w g n) (x:Ext w w'):RowAt w' g n:=by
 obtain ⟨cur,e,hh,hn⟩:=h
 exact ⟨cur,e,by rw [x.block g (Array.getElem?_eq_some_iff.1 hh).1];exact hh,hn⟩
def Mine (B C:Nat) (w:World) (v:Value) (n:Nat):Prop:=∃ a cap,v=.slice a n cap∧n≤cap∧cap≤maxLen∧(n=0∨∃ g,a=some ⟨g,0,none⟩∧B≤g∧g < C∧RowAt w g n)
theorem Mine.ext {B C:Nat} {w w':World} {v:Value} {n:Nat} (h:Mine B C w v n) (x:Ext w w'):Mine B C w' v n:=by
 obtain ⟨a,cap,hv,hn,hm,h0 | ⟨g,ha,hB,hC,hr⟩⟩:=h
 ·exact ⟨a,cap,hv,hn,hm,.inl h0⟩
 ·exact ⟨a,cap,hv,hn,hm,.inr ⟨g,ha,hB,hC,hr.ext x⟩⟩
theorem Mine.mono {B C B' C':Nat} {w:World} {v:Value} {n:Nat} (h:Mine B C w v n) (hB':B'≤B) (hC':C≤C'):Mine B' C' w v n:=by
 obtain ⟨a,cap,hv,hn,hm,h0 | ⟨g,ha,hB,hC,hr⟩⟩:=h
 ·exact ⟨a,cap,hv,hn,hm,.inl h0⟩
 ·exact ⟨a,cap,hv,hn,hm,.inr ⟨g,ha,by omega,by omega,hr⟩⟩
theorem Mine.set {B C:Nat} {w:World} {v:Value} {n:Nat} (h:Mine B C w v n) (g' i:Nat) (u:Value):Mine B C (w.setCell ⟨g',i,none⟩ u) v n:=by
 obtain ⟨a,cap,hv,hn,hm,h0 | ⟨g,ha,hB,hC,hr⟩⟩:=h
 ·exact ⟨a,cap,hv,hn,hm,.inl h0⟩
 ·exact ⟨a,cap,hv,hn,hm,.inr ⟨g,ha,hB,hC,hr.set g' i u⟩⟩
theorem OwnI.there {k:IntKind} {e:TypeId} {B:Nat} {w:World} {v:Value} {xs:List Nat} (h:OwnI k e B w v xs) (hne:0 < xs.length):∃ g cap,v=.slice (some ⟨g,0,none⟩) xs.length cap∧B≤g∧xs.length≤cap∧cap≤maxLen:=by
 rcases h with ⟨h1,⟨rfl,h2⟩ | ⟨g,cap,cur,rfl,hg,hh,hn,hm,hs,ht⟩⟩
 ·omega
 ·exact ⟨g,cap,rfl,hg,hn,hm⟩
theorem OwnI.caps {k:IntKind} {e:TypeId} {B n cap:Nat} {a:Option Addr} {w:World} {xs:List Nat} (h:OwnI k e B w (.slice a n cap) xs):xs.length≤cap∧cap≤maxLen:=by
 obtain ⟨_,_,h1,h2,h3,_⟩:=h.rd.shape
 simp only [Value.slice.injEq] at h1
 obtain ⟨_,_,rfl⟩:=h1
 exact ⟨h2,h3⟩
theorem OwnI.same {k:IntKind} {e:TypeId} {B g n cap:Nat} {w w':World} {xs:List Nat} (h:OwnI k e B w (.slice (some ⟨g,0,none⟩) n cap) xs) (hs:w'.heap[g]?=w.heap[g]?):OwnI k e B w' (.slice (some ⟨g,0,none⟩) n cap) xs:=by
 rcases h with ⟨h1,⟨h2,_⟩ | ⟨g',cap',cur,hv,hg,hh,r⟩⟩
 ·cases h2
 ·simp only [Value.slice.injEq,Option.some.injEq,Addr.mk.injEq,and_true] at hv
  obtain ⟨rfl,_,rfl⟩:=hv
  have hn:n=xs.length:=by assumption
  subst hn
  exact ⟨h1,.inr ⟨g,cap,cur,rfl,hg,by rw [hs];exact hh,r⟩⟩
theorem Besides.ext {B g:Nat} {w w':World} (h:Besides g (g+1) w w') (hB:B≤g):Below B w w':=Below.mono h.below hB
theorem Besides.at {g k:Nat} {w w':World} (h:Besides g (g+1) w w') (hk:k≠g):w'.heap[k]?=w.heap[k]?:=h.block k (by omega)
end Go.Att
