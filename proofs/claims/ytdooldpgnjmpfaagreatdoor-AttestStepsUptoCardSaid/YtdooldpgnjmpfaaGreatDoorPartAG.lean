/- A group of texts: Lin, LinN, LinR, Meet, MeetQ, IntR, FrameE -/
import Derived.Test.YtdooldpgnjmpfaaGreatDoorPartAF
import Derived.Test.YtdooldpgnjmpfaaGreatDoorPartAD
import Derived.Test.YtdooldpgnjmpfaaGreatDoorPartAC
namespace Go.Att
open Go.RowKit

abbrev TL:=List (Int × Rat)
def cf:TL→Int→Rat
 | [],_=>0
 | t :: l,v=>(if t.1=v then t.2 else 0)+cf l v
theorem cf_app (l m:TL) (v:Int):cf (l ++ m) v=cf l v+cf m v:=by
 induction l with
 | nil=>show cf m v=0+cf m v;rw [Rat.zero_add]
 | cons t l ih=>show _+cf (l ++ m) v=_+cf l v+cf m v;rw [ih,Rat.add_assoc]
theorem cf_one (t:Int × Rat) (v:Int):cf [t] v=if t.1=v then t.2 else 0:=by show _+0=_;rw [Rat.add_zero]
theorem cf_perm {l m:TL} (h:l.Perm m) (v:Int):cf l v=cf m v:=by
 induction h with
 | nil=>rfl
 | cons t _ ih=>show _+_=_+_;rw [ih]
 | swap a b l=>show _+(_+_)=_+(_+_);rw [← Rat.add_assoc,Rat.add_comm (if b.1=v then b.2 else 0),Rat.add_assoc]
 | trans _ _ ih1 ih2=>rw [ih1,ih2]
theorem cf_none {l:TL} {v:Int} (h:∀ t∈l,t.1≠v):cf l v=0:=by
 induction l with
 | nil=>rfl
 | cons t l ih=>
  show _+cf l v=0
  rw [if_neg (h t List.mem_cons_self),ih fun u hu=>h u (List.mem_cons_of_mem _ hu),Rat.add_zero]
def FormT (l:TL):Prop:=l.Pairwise (fun a b=>a.1 < b.1)∧∀ t∈l,t.2≠0
theorem FormT.nil:FormT []:=⟨List.Pairwise.nil,fun t h=>by cases h⟩
theorem FormT.snoc {l:TL} (h:FormT l) {t:Int × Rat} (h1:∀ u∈l,u.1 < t.1) (h2:t.2≠0):FormT (l ++ [t]):=
 ⟨List.pairwise_append.2 ⟨h.1,List.pairwise_singleton _ _,fun a ha b hb=>by rw [List.mem_singleton.1 hb];exact h1 a ha⟩,fun u hu=>by
  rcases List.mem_append.1 hu with hu | hu
  ·exact h.2 u hu
  ·rw [List.mem_singleton.1 hu];exact h2⟩
theorem FormT.at {l:TL} (h:FormT l) {t:Int × Rat} (ht:t∈l):cf l t.1=t.2:=by
 induction l with
 | nil=>cases ht
 | cons u l ih=>
  obtain ⟨h1,h2⟩:=List.pairwise_cons.1 h.1
  have hf:FormT l:=⟨h2,fun x hx=>h.2 x (List.mem_cons_of_mem _ hx)⟩
  show _+cf l t.1=_
  rcases List.mem_cons.1 ht with rfl | ht
  ·rw [if_pos rfl,cf_none fun x hx=>Int.ne_of_gt (h1 x hx),Rat.add_zero]
  ·rw [if_neg (Int.ne_of_lt (h1 t ht)),ih hf ht,Rat.zero_add]
theorem FormT.mem {l:TL} (h:FormT l) (v:Int):(∃ t∈l,t.1=v)↔cf l v≠0:=by
 constructor
 ·rintro ⟨t,ht,rfl⟩
  rw [h.at ht]
  exact h.2 t ht
 ·intro hc
  exact Classical.byContradiction fun hn=>hc (cf_none fun t ht hv=>hn ⟨t,ht,hv⟩)
theorem FormT.uniq:∀ {l m:TL},FormT l→FormT m→(∀ v,cf l v=cf m v)→l=m
 | [],[],_,_,_=>rfl
 | [],t :: m,_,hm,h=>absurd ((hm.mem t.1).1 ⟨t,List.mem_cons_self,rfl⟩) (by rw [← h];exact fun h=>h rfl)
 | t :: l,[],hl,_,h=>absurd ((hl.mem t.1).1 ⟨t,List.mem_cons_self,rfl⟩) (by rw [h];exact fun h=>h rfl)
 | t :: l,u :: m,hl,hm,h=>by
  obtain ⟨l1,l2⟩:=List.pairwise_cons.1 hl.1
  obtain ⟨m1,m2⟩:=List.pairwise_cons.1 hm.1
  have a1:=(hl.mem t.1).1 ⟨t,List.mem_cons_self,rfl⟩
  have a2:=(hm.mem u.1).1 ⟨u,List.mem_cons_self,rfl⟩
  rw [h] at a1
  rw [← h] at a2
  have htu:t.1=u.1:=by
   obtain ⟨x,hx,e1⟩:=(hm.mem _).2 a1
   obtain ⟨y,hy,e2⟩:=(hl.mem _).2 a2
   rcases List.mem_cons.1 hx with rfl | hx
   ·exact e1.symm
   ·rcases List.mem_cons.1 hy with rfl | hy
    ·exact e2
    ·have:=m1 x hx;have:=l1 y hy;omega
  have hte:t.2=u.2:=by
   have:=h t.1
   rw [hl.at List.mem_cons_self,htu,hm.at List.mem_cons_self] at this
   exact this
  obtain rfl:t=u:=Prod.ext htu hte
  have hr:=FormT.uniq (l:=l) (m:=m) ⟨l2,fun x hx=>hl.2 x (List.mem_cons_of_mem _ hx)⟩ ⟨m2,fun x hx=>hm.2 x (List.mem_cons_of_mem _ hx)⟩ fun v=>by
   have:=h v
   change (if t.1=v then t.2 else 0)+cf l v=(if t.1=v then t.2 else 0)+cf m v at this
   generalize (if t.1=v then t.2 else (0:Rat))=k at this
   grind
  rw [hr]
def Canl (l l':TL):Prop:=FormT l'∧∀ v,cf l' v=cf l v

theorem Pw.gt {α:Type} [Inhabited α] {k:Nat} {R:List Value→α→Prop}:∀ {E:List (List Value)} {l:List α},Pw k R E l→∀ i,i < E.length→(gt E i).length=k∧R (gt E i) (gt l i)
 | _ :: _,_ :: _,h,0,_=>h.1
 | _ :: E,_ :: l,h,i+1,hi=>Pw.gt (E:=E) (l:=l) h.2 i (by simpa using hi)
 | [],[],_,_,hi=>by simp at hi
 | [],_ :: _,h,_,_=>h.elim
 | _ :: _,[],h,_,_=>h.elim
theorem Pw.perm {α:Type} {k:Nat} {R:List Value→α→Prop} {E E':List (List Value)} (h:E'.Perm E):∀ {l:List α},Pw k R E l→∃ l':List α,l'.Perm l∧Pw k R E' l':=by
 induction h with
 | nil=>intro l h;exact ⟨l,List.Perm.refl _,h⟩
 | cons x _ ih=>
  intro l h
  match l,h with
  | a :: l,h=>
   obtain ⟨l',h1,h2⟩:=ih h.2
   exact ⟨a :: l',List.Perm.cons a h1,h.1,h2⟩
 | swap x y E=>
  intro l h
  match l,h with
  | a :: b :: l,h=>exact ⟨b :: a :: l,List.Perm.swap a b l,h.2.1,h.1,h.2.2⟩
 | trans _ _ ih1 ih2=>
  intro l h
  obtain ⟨l1,h1,h2⟩:=ih2 h
  obtain ⟨l2,h3,h4⟩:=ih1 h2
  exact ⟨l2,h3.trans h1,h4⟩
theorem flat_at {E:List (List Value)} (h:∀ c∈E,c.length=4):E.flatten.length=E.length*4∧∀ i j,i < E.length→j < 4→E.flatten[i*4+j]?=(gt E i)[j]?:=by
 have hp:Pw 4 (fun _ (_:Unit)=>True) E (E.map fun _=>()):=by
  induction E with
  | nil=>trivial
  | cons c E ih=>exact ⟨⟨h c List.mem_cons_self,trivial⟩,ih fun d hd=>h d (List.mem_cons_of_mem _ hd)⟩
 refine ⟨by rw [hp.flat,List.length_map],fun i j hi hj=>?_⟩
 induction E generalizing i with
 | nil=>simp at hi
 | cons c E ih=>
  have hc:=h c List.mem_cons_self
  cases i with
  | zero=>
   rw [Nat.zero_mul,Nat.zero_add,List.flatten_cons,List.getElem?_append_left (by omega)]
   rfl
  | succ i=>
   have:=ih (fun d hd=>h d (List.mem_cons_of_mem _ hd)) hp.2 i (by simpa using hi)
   rw [List.flatten_cons,List.getElem?_append_right (by omega),show (i+1)*4+j - c.length=i*4+j by omega,this]
   rfl
theorem gt_mem {E:List (List Value)} {i:Nat} (hi:i < E.length):gt E i∈E:=by rw [gt_lt hi];exact List.getElem_mem hi
theorem Sl.of_owns {t:TypeId} {g n cap B:Nat} {w:World} {E:List (List Value)} (h:w.ownsRow B t 4 (.slice (some ⟨g,0,none⟩) n cap) n E.flatten) (hE:∀ c∈E,Tm c):E.length=n∧B≤g∧Sl t g (cap*4) w E:=by
 obtain ⟨h1,h2⟩:=h
 obtain ⟨f1,f2⟩:=flat_at fun c hc=>(hE c hc).len
 have hn:E.length=n:=by omega
 rcases h2 with ⟨h2,-⟩ | ⟨g',cap',cur,hv,hb,hg,hnc,hcm,hcs,ht⟩
 ·simp at h2
 ·simp only [Value.slice.injEq,Option.some.injEq,Addr.mk.injEq,and_true,true_and] at hv
  obtain ⟨rfl,rfl⟩:=hv
  refine ⟨hn,hb,cur,hg,hcs,by rw [hn];exact Nat.mul_le_mul_right 4 hnc,fun i hi=>hE _ (gt_mem hi),fun i j hi hj=>?_⟩
  rw [← f2 i j hi hj,← ht,List.getElem?_take,if_pos (by omega)]
  simp

def OwnTm (e:TypeId) (w:World) (v:Value) (t:Int × Rat):Prop:=∃ x y z,v=.agg #[.int .i64 t.1,x,y,z]∧OwnQ e 0 w (.agg #[x,y,z]) t.2
theorem OwnTm.ext {e:TypeId} {w w':World} {v:Value} {t:Int × Rat} (h:OwnTm e w v t) (x:Ext w w'):OwnTm e w' v t:=by
 obtain ⟨a,b,c,rfl,h⟩:=h
 exact ⟨a,b,c,rfl,h.ext x⟩
theorem cells_T {e:TypeId} {w:World} {cs:List Value} {t:Int × Rat} (h:OwnTm e w (.agg cs.toArray) t):∃ s a l c a' l' c',cs=[.int .i64 t.1,.bool s,.slice a l c,.slice a' l' c']∧OwnQ e 0 w (.agg #[.bool s,.slice a l c,.slice a' l' c']) t.2:=by
 obtain ⟨x,y,z,he,h⟩:=h
 obtain ⟨s,a,l,c,a',l',c',h1,h2⟩:=h.op
 obtain ⟨rfl,rfl,rfl⟩:=agg3_inj h1
 have:cs.toArray=#[.int .i64 t.1,.bool s,.slice a l c,.slice a' l' c']:=by simpa using he
 exact ⟨s,a,l,c,a',l',c',by simpa using congrArg Array.toList this,h2.out⟩
theorem OwnTm.grown {e e':TypeId} {w w':World} {v v':Value} {t:Int × Rat} {B n size:Nat} {xs:List Value} (h:OwnTm e w v t) (hr:w.ownsRow B e' size v' n xs) (hne:e≠e') (hg:w.grownBy w' v'.ownBlock):OwnTm e w' v t:=by
 obtain ⟨a,b,c,rfl,h⟩:=h
 exact ⟨a,b,c,rfl,h.grown hr hne hg⟩
theorem kdT {e e':TypeId} (hne:e≠e'):Kd e' (OwnTm e):=⟨fun h X=>h.ext X,fun h hr hg=>h.grown hr hne hg,fun h u hu=>by
 obtain ⟨s,a,l,c,a',l',c',rfl,-⟩:=cells_T h
 simp at hu
 rcases hu with rfl | rfl | rfl | rfl <;> rfl⟩
theorem OwnTm.putT {e t:TypeId} {c m:Nat} {w:World} {v:Value} {q:Int × Rat} (h:OwnTm e w v q) (hc:Rt w c m t) (hne:e≠t) (i:Nat) (l:List Value):OwnTm e (Att.putL w c i l) v q:=by
 obtain ⟨a,b,d,rfl,h⟩:=h
 exact ⟨a,b,d,rfl,h.putT hc hne i l⟩
def RdEx (e:TypeId) (w:World) (v:Value) (l:TL) (c:Rat):Prop:=∃ s x y z,v=.agg #[s,x,y,z]∧RdRow 4 (OwnTm e) w s l∧OwnQ e 0 w (.agg #[x,y,z]) c
theorem RdEx.ext {e:TypeId} {w w':World} {v:Value} {l:TL} {c:Rat} (h:RdEx e w v l c) (x:Ext w w'):RdEx e w' v l c:=by
 obtain ⟨s,a,b,d,rfl,h1,h2⟩:=h
 exact ⟨s,a,b,d,rfl,h1.ext OwnTm.ext x,h2.ext x⟩
def OwnEx (e t:TypeId) (B:Nat) (w:World) (v:Value) (l:TL) (c:Rat):Prop:=∃ s x y z,v=.agg #[s,x,y,z]∧OwnRow 4 (OwnTm e) t B w s l∧OwnQ e 0 w (.agg #[x,y,z]) c
theorem OwnEx.rd {e t:TypeId} {B:Nat} {w:World} {v:Value} {l:TL} {c:Rat} (h:OwnEx e t B w v l c):RdEx e w v l c:=by
 obtain ⟨s,a,b,d,rfl,h1,h2⟩:=h
 exact ⟨s,a,b,d,rfl,h1.rd,h2⟩
theorem OwnEx.ext {e t:TypeId} {B:Nat} {w w':World} {v:Value} {l:TL} {c:Rat} (h:OwnEx e t B w v l c) (x:Ext w w'):OwnEx e t B w' v l c:=by
 obtain ⟨s,a,b,d,rfl,h1,h2⟩:=h
 exact ⟨s,a,b,d,rfl,h1.ext OwnTm.ext x,h2.ext x⟩
theorem RdEx.op {e:TypeId} {w:World} {v:Value} {l:TL} {c:Rat} (h:RdEx e w v l c):∃ a k s b m d b' m' d',v=.agg #[.slice a l.length k,.bool s,.slice b m d,.slice b' m' d']∧l.length≤k∧k≤maxLen∧Hid (RdRow 4 (OwnTm e) w (.slice a l.length k) l)∧Hid (OwnQ e 0 w (.agg #[.bool s,.slice b m d,.slice b' m' d']) c):=by
 obtain ⟨s,x,y,z,rfl,h1,h2⟩:=h
 obtain ⟨a,k,rfl,h3,h4⟩:=h1.shape
 obtain ⟨s,b,m,d,b',m',d',e1,h5⟩:=h2.op
 obtain ⟨rfl,rfl,rfl⟩:=agg3_inj e1
 exact ⟨a,k,s,b,m,d,b',m',d',rfl,h3,h4,h1,h5⟩
theorem OwnEx.op {e t:TypeId} {B:Nat} {w:World} {v:Value} {l:TL} {c:Rat} (h:OwnEx e t B w v l c):∃ a k s b m d b' m' d',v=.agg #[.slice a l.length k,.bool s,.slice b m d,.slice b' m' d']∧l.length≤k∧k≤maxLen∧Hid (OwnEx e t B w (.agg #[.slice a l.length k,.bool s,.slice b m d,.slice b' m' d']) l c):=by
 obtain ⟨a,k,s,b,m,d,b',m',d',rfl,h3,h4,-,-⟩:=h.rd.op
 exact ⟨a,k,s,b,m,d,b',m',d',rfl,h3,h4,h⟩
theorem OwnRow.putT {α:Type} {k:Nat} {T:World→Value→α→Prop} {e t:TypeId} {B c m:Nat} {w:World} {v:Value} {l:List α} (h:OwnRow k T e B w v l) (hc:Rt w c m t) (hne:e≠t) (i:Nat) (cs:List Value) (hT:∀ v a,T w v a→T (Att.putL w c i cs) v a):OwnRow k T e B (Att.putL w c i cs) v l:=by
 obtain ⟨E,h1,h2⟩:=h
 exact ⟨E,owns_putT h1 hc hne i cs,h2.mono fun _ _ h=>hT _ _ h⟩
theorem Rt.c4 {w:World} {b:Nat} {t:TypeId} (h:Rt w b 4 t):∃ x0 x1 x2 x3,w.cell? ⟨b,0,none⟩=some x0∧w.cell? ⟨b,1,none⟩=some x1∧w.cell? ⟨b,2,none⟩=some x2∧w.cell? ⟨b,3,none⟩=some x3∧
  w.frozen? ⟨b,0,none⟩=false∧w.frozen? ⟨b,1,none⟩=false∧w.frozen? ⟨b,2,none⟩=false∧w.frozen? ⟨b,3,none⟩=false:=by
 obtain ⟨x0,h0,g0⟩:=h.rm.at 0 (by omega)
 obtain ⟨x1,h1,g1⟩:=h.rm.at 1 (by omega)
 obtain ⟨x2,h2,g2⟩:=h.rm.at 2 (by omega)
 obtain ⟨x3,h3,g3⟩:=h.rm.at 3 (by omega)
 exact ⟨x0,x1,x2,x3,h0,h1,h2,h3,g0,g1,g2,g3⟩
theorem Sl.row {α:Type} {T:World→Value→α→Prop} {t:TypeId} {g S n cap:Nat} {w:World} {E:List (List Value)} {l:List α} (h:Sl t g S w E) (hn:l.length=n) (h1:n≤cap) (h2:cap≤maxLen) (hp:Pw 4 (fun c a=>T w (.agg c.toArray) a) E l):RdRow 4 T w (.slice (some ⟨g,0,none⟩) n cap) l:=by
 subst hn
 have hl:=hp.len
 obtain ⟨f1,f2⟩:=flat_at (E:=E) fun c hc=>by
  obtain ⟨i,hi,he⟩:=List.getElem_of_mem hc
  rw [← he,← gt_lt hi]
  exact (h.tm i hi).len
 obtain ⟨cur,c1,c2,c3,c4,c5⟩:=h
 refine ⟨E,⟨by rw [f1,hl],_,_,rfl,h1,h2,?_,?_⟩,hp⟩
 ·intro h
  exact absurd h (by simp)
 intro j hj
 refine ⟨g,0,rfl,?_⟩
 rw [f1] at hj
 have hj':j=j / 4*4+j % 4:=by omega
 rw [cell_of_row w g _ _ t (0,0) c1,Nat.zero_add,hj',f2 _ _ (by omega) (by omega),c5 _ _ (by omega) (by omega)]
theorem perm_at {l m:TL} (h:l.Perm m) {P:Int × Rat→Prop} (hP:∀ t∈m,P t):∀ t∈l,P t:=fun t ht=>hP t (h.mem_iff.1 ht)
def Srt (l:TL):Prop:=∀ p q,p < q→q < l.length→(gt l p).1≤(gt l q).1
def Part (L:Nat) (l:TL) (i:Nat) (o:TL):Prop:=FormT o∧(∀ v,cf o v=cf (l.take i) v)∧(∀ t∈o,∀ j,i≤j→j < l.length→t.1 < (gt l j).1)∧(∀ t∈o,Sz (l.length*(L+1)+1) t.2)∧o.length≤i
theorem Part.nil (L:Nat) (l:TL):Part L l 0 []:=⟨FormT.nil,fun v=>by rw [List.take_zero],fun t h=>by (cases h),fun t h=>by (cases h),Nat.le_refl _⟩
theorem Part.skip {L i j:Nat} {l o:TL} {v:Int} (h:Part L l i o) (hij:i < j) (hs:∀ u,cf (l.take j) u=cf (l.take i) u+if v=u then 0 else 0):Part L l j o:=
 ⟨h.1,fun u=>by
  rw [hs,h.2.1]
  split <;> rw [Rat.add_zero],fun t ht k hk=>h.2.2.1 t ht k (by omega),h.2.2.2.1,by have:=h.2.2.2.2;omega⟩
theorem Part.snoc {L i j:Nat} {l o:TL} {v:Int} {q:Rat} (h:Part L l i o) (hij:i < j) (hjn:j≤l.length) (hv:(gt l i).1=v) (hso:Srt l) (hj:j < l.length→(gt l j).1≠v) (hs:∀ u,cf (l.take j) u=cf (l.take i) u+if v=u then q else 0) (hq:q≠0) (hz:Sz (l.length*(L+1)+1) q):Part L l j (o ++ [(v,q)]):=by
 refine ⟨h.1.snoc (fun u hu=>?_) hq,fun u=>?_,fun t ht k hk hkn=>?_,fun t ht=>?_,?_⟩
 ·have:=h.2.2.1 u hu i (Nat.le_refl _) (by omega)
  rwa [hv] at this
 ·rw [cf_app,cf_one,hs,h.2.1]
 ·rcases List.mem_append.1 ht with ht | ht
  ·exact h.2.2.1 t ht k (by omega) hkn
  ·rw [List.mem_singleton.1 ht]
   have h1:=hso i j hij (by omega)
   have h2:=hj (by omega)
   have h3:(gt l j).1≤(gt l k).1:=by
    by_cases hjk:j=k
    ·rw [hjk];exact Int.le_refl _
    ·exact hso j k (by omega) hkn
   show v < _
   omega
 ·rcases List.mem_append.1 ht with ht | ht
  ·exact h.2.2.2.1 t ht
  ·rw [List.mem_singleton.1 ht];exact hz
 ·rw [List.length_append,List.length_singleton]
  have:=h.2.2.2.2
  omega
theorem Part.done {L:Nat} {l o:TL} (h:Part L l l.length o):Canl l o∧∀ t∈o,Sz (l.length*(L+1)+1) t.2:=by
 have h2:=h.2.1
 rw [List.take_length] at h2
 exact ⟨⟨h.1,h2⟩,h.2.2.2.1⟩
theorem cf_start {l:TL} {i:Nat} {v:Int}:∀ u,cf (l.take i) u=cf (l.take i) u+if v=u then (0:Rat) else 0:=fun u=>by split <;> rw [Rat.add_zero]
theorem cf_next {l:TL} {i j:Nat} {v:Int} {q:Rat} (hj:j < l.length) (hv:(gt l j).1=v) (hs:∀ u,cf (l.take j) u=cf (l.take i) u+if v=u then q else 0):∀ u,cf (l.take (j+1)) u=cf (l.take i) u+if v=u then q+(gt l j).2 else 0:=fun u=>by
 rw [← List.take_append_getElem hj,cf_app,cf_one,hs,← gt_lt hj,hv,Rat.add_assoc]
 congr 1
 split
 ·rfl
 ·rw [Rat.add_zero]
theorem RdRow.tm {e:TypeId} {w:World} {b off n c:Nat} {l:TL} (h:RdRow 4 (OwnTm e) w (.slice (some ⟨b,off,none⟩) n c) l) (i:Nat) (hi:i < l.length):∃ s a k m a' k' m',Box4 w b (off+i*4) (.int .i64 (gt l i).1) (.bool s) (.slice a k m) (.slice a' k' m')∧OwnQ e 0 w (.agg #[.bool s,.slice a k m,.slice a' k' m']) (gt l i).2:=by
 obtain ⟨b1,o1,cs,he,hl,hT,hc⟩:=h.at (by decide) i hi
 simp only [Option.some.injEq,Addr.mk.injEq,and_true] at he
 obtain ⟨rfl,rfl⟩:=he
 obtain ⟨s,a,k,m,a',k',m',rfl,hq⟩:=cells_T hT
 rw [← gt_lt hi] at hc hq
 exact ⟨s,a,k,m,a',k',m',⟨hc 0 (by decide),hc 1 (by decide),hc 2 (by decide),hc 3 (by decide)⟩,hq⟩
theorem RdRow.some_at {e:TypeId} {w:World} {a:Option Addr} {n c:Nat} {l:TL} (h:RdRow 4 (OwnTm e) w (.slice a n c) l) {i:Nat} (hi:i < l.length):∃ b off,a=some ⟨b,off,none⟩:=by
 obtain ⟨b1,o1,cs,he,-⟩:=h.at (by decide) i hi
 exact ⟨b1,o1,he⟩
theorem ownq_nil (e:TypeId) (w:World):OwnQ e 0 w (.agg #[.bool false,.slice none 0 0,.slice none 0 0]) 0:=by
 refine ⟨.slice none 0 0,.slice none 0 0,rfl,?_,?_⟩
 ·have:limbs (0:Rat).num.natAbs=[]:=limbs_zero
  rw [this]
  exact ⟨⟨rfl,.inl ⟨rfl,rfl⟩⟩,Fit.nil _⟩
 ·have:dens (0:Rat).den=[]:=rfl
  rw [this]
  exact ⟨⟨rfl,.inl ⟨rfl,rfl⟩⟩,Fit.nil _⟩
theorem Rt.grow {w w':World} {b n:Nat} {t:TypeId} {o:Option Nat} (h:Rt w b n t) (hg:w.grownBy w' o) (hne:o≠some b):Rt w' b n t:=by
 obtain ⟨cs,h1,h2⟩:=h
 exact ⟨cs,h1,by rw [hg.block b (Array.getElem?_eq_some_iff.1 h2).1 fun e=>hne e.symm];exact h2⟩
theorem OwnRow.ne_rt {α:Type} {k B c m:Nat} {T:World→Value→α→Prop} {e t:TypeId} {w:World} {v:Value} {l:List α} (h:OwnRow k T e B w v l) (hc:Rt w c m t) (hne:e≠t):v.ownBlock≠some c:=fun hv=>by
 obtain ⟨E,⟨_,o⟩,-⟩:=h
 obtain ⟨cs,-,h2⟩:=hc
 rcases o with ⟨rfl,_⟩ | ⟨g,_,_,rfl,_,hh,_⟩
 ·simp [Value.ownBlock] at hv
 ·simp [Value.ownBlock] at hv
  subst hv
  rw [h2] at hh
  simp at hh
  exact hne hh.2.symm
theorem OwnRow.ne_new {α:Type} {k B:Nat} {T:World→Value→α→Prop} {e:TypeId} {w:World} {v:Value} {l:List α} (h:OwnRow k T e B w v l):v.ownBlock≠some w.heap.size:=fun hv=>Nat.lt_irrefl _ (h.lt _ hv).2
theorem Bx.one {w:World} {b:Nat} {x:Value} (h:w.cell? ⟨b,0,none⟩=some x):Bx w b [x]:=fun i v hv=>by
 match i,hv with
 | 0,hv=>simp at hv;subst hv;exact h
 | i+1,hv=>simp at hv
theorem Rt.set0 {w:World} {b n:Nat} {t:TypeId} (h:Rt w b n t) (x:Value):Rt (Att.putL w b 0 [x]) b n t:=by
 obtain ⟨cs,h1,h2⟩:=h
 exact ⟨_,by simp [h1],heap_setCell_same w b 0 _ t x h2⟩
theorem Bx.set0 {w:World} {b n:Nat} {t:TypeId} {y:Value} {cs:List Value} (h:Bx w b (y :: cs)) (hr:Rt w b n t) (hn:0 < n) (x:Value):Bx (Att.putL w b 0 [x]) b (x :: cs):=by
 obtain ⟨cur,h1,h2⟩:=hr
 intro i v hv
 have hc:=heap_setCell_same w b 0 _ t x h2
 show (w.setCell ⟨b,0,none⟩ x).cell? _=_
 rw [cell_of_row _ b _ _ t (0,0) hc]
 cases i with
 | zero=>
  simp at hv
  subst hv
  rw [Array.getElem?_setIfInBounds_self_of_lt (by omega)]
 | succ i=>
  rw [Array.getElem?_setIfInBounds_ne (by omega)]
  have h3:=h (i+1) v (by simpa using hv)
  rwa [cell_of_row w b _ _ t (0,0) h2] at h3
theorem Bx.lt {w:World} {b:Nat} {x:Value} {cs:List Value} (h:Bx w b (x :: cs)):b < w.heap.size:=World.block_lt_of_cell? w _ h.c1
theorem OwnEx.mono {e t:TypeId} {B B':Nat} {w:World} {v:Value} {l:TL} {c:Rat} (h:OwnEx e t B w v l c) (hB:B'≤B):OwnEx e t B' w v l c:=by
 obtain ⟨s,a,b,d,rfl,h1,h2⟩:=h
 exact ⟨s,a,b,d,rfl,h1.mono hB,h2⟩
theorem OwnEx.putT {e t t':TypeId} {B c m:Nat} {w:World} {v:Value} {l:TL} {q:Rat} (h:OwnEx e t B w v l q) (hc:Rt w c m t') (h1:t≠t') (h2:e≠t') (i:Nat) (cs:List Value):OwnEx e t B (Att.putL w c i cs) v l q:=by
 obtain ⟨s,a,b,d,rfl,h3,h4⟩:=h
 exact ⟨s,a,b,d,rfl,h3.putT hc h1 i cs (fun v a h=>h.putT hc h2 i cs),h4.putT hc h2 i cs⟩
open Go.RowKit

def RdNT (w:World) (v:Value) (t:Int × NN):Prop:=∃ y z,v=.agg #[.int .i64 t.1,.bool t.2.1,y,z]∧RdNp w (.agg #[.bool t.2.1,y,z]) t.2
theorem RdNT.ext {w w':World} {v:Value} {t:Int × NN} (h:RdNT w v t) (x:Ext w w'):RdNT w' v t:=by
 obtain ⟨y,z,rfl,h⟩:=h
 exact ⟨y,z,rfl,h.ext x⟩
theorem cells_NT {w:World} {cs:List Value} {t:Int × NN} (h:RdNT w (.agg cs.toArray) t):∃ y z,cs=[.int .i64 t.1,.bool t.2.1,y,z]∧RdNp w (.agg #[.bool t.2.1,y,z]) t.2:=by
 obtain ⟨y,z,he,h⟩:=h
 have:cs.toArray=#[.int .i64 t.1,.bool t.2.1,y,z]:=by simpa using he
 exact ⟨y,z,by simpa using congrArg Array.toList this,h⟩
def RdNE (w:World) (v:Value) (l:List (Int × NN)) (n:NN):Prop:=∃ s y z,v=.agg #[s,.bool n.1,y,z]∧RdRow 4 RdNT w s l∧RdNp w (.agg #[.bool n.1,y,z]) n
theorem RdNE.ext {w w':World} {v:Value} {l:List (Int × NN)} {n:NN} (h:RdNE w v l n) (x:Ext w w'):RdNE w' v l n:=by
 obtain ⟨s,y,z,rfl,h1,h2⟩:=h
 exact ⟨s,y,z,rfl,h1.ext RdNT.ext x,h2.ext x⟩
def qT (t:Int × NN):Int × Rat:=(t.1,qN t.2)
def tL (l:List (Int × NN)):TL:=(l.take 12).map qT
theorem tL_len (l:List (Int × NN)):(tL l).length≤12:=by unfold tL;rw [List.length_map,List.length_take];omega
theorem RdRow.nt {w:World} {b off n c:Nat} {l:List (Int × NN)} (h:RdRow 4 RdNT w (.slice (some ⟨b,off,none⟩) n c) l) (i:Nat) (hi:i < l.length):∃ y z,Box4 w b (off+i*4) (.int .i64 l[i].1) (.bool l[i].2.1) y z∧RdNp w (.agg #[.bool l[i].2.1,y,z]) l[i].2:=by
 obtain ⟨b1,o1,cs,he,hl,hT,hc⟩:=h.at (by decide) i hi
 simp only [Option.some.injEq,Addr.mk.injEq,and_true] at he
 obtain ⟨rfl,rfl⟩:=he
 obtain ⟨y,z,rfl,hq⟩:=cells_NT hT
 exact ⟨y,z,⟨hc 0 (by decide),hc 1 (by decide),hc 2 (by decide),hc 3 (by decide)⟩,hq⟩
theorem RdRow.some_atN {w:World} {a:Option Addr} {n c:Nat} {l:List (Int × NN)} (h:RdRow 4 RdNT w (.slice a n c) l) {i:Nat} (hi:i < l.length):∃ b off,a=some ⟨b,off,none⟩:=by
 obtain ⟨b1,o1,cs,he,-⟩:=h.at (by decide) i hi
 exact ⟨b1,o1,he⟩
open Go.RowKit

def OwnTp (e:TypeId) (w:World) (v:Value) (t:Int × Rat):Prop:=∃ x y z,v=.agg #[.int .i64 t.1,x,y,z]∧OwnP e 0 w (.agg #[x,y,z]) t.2
theorem OwnTp.ext {e:TypeId} {w w':World} {v:Value} {t:Int × Rat} (h:OwnTp e w v t) (x:Ext w w'):OwnTp e w' v t:=by
 obtain ⟨a,b,c,rfl,h⟩:=h
 exact ⟨a,b,c,rfl,h.ext x⟩
theorem cells_TP {e:TypeId} {w:World} {cs:List Value} {t:Int × Rat} (h:OwnTp e w (.agg cs.toArray) t):∃ s a l c a' l' c',cs=[.int .i64 t.1,.bool s,.slice a l c,.slice a' l' c']∧OwnP e 0 w (.agg #[.bool s,.slice a l c,.slice a' l' c']) t.2:=by
 obtain ⟨x,y,z,he,h⟩:=h
 obtain ⟨s,a,l,c,a',l',c',h1,h2⟩:=h.op
 obtain ⟨rfl,rfl,rfl⟩:=agg3_inj h1
 have:cs.toArray=#[.int .i64 t.1,.bool s,.slice a l c,.slice a' l' c']:=by simpa using he
 exact ⟨s,a,l,c,a',l',c',by simpa using congrArg Array.toList this,h2.out⟩
theorem OwnTp.grown {e e':TypeId} {w w':World} {v v':Value} {t:Int × Rat} {B n size:Nat} {xs:List Value} (h:OwnTp e w v t) (hr:w.ownsRow B e' size v' n xs) (hne:e≠e') (hg:w.grownBy w' v'.ownBlock):OwnTp e w' v t:=by
 obtain ⟨a,b,c,rfl,h⟩:=h
 exact ⟨a,b,c,rfl,h.grown hr hne hg⟩
theorem kdTP {e e':TypeId} (hne:e≠e'):Kd e' (OwnTp e):=⟨fun h X=>h.ext X,fun h hr hg=>h.grown hr hne hg,fun h u hu=>by
 obtain ⟨s,a,l,c,a',l',c',rfl,-⟩:=cells_TP h
 simp at hu
 rcases hu with rfl | rfl | rfl | rfl <;> rfl⟩
theorem OwnTp.putT {e t:TypeId} {c m:Nat} {w:World} {v:Value} {q:Int × Rat} (h:OwnTp e w v q) (hc:Rt w c m t) (hne:e≠t) (i:Nat) (l:List Value):OwnTp e (Att.putL w c i l) v q:=by
 obtain ⟨a,b,d,rfl,h⟩:=h
 exact ⟨a,b,d,rfl,h.putT hc hne i l⟩
def RdEy (e:TypeId) (w:World) (v:Value) (l:TL) (c:Rat):Prop:=∃ s x y z,v=.agg #[s,x,y,z]∧RdRow 4 (OwnTp e) w s l∧OwnP e 0 w (.agg #[x,y,z]) c
theorem RdEy.ext {e:TypeId} {w w':World} {v:Value} {l:TL} {c:Rat} (h:RdEy e w v l c) (x:Ext w w'):RdEy e w' v l c:=by
 obtain ⟨s,a,b,d,rfl,h1,h2⟩:=h
 exact ⟨s,a,b,d,rfl,h1.ext OwnTp.ext x,h2.ext x⟩
def OwnEy (e t:TypeId) (B:Nat) (w:World) (v:Value) (l:TL) (c:Rat):Prop:=∃ s x y z,v=.agg #[s,x,y,z]∧OwnRow 4 (OwnTp e) t B w s l∧OwnP e 0 w (.agg #[x,y,z]) c
theorem OwnEy.rd {e t:TypeId} {B:Nat} {w:World} {v:Value} {l:TL} {c:Rat} (h:OwnEy e t B w v l c):RdEy e w v l c:=by
 obtain ⟨s,a,b,d,rfl,h1,h2⟩:=h
 exact ⟨s,a,b,d,rfl,h1.rd,h2⟩
theorem OwnEy.ext {e t:TypeId} {B:Nat} {w w':World} {v:Value} {l:TL} {c:Rat} (h:OwnEy e t B w v l c) (x:Ext w w'):OwnEy e t B w' v l c:=by
 obtain ⟨s,a,b,d,rfl,h1,h2⟩:=h
 exact ⟨s,a,b,d,rfl,h1.ext OwnTp.ext x,h2.ext x⟩
theorem RdEy.op {e:TypeId} {w:World} {v:Value} {l:TL} {c:Rat} (h:RdEy e w v l c):∃ a k s b m d b' m' d',v=.agg #[.slice a l.length k,.bool s,.slice b m d,.slice b' m' d']∧l.length≤k∧k≤maxLen∧Hid (RdRow 4 (OwnTp e) w (.slice a l.length k) l)∧Hid (OwnP e 0 w (.agg #[.bool s,.slice b m d,.slice b' m' d']) c):=by
 obtain ⟨s,x,y,z,rfl,h1,h2⟩:=h
 obtain ⟨a,k,rfl,h3,h4⟩:=h1.shape
 obtain ⟨s,b,m,d,b',m',d',e1,h5⟩:=h2.op
 obtain ⟨rfl,rfl,rfl⟩:=agg3_inj e1
 exact ⟨a,k,s,b,m,d,b',m',d',rfl,h3,h4,h1,h5⟩
theorem OwnEy.op {e t:TypeId} {B:Nat} {w:World} {v:Value} {l:TL} {c:Rat} (h:OwnEy e t B w v l c):∃ a k s b m d b' m' d',v=.agg #[.slice a l.length k,.bool s,.slice b m d,.slice b' m' d']∧l.length≤k∧k≤maxLen∧Hid (OwnEy e t B w (.agg #[.slice a l.length k,.bool s,.slice b m d,.slice b' m' d']) l c):=by
 obtain ⟨a,k,s,b,m,d,b',m',d',rfl,h3,h4,-,-⟩:=h.rd.op
 exact ⟨a,k,s,b,m,d,b',m',d',rfl,h3,h4,h⟩
theorem RdRow.tp {e:TypeId} {w:World} {b off n c:Nat} {l:TL} (h:RdRow 4 (OwnTp e) w (.slice (some ⟨b,off,none⟩) n c) l) (i:Nat) (hi:i < l.length):∃ s a k m a' k' m',Box4 w b (off+i*4) (.int .i64 (gt l i).1) (.bool s) (.slice a k m) (.slice a' k' m')∧OwnP e 0 w (.agg #[.bool s,.slice a k m,.slice a' k' m']) (gt l i).2:=by
 obtain ⟨b1,o1,cs,he,hl,hT,hc⟩:=h.at (by decide) i hi
 simp only [Option.some.injEq,Addr.mk.injEq,and_true] at he
 obtain ⟨rfl,rfl⟩:=he
 obtain ⟨s,a,k,m,a',k',m',rfl,hq⟩:=cells_TP hT
 rw [← gt_lt hi] at hc hq
 exact ⟨s,a,k,m,a',k',m',⟨hc 0 (by decide),hc 1 (by decide),hc 2 (by decide),hc 3 (by decide)⟩,hq⟩
theorem RdRow.some_atP {e:TypeId} {w:World} {a:Option Addr} {n c:Nat} {l:TL} (h:RdRow 4 (OwnTp e) w (.slice a n c) l) {i:Nat} (hi:i < l.length):∃ b off,a=some ⟨b,off,none⟩:=by
 obtain ⟨b1,o1,cs,he,-⟩:=h.at (by decide) i hi
 exact ⟨b1,o1,he⟩
theorem OwnEy.mono {e t:TypeId} {B B':Nat} {w:World} {v:Value} {l:TL} {c:Rat} (h:OwnEy e t B w v l c) (hB:B'≤B):OwnEy e t B' w v l c:=by
 obtain ⟨s,a,b,d,rfl,h1,h2⟩:=h
 exact ⟨s,a,b,d,rfl,h1.mono hB,h2⟩
theorem OwnEy.putT {e t t':TypeId} {B c m:Nat} {w:World} {v:Value} {l:TL} {q:Rat} (h:OwnEy e t B w v l q) (hc:Rt w c m t') (h1:t≠t') (h2:e≠t') (i:Nat) (cs:List Value):OwnEy e t B (Att.putL w c i cs) v l q:=by
 obtain ⟨s,a,b,d,rfl,h3,h4⟩:=h
 exact ⟨s,a,b,d,rfl,h3.putT hc h1 i cs (fun v a h=>h.putT hc h2 i cs),h4.putT hc h2 i cs⟩
open Go.RowKit

theorem Bx.set1 {w:World} {b c:Nat} {cs:List Value} (h:Bx w b cs) (hne:b≠c) (i:Nat) (v:Value):Bx (w.setCell ⟨c,i,none⟩ v) b cs:=h.putL hne i [v]
theorem Rt.set1 {w:World} {b c n:Nat} {t:TypeId} (h:Rt w b n t) (hne:b≠c) (i:Nat) (v:Value):Rt (w.setCell ⟨c,i,none⟩ v) b n t:=h.putL hne i [v]
open Go.RowKit

open Go.RowKit

def IntT (_:World) (v:Value) (z:Int):Prop:=v=.agg #[.int .i64 z]
theorem IntT.ext {w w':World} {v:Value} {z:Int} (h:IntT w v z) (_:Ext w w'):IntT w' v z:=h
theorem cells_I {w:World} {cs:List Value} {z:Int} (h:IntT w (.agg cs.toArray) z):cs=[.int .i64 z]:=by
 unfold IntT at h
 simpa using h
theorem kdI (e:TypeId):Kd e IntT:=⟨fun h _=>h,fun h _ _=>h,fun h u hu=>by
 rw [cells_I h] at hu
 simp at hu
 subst hu
 rfl⟩
theorem RdRow.int {w:World} {b off n c:Nat} {l:List Int} (h:RdRow 1 IntT w (.slice (some ⟨b,off,none⟩) n c) l) (i:Nat) (hi:i < l.length):w.cell? ⟨b,off+i,none⟩=some (.int .i64 (l[i])):=by
 obtain ⟨b1,o1,cs,he,hl,hT,hc⟩:=h.at (by decide) i hi
 simp only [Option.some.injEq,Addr.mk.injEq,and_true] at he
 obtain ⟨rfl,rfl⟩:=he
 have h0:=hc 0 (by decide)
 rw [cells_I hT] at h0
 simpa using h0
theorem RdRow.some_atI {w:World} {a:Option Addr} {n c:Nat} {l:List Int} (h:RdRow 1 IntT w (.slice a n c) l) {i:Nat} (hi:i < l.length):∃ b off,a=some ⟨b,off,none⟩:=by
 obtain ⟨b1,o1,cs,he,-⟩:=h.at (by decide) i hi
 exact ⟨b1,o1,he⟩
end Go.Att

namespace Go.Proofs.YtdooldpgnjmpfaaGreatDoor
open Go.ChangeShapes Go.WideShapes Go.ChangeAt Go.RowKit Go.Att Go.Joins

set_option maxRecDepth 100000 in
theorem trod_T {H:Type} {enc:TypeId × Value→H} {W:World} {spare:Nat→Bool} {held:Bool} {fuel:Nat} {cs:List Value} {y:DataW H × List MemPlace}
  (h:DataW.trod enc Tryz.prog W 0 spare held fuel 137 cs=some y):
  ∃ t:Int × NN,cs.length=4∧RdNT W (.agg cs.toArray) t∧bN t.2≤Rows.uptoBulk y.1:=by
 obtain ⟨y0,y1,n,rfl,hl,h0,h1⟩:=trod_struct2 Tryz.underlying137 h
 have e0:Tryz.prog.cellsOf 3=1:=by kernel_rfl
 have e1:Tryz.prog.cellsOf 71=3:=by kernel_rfl
 dsimp only at h0 h1
 rw [e0] at h0
 rw [e1] at h1
 have hl4:cs.length=4:=hl.trans (by kernel_rfl)
 match cs,hl4 with
 | [c0,c1,c2,c3],_=>
  simp only [List.drop_zero,List.drop_succ_cons,List.take_succ_cons,List.take_zero] at h0 h1
  obtain ⟨z,e0,rfl,wz⟩:=DataW.trod_int Tryz.underlying3 h0
  simp at e0
  subst e0
  obtain ⟨b0,b1,b2,s,xs,ys,e2,⟨y',z',e3,r3⟩,hb⟩:=trod_N h1
  obtain ⟨rfl,rfl,rfl⟩:=agg3_inj e3
  simp only [List.cons.injEq,and_true] at e2
  obtain ⟨rfl,rfl,rfl⟩:=e2
  refine ⟨(z,s,xs,ys),rfl,⟨_,_,rfl,_,_,rfl,r3⟩,?_⟩
  simp only [Rows.uptoBulk,Rows.uptoBulkAll,bN]
  omega

set_option maxRecDepth 100000 in
theorem trod_E {H:Type} {enc:TypeId × Value→H} {W:World} {spare:Nat→Bool} {held:Bool} {fuel:Nat} {cs:List Value} {y:DataW H × List MemPlace}
  (h:DataW.trod enc Tryz.prog W 0 spare held fuel 73 cs=some y):
  ∃ (l:List (Int × NN)) (n:NN),cs.length=4∧RdNE W (.agg cs.toArray) l n∧(∀ t∈l,bN t.2≤Rows.uptoBulk y.1)∧bN n≤Rows.uptoBulk y.1∧l.length+1≤Rows.uptoBulk y.1:=by
 obtain ⟨y0,y1,n,rfl,hl,h0,h1⟩:=trod_struct2 Tryz.underlying73 h
 have e0:Tryz.prog.cellsOf 69=1:=by kernel_rfl
 have e1:Tryz.prog.cellsOf 71=3:=by kernel_rfl
 dsimp only at h0 h1
 rw [e0] at h0
 rw [e1] at h1
 have hl4:cs.length=4:=hl.trans (by kernel_rfl)
 match cs,hl4 with
 | [c0,c1,c2,c3],_=>
  simp only [List.drop_zero,List.drop_succ_cons,List.take_succ_cons,List.take_zero] at h0 h1
  obtain ⟨a0,l0,k0,e2⟩:=slice_form Tryz.underlying69 h0
  simp at e2
  subst e2
  obtain ⟨l,rd,hb,hn⟩:=row_of (T:=RdNT) (g:=fun t=>bN t.2) (k:=4) (d:=y0.1) (ps:=y0.2) Tryz.underlying69 (by kernel_rfl) (by decide) (fun n cs y hy=>trod_T hy) h0
  obtain ⟨b0,b1,b2,s,xs,ys,e2,r2,hb2⟩:=trod_N h1
  simp only [List.cons.injEq,and_true] at e2
  obtain ⟨rfl,rfl,rfl⟩:=e2
  have r2':=r2
  obtain ⟨y',z',e3,-⟩:=r2'
  obtain ⟨rfl,rfl,rfl⟩:=agg3_inj e3
  refine ⟨l,(s,xs,ys),rfl,⟨_,_,_,rfl,rd,r2⟩,fun t ht=>?_,?_,?_⟩
  ·have:=hb t ht
   simp only [Rows.uptoBulk,Rows.uptoBulkAll]
   omega
  ·simp only [Rows.uptoBulk,Rows.uptoBulkAll,bN]
   omega
  ·simp only [Rows.uptoBulk,Rows.uptoBulkAll]
   omega

end Go.Proofs.YtdooldpgnjmpfaaGreatDoor
