/- A group of texts: Srt, PInts, PCanon, PBothC, RowApp -/
import Derived.Test.YtdooldpgnjmpfaaGreatDoorPartAH
import Derived.Test.YtdooldpgnjmpfaaGreatDoorPartAG
import Derived.Sort.OwnSortedInts
import Derived.Lib.SortBridge
import Derived.Shelf.SlSortCmp.NoneTotal
import Derived.Test.YtdooldpgnjmpfaaGreatDoorPartAI
import Derived.Test.YtdooldpgnjmpfaaGreatDoorPartAJ
import Derived.Test.YtdooldpgnjmpfaaGreatDoorPartAC
namespace Go.Att
open Go.RowKit Go.Sort Go.Proofs

def InL (z:Int):Prop := -9223372036854775808 < z∧z < 9223372036854775808
abbrev LitZ:={z:Int // InL z}
instance:Inhabited LitZ:=⟨⟨0,by unfold InL;omega⟩⟩
def encL (x:LitZ):Value:=.int .i64 x.1
def ordS (x y:LitZ):Int:=ord x.1 y.1
theorem swoS:SWO (ltOf ordS):=⟨fun x=>ltl_irr x.1,fun _ _ _ h1 h2=>ltl_trans h1 h2,fun x y z h1 h2=>swo_ord.ntrans x.1 y.1 z.1 h1 h2⟩
theorem totS (x y:LitZ) (h1:ltOf ordS x y=false) (h2:ltOf ordS y x=false):x=y:=Subtype.ext (ltl_tot h1 h2)
theorem srt_val (d:List LitZ):(d.mergeSort fun x y=>!ltOf ordS y x).map Subtype.val=srt (d.map Subtype.val):=List.map_mergeSort fun _ _ _ _=>rfl
def lits (l:List Int) (h:∀ z∈l,InL z):List LitZ:=l.attach.map fun z=>⟨z.1,h z.1 z.2⟩
theorem lits_val (l:List Int) (h:∀ z∈l,InL z):(lits l h).map Subtype.val=l:=by
 unfold lits
 rw [List.map_map]
 exact List.attach_map_subtype_val l
theorem lits_len (l:List Int) (h:∀ z∈l,InL z):(lits l h).length=l.length:=by
 unfold lits
 simp
theorem enc_val (d:List LitZ):d.map encL=(d.map Subtype.val).map (Value.int .i64):=by rw [List.map_map];rfl
theorem ownI_cells {e:TypeId} {B:Nat} {w:World} {v:Value} {l:List Int} (h:OwnRow 1 IntT e B w v l):w.ownsRow B e 1 v l.length (l.map (Value.int .i64)):=by
 obtain ⟨E,h1,h2⟩:=h
 have:E.flatten=l.map (Value.int .i64):=by
  clear h1
  induction l generalizing E with
  | nil=>cases E with
   | nil=>rfl
   | cons _ _=>exact h2.elim
  | cons a l ih=>cases E with
   | nil=>exact h2.elim
   | cons c E=>
    rw [List.flatten_cons,ih E h2.2,cells_I h2.1.2]
    rfl
 rwa [this] at h1
theorem sing_flat:∀ l:List Int,(l.map fun z=>[Value.int .i64 z]).flatten=l.map (Value.int .i64)
 | []=>rfl
 | _ :: l=>by rw [List.map_cons,List.flatten_cons,sing_flat l];rfl
theorem sing_pw (w:World):∀ l:List Int,Pw 1 (fun c a=>IntT w (.agg c.toArray) a) (l.map fun z=>[Value.int .i64 z]) l
 | []=>trivial
 | _ :: l=>⟨⟨rfl,rfl⟩,sing_pw w l⟩
theorem ownI_of {e:TypeId} {B:Nat} {w:World} {v:Value} {l:List Int} (h:w.ownsRow B e 1 v l.length (l.map (Value.int .i64))):OwnRow 1 IntT e B w v l:=
 ⟨l.map fun z=>[.int .i64 z],by rw [sing_flat];exact h,sing_pw w l⟩
theorem RdRow.ints {w:World} {b off n c:Nat} {l:List Int} (h:RdRow 1 IntT w (.slice (some ⟨b,off,none⟩) n c) l) (j:Nat) (hj:j < l.length):w.cell? ⟨b,off+j,none⟩=some (.int .i64 (l.getD j 0)):=by
 rw [h.int j hj,List.getD_eq_getElem?_getD,List.getElem?_eq_getElem hj]
 rfl
theorem RdRow.ofInts {w:World} {b off n c:Nat} {l:List Int} (hn:n=l.length) (h1:l.length≤c) (h2:c≤maxLen) (h:∀ j (hj:j < l.length),w.cell? ⟨b,off+j,none⟩=some (.int .i64 l[j])):RdRow 1 IntT w (.slice (some ⟨b,off,none⟩) n c) l:=by
 subst hn
 refine ⟨l.map fun z=>[.int .i64 z],?_,sing_pw w l⟩
 rw [sing_flat]
 refine ⟨by simp,some ⟨b,off,none⟩,c,rfl,h1,h2,?_,?_⟩
 ·intro h;cases h
 ·intro i hi
  have hi':i < l.length:=by simpa using hi
  exact ⟨b,off,rfl,by rw [h i hi',List.getElem?_map,List.getElem?_eq_getElem hi'];rfl⟩
theorem own_sorted {e:TypeId} {B g cap n:Nat} {w:World} {os:Array Obj} {cur:Array Value} {l:List Int} {ds:List LitZ} (hB:B≤g) (hb:w.heap[g]?=some (.cells cur e (0,0))) (h1:l.length≤cap) (h2:cap≤maxLen) (h3:cur.size=cap*1) (h4:cur.toList.take l.length=l.map (Value.int .i64)) (hd:ds.map Subtype.val=l):
  OwnRow 1 IntT e B (sortWorld encL w g 0 n (ds.mergeSort fun x y=>!ltOf ordS y x).toArray os) (.slice (some ⟨g,0,none⟩) l.length cap) (srt l)∧w.grownBy (sortWorld encL w g 0 n (ds.mergeSort fun x y=>!ltOf ordS y x).toArray os) (some g):=by
 have hH:Holds (Value.int .i64) w g 0 l.toArray:=holds_of_blockI hb h4
 have hS:Holds encL w g 0 ds.toArray:=fun j hj=>by
  have hj':j < ds.length:=by simpa using hj
  have hl:l.length=ds.length:=by rw [← hd,List.length_map]
  have:=hH j (by simpa [hl] using hj')
  refine ⟨?_,this.2⟩
  rw [this.1]
  subst hd
  simp [encL,getElem!_pos,hj']
 have he:sortWorld encL w g 0 n (ds.mergeSort fun x y=>!ltOf ordS y x).toArray os=grow (putRow (Value.int .i64) (Sort.ahead w n) g 0 (srt l).toArray) os:=by
  unfold sortWorld
  have k1:=Lib.sorted_world encL w g 0 n ds.toArray (ds.mergeSort fun x y=>!ltOf ordS y x) os hS (by simp [List.length_mergeSort])
  have k2:=Lib.sorted_world (Value.int .i64) w g 0 n l.toArray (srt l) os hH (by simp [srt_len])
  rw [k1,k2,enc_val,srt_val,hd]
 rw [he]
 refine ⟨?_,grownBy_sortedI _⟩
 have:=ownsRow_sortedI (n:=n) (os:=os) (ss:=l) (ts:=srt l) (srt_len l) hB hb h1 h2 h3
 rw [← srt_len l] at this
 have h5:=ownI_of this
 rwa [srt_len l] at h5
end Go.Att

namespace Go.Proofs.YtdooldpgnjmpfaaGreatDoor
open Go.RowKit Go.Att Go.Sort Go.Proofs

theorem nilrow {α:Type} {k:Nat} {T:World→Value→α→Prop} {w:World} {n c:Nat} {l:List α} (h:RdRow k T w (.slice none n c) l) (_:0 < k):l=[]∧n=0∧c=0:=by
 obtain ⟨E,⟨h0,a,c',he,h1,h2,h3,h4⟩,hp⟩:=h
 simp only [Value.slice.injEq] at he
 obtain ⟨rfl,rfl,rfl⟩:=he
 have hc:=h3 rfl
 have:l.length=0:=by omega
 exact ⟨List.eq_nil_of_length_eq_zero this,this,hc⟩
set_option maxHeartbeats 1000000 in
theorem clone_ints {w:World} {a:Option Addr} {n c:Nat} {l:List Int} (h:RdRow 1 IntT w (.slice a n c) l) (hb:l.length*8≤140737488355328):
  Calls Tryz.prog 56 #[.slice a n c] w (Gives w fun v' w'=>OwnRow 1 IntT 3 w.heap.size w' v' l):=by
 have hn:n=l.length:=by obtain ⟨a',c',he,-⟩:=h.shape;simp at he;omega
 subst hn
 cases a with
 | none=>
  obtain ⟨rfl,-,rfl⟩:=nilrow h (by decide)
  exact (Any.slices_Clone_int_nil Tryz.lays2_15 0 0 w).mono fun e w' ⟨he,hw⟩=>by
   subst he hw
   exact Gives.mk (Ext.refl _) (OwnRow.nil _ _ _)
 | some ad=>
  rcases Nat.eq_zero_or_pos l.length with h0 | h0
  ·obtain rfl:=List.eq_nil_of_length_eq_zero h0
   exact (Any.slices_Clone_int_zero Tryz.lays2_15 ad c w).mono fun e w' ⟨v',he,ho,_,hb⟩=>by
    subst he
    exact Gives.mk hb (ownI_of ho)
  ·obtain ⟨b,off,he⟩:=h.some_atI (i:=0) h0
   simp only [Option.some.injEq] at he
   subst he
   exact (Any.slices_Clone_int Tryz.lays2_15 b off l.length c l w (Nat.le_refl _) hb h.ints).mono fun e w' ⟨v',he,ho,_,hb⟩=>by
    subst he
    rw [List.take_length] at ho
    exact Gives.mk hb (ownI_of ho)
theorem cmpReads (blk off size:Nat) (w:World):CmpReads Tryz.prog 58 #[] encL ordS blk off size w:=fun m os dk _ x y=>
 (order_val (x:=x.1) (y:=y.1) ⟨by have:=x.2.1;omega,x.2.2⟩ ⟨by have:=y.2.1;omega,y.2.2⟩ _).mono fun e w' ⟨he,hw⟩=>⟨he,0,hw⟩
set_option maxHeartbeats 1000000 in
theorem sort_ints {w:World} {v:Value} {B:Nat} {l:List Int} (h:OwnRow 1 IntT 3 B w v l) (hl:∀ z∈l,InL z) (hn:l.length < 4611686018427387904):
  Calls Tryz.prog 57 #[v,.func (.func 58) #[] #[]] w (fun e w'=>e=.returned (.tuple #[])∧OwnRow 1 IntT 3 B w' v (srt l)∧w.grownBy w' v.ownBlock):=by
 have h0:=ownI_cells h
 obtain ⟨hlen,h1⟩:=h0
 rcases h1 with ⟨rfl,hnil⟩ | ⟨g,cap,cur,rfl,hB,hh,h1,h2,h3,h4⟩
 ·have hz:l=[]:=List.eq_nil_of_length_eq_zero hnil
  subst hz
  exact (AnyF.slices_SortFunc_none (P:=Tryz.prog) (ρ:=Tryz.laysF6_ren) { Tryz.laysF6 with } none 0 (.func (.func 58) #[] #[]) w).mono fun e w' ⟨he,hw⟩=>by
   subst he hw
   exact ⟨rfl,by rw [srt,List.mergeSort_nil];exact OwnRow.nil _ _ _,World.grownBy.refl _ _⟩
 ·have eg:∀ args w,(callFunc 58 args).run Tryz.prog w=.ok (.enter 58 args) w:=enters_of Tryz.func58 (by kernel_rfl) rfl
  have h4':cur.toList.take l.length=l.map (Value.int .i64):=by rw [Nat.mul_one] at h4;exact h4
  have hH:Holds encL w g 0 (lits l hl).toArray:=fun j hj=>by
   have hj':j < l.length:=by rw [← lits_len l hl];simpa using hj
   have:=holds_of_blockI hh h4' j (by simpa using hj')
   refine ⟨?_,this.2⟩
   rw [this.1]
   simp [encL,lits,getElem!_pos,hj']
  have hS:=Any.slices_SortFunc_total Tryz.laysF6 encL (fun _=>rfl) ordS swoS 58 #[] g 0 cap (lits l hl).toArray w eg (cmpReads g 0 _ w).lays hH (Array.getElem?_eq_some_iff.1 hh).1 (by simpa [lits_len] using hn) totS
  have hsz:(lits l hl).toArray.size=l.length:=by simp [lits_len]
  rw [hsz] at hS
  exact hS.mono fun e w' ⟨he,n,os,hw⟩=>by
   subst hw
   have:=own_sorted (n:=n) (os:=os) hB hh h1 h2 h3 h4' (lits_val l hl)
   exact ⟨he,this.1,this.2⟩
set_option maxHeartbeats 1000000 in
theorem compact_ints {w:World} {v:Value} {B:Nat} {l:List Int} (h:OwnRow 1 IntT 3 B w v l):
  Calls Tryz.prog 60 #[v] w (fun e w'=>∃ v',e=.returned v'∧OwnRow 1 IntT 3 B w' v' (cmpc l)∧v'.ownBlock=v.ownBlock∧w.grownBy w' v.ownBlock):=by
 have h0:=ownI_cells h
 obtain ⟨hlen,h1⟩:=h0
 rcases h1 with ⟨rfl,hnil⟩ | ⟨g,cap,cur,rfl,hB,hh,h1,h2,h3,h4⟩
 ·have hz:l=[]:=List.eq_nil_of_length_eq_zero hnil
  subst hz
  exact (Any.slices_Compact_int_empty Tryz.lays2_20 none 0 w).mono fun e w' ⟨he,hw⟩=>by
   subst he hw
   exact ⟨_,rfl,OwnRow.nil _ _ _,rfl,World.grownBy.refl _ _⟩
 ·have h4':cur.toList.take l.length=l.map (Value.int .i64):=by rw [Nat.mul_one] at h4;exact h4
  have hH:=holds_of_blockI hh h4'
  have hM:maxLen≤9223372036854775807:=by decide
  refine (Any.slices_Compact_int Tryz.lays2_20 g 0 cap l w hH (by omega) h1).mono fun e w' ⟨he,q,hw⟩=>?_
  subst he hw
  rw [compact_cmpc]
  have hle:=cmpc_len l
  have hl2:(cmpc l ++ List.replicate (l.length - (cmpc l).length) 0).length=l.length:=by rw [List.length_append,List.length_replicate];omega
  obtain ⟨zs,hzs⟩:∃ zs,cmpc l ++ List.replicate (l.length - (cmpc l).length) 0=zs:=⟨_,rfl⟩
  have htk:zs.take (cmpc l).length=cmpc l:=by rw [← hzs,List.take_append_of_le_length (Nat.le_refl _),List.take_length]
  rw [hzs] at hl2 ⊢
  have ho:(putRow (Value.int .i64) (Sort.ahead w q) g 0 zs.toArray).ownsRow B 3 1 (.slice (some ⟨g,0,none⟩) (cmpc l).length cap) (cmpc l).length ((cmpc l).map (Value.int .i64)):=by
   refine ⟨by simp,.inr ⟨g,cap,putCells (Value.int .i64) 0 zs.toArray cur,rfl,hB,?_,by omega,h2,?_,?_⟩⟩
   ·have:=heap_sortedI (w:=w) (g:=g) (n:=q) (os:=#[]) zs.toArray hh
    rwa [grow_empty] at this
   ·simp [putCells,h3]
   ·have:=take_putCellsI cur zs (by rw [hl2,h3];omega)
    rw [hl2] at this
    have h5:=congrArg (List.take (cmpc l).length) this
    rw [List.take_take,Nat.min_eq_left hle,← List.map_take,htk] at h5
    rw [Nat.mul_one]
    exact h5
  refine ⟨_,rfl,ownI_of ho,rfl,?_⟩
  have:=grownBy_sortedI (w:=w) (g:=g) (n:=q) (os:=#[]) zs.toArray
  rwa [grow_empty] at this
set_option maxRecDepth 100000 in
set_option maxHeartbeats 1000000 in
theorem clip_any {w:World} {a:Option Addr} {n c:Nat} (h:n≤c) (ha:a=none→c=0):
  Calls Tryz.prog 59 #[.slice a n c] w (fun e w'=>e=.returned (.slice a n n)∧w'=w):=by
 refine via fun R hR=>?_
 go_enter Tryz.func59,Tryz.ntmps59
 cases a with
 | none=>
  obtain rfl:=ha rfl
  obtain rfl:n=0:=by omega
  go_wp2_with fail
  exact hR.out _ _ ⟨rfl,rfl⟩
 | some a=>
  go_wp2_with fail
  exact hR.out _ _ ⟨rfl,rfl⟩
set_option maxHeartbeats 1000000 in
theorem equal_ints {w:World} {v v':Value} {l m:List Int} (h:RdRow 1 IntT w v l) (h':RdRow 1 IntT w v' m):
  Calls Tryz.prog 37 #[v,v'] w (Gives w fun u _=>u=.bool (l == m)):=by
 obtain ⟨a,c,rfl,g1,g2⟩:=h.shape
 obtain ⟨a',c',rfl,g1',g2'⟩:=h'.shape
 have hM:maxLen≤9223372036854775807:=by decide
 rcases Nat.eq_zero_or_pos l.length with h0 | h0
 ·obtain rfl:=List.eq_nil_of_length_eq_zero h0
  exact (Any.slices_Equal_int_empty Tryz.lays111 a a' c m.length c' w (by omega)).mono fun e w' ⟨he,hw⟩=>by
   subst he hw
   refine Gives.mk (Ext.refl _) ?_
   cases m <;> rfl
 ·obtain ⟨b,off,he⟩:=h.some_atI (i:=0) h0
  subst he
  rcases Nat.eq_zero_or_pos m.length with h1 | h1
  ·obtain rfl:=List.eq_nil_of_length_eq_zero h1
   exact (Any.slices_Equal_int_lens Tryz.lays111 (some ⟨b,off,none⟩) a' l.length c 0 c' w (by omega)).mono fun e w' ⟨he,hw⟩=>by
    subst he hw
    refine Gives.mk (Ext.refl _) ?_
    cases l with
    | nil=>simp at h0
    | cons _ _=>rfl
  ·obtain ⟨b',off',he⟩:=h'.some_atI (i:=0) h1
   subst he
   exact (Any.slices_Equal_int Tryz.lays111 b off l.length c b' off' m.length c' l m w (Nat.le_refl _) (Nat.le_refl _) (by omega) (by omega) h.ints h'.ints).mono fun e w' ⟨he,q,hw⟩=>by
    subst he hw
    rw [List.take_length,List.take_length]
    exact Gives.mk (Ext.grown ⟨rfl,rfl,rfl,Nat.le_refl _,fun _ _ _=>rfl⟩) rfl
theorem contains_ints {w:World} {v:Value} {l:List Int} {x:Int} (h:RdRow 1 IntT w v l):
  Calls Tryz.prog 99 #[v,.int .i64 x] w (fun e w'=>e=.returned (.bool (l.contains x))∧w'=w):=by
 obtain ⟨a,c,rfl,g1,g2⟩:=h.shape
 have hM:maxLen≤9223372036854775807:=by decide
 rcases Nat.eq_zero_or_pos l.length with h0 | h0
 ·obtain rfl:=List.eq_nil_of_length_eq_zero h0
  exact (Any.slices_Contains_int_empty Tryz.lays107 a c x w).mono fun e w' ⟨he,hw⟩=>⟨he,hw⟩
 ·obtain ⟨b,off,he⟩:=h.some_atI (i:=0) h0
  subst he
  have:=Any.slices_Contains_int Tryz.lays107 b off l.length c l x w (Nat.le_refl _) (by omega) h.ints
  rw [List.take_length] at this
  exact this
open Go.RowKit Go.Att

theorem own_ge {α:Type} {k:Nat} {T:World→Value→α→Prop} {e:TypeId} {B:Nat} {w:World} {v:Value} {l:List α} (h:OwnRow k T e B w v l):∀ g,v.ownBlock=some g→B≤g:=fun g hg=>by
 obtain ⟨E,⟨-,h1⟩,-⟩:=h
 rcases h1 with ⟨rfl,-⟩ | ⟨g',cap,cur,rfl,hB,-⟩
 ·cases hg
 ·have:g'=g:=by simpa [Value.ownBlock] using hg
  omega
theorem own_clip {e:TypeId} {B:Nat} {w:World} {a:Option Addr} {n c:Nat} {l:List Int} (h:OwnRow 1 IntT e B w (.slice a n c) l):TyRow 1 IntT e w (.slice a n n) l∧n≤c∧(a=none→c=0):=by
 have h0:=ownI_cells h
 obtain ⟨hlen,h1⟩:=h0
 rcases h1 with ⟨he,hnil⟩ | ⟨g,cap,cur,he,hB,hh,h1,h2,h3,h4⟩
 ·simp only [Value.slice.injEq] at he
  obtain ⟨rfl,rfl,rfl⟩:=he
  obtain rfl:=List.eq_nil_of_length_eq_zero hnil
  exact ⟨TyRow.nil _ _,Nat.le_refl _,fun _=>rfl⟩
 ·simp only [Value.slice.injEq] at he
  obtain ⟨rfl,rfl,rfl⟩:=he
  refine ⟨⟨RdRow.ofInts rfl (Nat.le_refl _) (by omega) fun j hj=>h.rd.int j hj,fun g' hg'=>?_⟩,h1,fun h=>by cases h⟩
  have:g=g':=by simpa [Value.ownBlock] using hg'
  subst this
  exact ⟨cur,hh⟩
def CanonR (l:List Int) (v':Value) (w':World):Prop:=
 ∃ a n c e,v'=.tuple #[.slice a n c,.int .i64 e]∧(e=4∧(∃ z∈l,szl z=0)∨e=0∧n=(cnL l).length∧(∀ z∈l,szl z≠0)∧TyRow 1 IntT 3 w' (.slice a n c) (cnL l))
set_option maxRecDepth 100000 in
set_option linter.unusedSimpArgs false in
set_option maxHeartbeats 4000000 in
theorem ccanon_any {w:World} {v:Value} {l:List Int} (h:RdRow 1 IntT w v l) (hl:∀ z∈l,In64 z) (hb:l.length*8≤140737488355328):
  Calls Tryz.prog 34 #[v] w (Gives w (CanonR l)):=by
 refine via fun R hR=>?_
 obtain ⟨a,c,rfl,g1,g2⟩:=h.shape
 have HC:=fun (w':World) (x:Ext w w')=>clone_ints (h.ext (fun h _=>h) x) hb
 have HCL:=Lib.hid HC
 have HV:=Lib.hid h
 have HL:=Lib.hid hl
 have HB:=Lib.hid hb
 clear HC h hl hb g1 g2
 obtain ⟨n,hn⟩:∃ n,l.length=n:=⟨_,rfl⟩
 have HN:=Lib.hid hn
 rw [hn] at HV HCL HB ⊢
 clear hn
 go_enter Tryz.func34,Tryz.ntmps34
 go_wp2_with fail
 go_loopw [9] (fun t wr=>∃ j:Nat,t=.int .i64 j∧j≤n∧wr=w∧Hid (∀ i (h:i < l.length),i < j→szl l[i]≠0)) (fun t _=>n - (intOf t).toNat)
 case atStart=>exact ⟨0,rfl,Nat.zero_le _,rfl,fun i _ h=>absurd h (Nat.not_lt_zero _)⟩
 case round=>
  obtain ⟨j,rfl,hj,hX,hP⟩:=hrel
  subst hX
  by_cases hjn:j < n
  ·have hd:decide ((j:Int) < (n:Int))=true:=decide_eq_true (by omega)
   have HJ2:(0:Int)≤(j:Int)∧(j:Int) < (n:Int):=⟨by omega,by omega⟩
   have HJ1:IntKind.i64.wrap ((j:Int)+1)=((j+1:Nat):Int):=by have:=HB.out;rw [IntKind.wrap_i64];omega
   have hjl:j < l.length:=by rw [HN.out];exact hjn
   have HV':=HV.out
   obtain ⟨b,off,he⟩:=HV'.some_atI hjl
   subst he
   have hc:=HV'.int j hjl
   have HZ:=Lib.hid (HL.out _ (List.getElem_mem hjl))
   have HGO:Hid (szl l[j]≠0→∀ i (h:i < l.length),i < j+1→szl l[i]≠0):=fun g i h hi=>by
    by_cases he:i=j
    ·subst he;exact g
    ·exact hP.out i h (by omega)
   have HBAD:Hid (szl l[j]=0→∃ z∈l,szl z=0):=fun g=>⟨_,List.getElem_mem hjl,g⟩
   obtain ⟨z,hz⟩:∃ z,l[j]=z:=⟨_,rfl⟩
   rw [hz] at hc HZ HGO HBAD
   clear hz HV' hjl
   have HS:=Lib.hid (fun W=>size_val HZ.out W)
   obtain ⟨s,hs⟩:∃ s,szl z=s:=⟨_,rfl⟩
   rw [hs] at HGO HBAD HS
   clear hs HZ
   by_cases h0:s=0
   ·subst h0
    have HE:=Lib.hid (HBAD.out rfl)
    clear HBAD HGO
    go_wp2_with (go_at_call 55;refine (HS.out _).mono ?_;rintro e w' ⟨rfl,rfl⟩)
    exact hR.out _ _ (Gives.mk (Ext.refl _) ⟨_,_,_,4,rfl,.inl ⟨rfl,HE.out⟩⟩)
   ·have HG:=Lib.hid (HGO.out h0)
    have hd0:(s == 0)=false:=beq_false_of_ne h0
    have hd1:decide (s=0)=false:=decide_eq_false h0
    clear HBAD HGO
    go_wp2_with (go_at_call 55;refine (HS.out _).mono ?_;rintro e w' ⟨rfl,rfl⟩)
    go_roundw
    case rel=>exact ⟨j+1,by go_num,by omega,by first | rfl | trivial,HG.out⟩
    case measure=>simp [intOf] <;> omega
  ·obtain rfl:j=n:=by omega
   have hd:decide ((j:Int) < (j:Int))=false:=decide_eq_false (by omega)
   have HALL:Hid (∀ z∈l,szl z≠0):=fun z hz=>by
    obtain ⟨i,hi,rfl⟩:=List.getElem_of_mem hz
    exact hP.out i hi (by rw [← HN.out];exact hi)
   have HIN:Hid (∀ z∈l,InL z):=fun z hz=>by
    have h1:=HALL.out z hz
    have h2:=HL.out z hz
    obtain ⟨h3,h4⟩:=h2
    refine ⟨?_,h4⟩
    rcases Int.lt_or_eq_of_le h3 with h5 | h5
    ·exact h5
    ·exact absurd (by unfold szl;rw [if_pos h5.symm]) h1
   clear hP
   go_upto_region 8 with (go_at_call 56;refine (HCL.out _ (Ext.refl _)).mono ?_;rintro e w1 ⟨v1,rfl,X1,O1⟩)
   clear HCL HV hd
   have HSO:=Lib.hid (sort_ints O1 HIN.out (by have:=HB.out;have:=HN.out;omega))
   have BLK:=Lib.hid (own_ge O1)
   have X1':=Lib.hid X1
   clear O1 X1
   go_upto_region 9 with (go_at_call 57;refine HSO.out.mono ?_;rintro e w2 ⟨rfl,O2,G2⟩)
   have X2:=Lib.hid (X1'.out.grown G2 X1'.out.size BLK.out)
   have BLK2:=Lib.hid (own_ge O2)
   have HCO:=Lib.hid (compact_ints O2)
   clear HSO O2 G2 X1' BLK
   go_wp2_with (first
    | (go_at_call 60;refine HCO.out.mono ?_;rintro e w3 ⟨v3,rfl,O3,B3,G3⟩;obtain ⟨a3,c3,rfl,-,-⟩:=O3.rd.shape;have K3:=own_clip O3;have X3:=Lib.hid (X2.out.grown G3 X2.out.size BLK2.out);clear G3 O3 B3)
    | (go_at_call 59;refine (clip_any K3.2.1 K3.2.2).mono ?_;rintro e w4 ⟨rfl,rfl⟩))
   exact hR.out _ _ (Gives.mk X3.out ⟨_,_,_,0,rfl,.inr ⟨rfl,rfl,HALL.out,K3.1⟩⟩)
open Go.RowKit Go.Att

theorem tyx {e:TypeId} {w w':World} {v:Value} {l:List Int} (h:TyRow 1 IntT e w v l) (x:Ext w w'):TyRow 1 IntT e w' v l:=h.ext (fun h _=>h) x
def BothR (a b:List Int) (v':Value) (w':World):Prop:=
 ∃ p n c q m k e,v'=.tuple #[.slice p n c,.slice q m k,.int .i64 e]∧(e=4∨e=0∧n=(cnL a).length∧m=(cnL b).length∧(∀ z∈a,szl z≠0)∧(∀ z∈b,szl z≠0)∧TyRow 1 IntT 3 w' (.slice p n c) (cnL a)∧TyRow 1 IntT 3 w' (.slice q m k) (cnL b))
set_option maxRecDepth 100000 in
set_option linter.unusedSimpArgs false in
set_option maxHeartbeats 4000000 in
theorem cboth_any {w:World} {va vb:Value} {a b:List Int} (ha:RdRow 1 IntT w va a) (hb:RdRow 1 IntT w vb b) (la:∀ z∈a,In64 z) (lb:∀ z∈b,In64 z) (na:a.length*8≤140737488355328) (nb:b.length*8≤140737488355328):
  Calls Tryz.prog 98 #[va,vb] w (Gives w (BothR a b)):=by
 refine via fun R hR=>?_
 have H1:Hid (∀ w',Ext w w'→Calls Tryz.prog 34 #[va] w' (Gives w' (CanonR a))):=fun w' x=>ccanon_any (ha.ext (fun h _=>h) x) la na
 have H2:Hid (∀ w',Ext w w'→Calls Tryz.prog 34 #[vb] w' (Gives w' (CanonR b))):=fun w' x=>ccanon_any (hb.ext (fun h _=>h) x) lb nb
 clear ha hb la lb na nb
 go_enter Tryz.func98,Tryz.ntmps98
 go_upto_region 2 with (go_at_call 34;refine (H1.out _ (Ext.refl _)).mono ?_;rintro e w1 ⟨v1,rfl,X1,p,n,c,e1,rfl,G1⟩;have G1:=Lib.hid G1;have X1:=Lib.hid X1)
 rcases G1.out with ⟨rfl,-⟩ | ⟨rfl,rfl,Z1,T1⟩
 ·go_wp2_with fail
  refine bodyPost_ret (v:=.tuple #[.slice none 0 0,.slice none 0 0,.int .i64 4]) (by simp [results,Tryz.results98,go_sem]) rfl ?_
  exact hR.out _ _ (Gives.mk X1.out ⟨_,_,_,_,_,_,4,rfl,.inl rfl⟩)
 ·have T1':=Lib.hid T1
  have Z1':=Lib.hid Z1
  clear G1 T1 Z1
  go_upto_region 5 with (go_at_call 34;refine (H2.out _ X1.out).mono ?_;rintro e w2 ⟨v2,rfl,X2,q,m,k,e2,rfl,G2⟩;have G2:=Lib.hid G2;have X2:=Lib.hid X2)
  rcases G2.out with ⟨rfl,-⟩ | ⟨rfl,rfl,Z2,T2⟩
  ·go_wp2_with fail
   refine bodyPost_ret (v:=.tuple #[.slice none 0 0,.slice none 0 0,.int .i64 4]) (by simp [results,Tryz.results98,go_sem]) rfl ?_
   exact hR.out _ _ (Gives.mk (Ext.trans X1.out X2.out) ⟨_,_,_,_,_,_,4,rfl,.inl rfl⟩)
  ·have T2':=Lib.hid T2
   have Z2':=Lib.hid Z2
   clear G2 T2 Z2
   go_wp2_with fail
   refine bodyPost_ret (v:=.tuple #[.slice p (cnL a).length c,.slice q (cnL b).length k,.int .i64 0]) (by simp [results,Tryz.results98,go_sem]) rfl ?_
   exact hR.out _ _ (Gives.mk (Ext.trans X1.out X2.out) ⟨_,_,_,_,_,_,0,rfl,.inr ⟨rfl,rfl,rfl,Z1'.out,Z2'.out,tyx T1'.out X2.out,T2'.out⟩⟩)
end Go.Proofs.YtdooldpgnjmpfaaGreatDoor

namespace Go.Att
open Go.RowKit

theorem Pw.ones {α:Type} {k:Nat} {R:List Value→α→Prop} (hR:∀ c a,R c a→∀ u∈c,u.oneCell'=true):∀ {E:List (List Value)} {l:List α},Pw k R E l→∀ u∈E.flatten,u.oneCell'=true
 | [],[],_,u,hu=>by simp at hu
 | c :: _,_ :: _,h,u,hu=>by
  rw [List.flatten_cons] at hu
  rcases List.mem_append.1 hu with hu | hu
  ·exact hR _ _ h.1.2 u hu
  ·exact Pw.ones hR h.2 u hu
 | [],_ :: _,h,_,_=>h.elim
 | _ :: _,[],h,_,_=>h.elim
theorem append_rowA {α:Type} {P:Program} {w:World} {o:Oper} {a:Act} {K:Act→World→Prop} {Q:Exit→Act→World→Prop} {t e:TypeId} {z:Value} {size bytes:Nat} (ET:ElemT P t e z size bytes) {T:World→Value→α→Prop} (hT:Kd e T)
  (s x:Operand) (ho:o.op=.call { callee:=.builtin .append,args:=#[s,x],argTypes:=#[t,t] }) (B:Nat) {v:Value} {l m:List α} (hs:a.eval s=v)
  (hown:OwnRow size T e B w v l) {v2:Value} (hx:a.eval x=v2) (hr:RdRow size T w v2 m) (hl:(l.length+m.length)*bytes≤140737488355328) (hm:l.length+m.length≤maxLen) (hB:B≤w.heap.size)
  (h:∀ v' w',OwnRow size T e B w' v' (l ++ m)→Below B w w'→w.grownBy w' v.ownBlock→K (a.put o.dst v') w'):o.wp P a w K Q:=by
 obtain ⟨E,hE,hP⟩:=hown
 obtain ⟨F,hF,hPF⟩:=hr
 refine append_rdK ET s x ho B hs hE hx hF (hPF.ones fun c a h=>hT.one h) hl hm hB ?_
 intro v' w' o' b' g'
 refine h v' w' ⟨E ++ F,?_,(hP.mono fun _ _ h=>hT.grown h hE g').app (hPF.mono fun _ _ h=>hT.grown h hE g')⟩ b' g'
 rw [List.length_append,List.flatten_append]
 exact o'
theorem append_rowAL {α:Type} {P:Program} {w:World} {ops:Array Oper} {rest:List Oper} {o:Oper} {a:Act} {Q:Exit→Act→World→Prop} {t e:TypeId} {z:Value} {size bytes:Nat} (ET:ElemT P t e z size bytes) {T:World→Value→α→Prop} (hT:Kd e T)
  (hgd:Region.wanted o (yielded ops a.tmps)=true) (s x:Operand) (ho:o.op=.call { callee:=.builtin .append,args:=#[s,x],argTypes:=#[t,t] }) (B:Nat) {v:Value} {l m:List α} (hs:a.eval s=v)
  (hown:OwnRow size T e B w v l) {v2:Value} (hx:a.eval x=v2) (hr:RdRow size T w v2 m) (hl:(l.length+m.length)*bytes≤140737488355328) (hm:l.length+m.length≤maxLen) (hB:B≤w.heap.size)
  (h:∀ v' w',OwnRow size T e B w' v' (l ++ m)→Below B w w'→w.grownBy w' v.ownBlock→wpList P ops Q rest (a.put o.dst v') w'):wpList P ops Q (o :: rest) a w:=
 wpList_want hgd fun _ hK=>append_rowA ET hT s x ho B hs hown hx hr hl hm hB fun v' w' a1 a2 a3=>hK _ _ (h v' w' a1 a2 a3)
end Go.Att
