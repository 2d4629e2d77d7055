/- A group of texts: NetP, NetS, NetQ, Fm, Fm2 -/
import Derived.Test.YtmlhccajicmpfaaGreatSq
import Derived.Test.YtmlhccajicmpfaaGreatNet
import Derived.Test.YtmlhccajicmpfaaGreatPartBG
import Derived.Test.YtmlhccajicmpfaaGreatPartBD
import Derived.Test.YtmlhccajicmpfaaGreatPartBB
set_option maxHeartbeats 40000000
set_option maxRecDepth 100000
set_option linter.unusedSimpArgs false
namespace Go.Att

def mapLay {ν μ:Type} (f:ν→μ) (l:Lay ν):Lay μ:=⟨l.K,l.W.map (·.map f),l.B.map f,l.G⟩
def mapNet {ν μ:Type} (f:ν→μ) (n:Nt ν):Nt μ:=(n.1,n.2.map (mapLay f))
def litL {ν:Type} (l:Lay ν):Prop:=(l.W.length≤4∧l.B.length≤5∧l.G.length≤4)∧(∀ r∈l.W,r.length≤5)∧∀ g∈l.G,g.length≤4
def lit {ν:Type} (n:Nt ν):Prop:=n.1≤4∧n.2.length≤3∧∀ l∈n.2,litL l
theorem lit.map {ν μ:Type} {f:ν→μ} {n:Nt ν} (h:lit n):lit (mapNet f n):=by
 obtain ⟨h1,h2,h3⟩:=h
 refine ⟨h1,by simpa [mapNet] using h2,fun l hl=>?_⟩
 obtain ⟨m,hm,rfl⟩:=List.mem_map.1 hl
 obtain ⟨⟨a,b,c⟩,d,e⟩:=h3 m hm
 refine ⟨⟨by simpa [mapLay] using a,by simpa [mapLay] using b,c⟩,fun r hr=>?_,e⟩
 obtain ⟨s,hs,rfl⟩:=List.mem_map.1 hr
 simpa using d s hs

noncomputable def wdt {ν:Type} (l:Lay ν) (w:Int):Int:=
 open Classical in
 if l.K=1 then (if l.B.length=l.W.length∧∀ r∈l.W,(r.length:Int)=w then l.W.length else 0)
 else if l.K=2 then w
 else if l.K=3 then (if ∀ g∈l.G,g≠[]∧∀ i∈g,0≤i∧i < w then l.G.length else 0)
 else 0
noncomputable def wds {ν:Type}:List (Lay ν)→Int→Int
 | [],w=>w
 | l :: ls,w=>if 0 < w then wds ls (wdt l w) else w
theorem wds_take {ν:Type}:∀ (ls:List (Lay ν)) (w:Int) (k:Nat) (h:k < ls.length),wds (ls.take (k+1)) w=if 0 < wds (ls.take k) w then wdt ls[k] (wds (ls.take k) w) else wds (ls.take k) w
 | l :: ls,w,0,h=>by simp [wds]
 | l :: ls,w,k+1,h=>by
  have ih:=wds_take ls (wdt l w) k (by simpa using h)
  simp only [List.take_succ_cons,List.getElem_cons_succ,wds]
  split
  ·exact ih
  rfl
theorem wds_pos {ν:Type}:∀ {ls:List (Lay ν)} {w:Int},0 < wds ls w→∀ k,k≤ls.length→0 < wds (ls.take k) w
 | [],w,h,k,hk=>by simpa [wds] using h
 | l :: ls,w,h,0,hk=>by
  unfold wds at h
  split at h
  ·simpa [wds]
  simpa [wds] using h
 | l :: ls,w,h,k+1,hk=>by
  unfold wds at h
  split at h
  ·rename_i hw
   rw [List.take_succ_cons,wds,if_pos hw]
   exact wds_pos h k (by simpa using hk)
  rename_i hw
  exact absurd h hw
theorem wdt_at {ν:Type} {ls:List (Lay ν)} {w:Int} (h:0 < wds ls w) (k:Nat) (hk:k < ls.length):wds (ls.take (k+1)) w=wdt ls[k] (wds (ls.take k) w)∧0 < wdt ls[k] (wds (ls.take k) w):=by
 have h1:=wds_take ls w k hk
 have h2:=wds_pos h k oM
 have h3:=wds_pos h (k+1) oM
 rw [if_pos h2] at h1
 exact ⟨h1,h1 ▸ h3⟩
end Go.Att

namespace Go.Proofs.YtmlhccajicmpfaaGreat
open Go.RowKit Go.Att

theorem getD_lt {α:Type} {l:List α} {i:Nat} {d:α} (h:i < l.length):l.getD i d=l[i]:=by
 rw [List.getD_eq_getElem?_getD,List.getElem?_eq_getElem h,Option.getD_some]
theorem getD_ge {α:Type} {l:List α} {i:Nat} {d:α} (h:l.length≤i):l.getD i d=d:=by
 rw [List.getD_eq_getElem?_getD,List.getElem?_eq_none h,Option.getD_none]
def pick (x:List (Rat × Rat)) (g:List Int):List (Rat × Rat):=g.map fun i=>x.getD i.toNat (0,0)
def stepS (l:Lay Rat) (x:List (Rat × Rat)):List (Rat × Rat):=
 if l.K=1 then (l.W.zip l.B).map fun p=>wfold (p.1.zip x) (p.2,p.2)
 else if l.K=2 then x.map fun s=>(mx s.1 0,mx s.2 0)
 else l.G.map fun g=>mxs (pick x g) ((pick x g).getD 0 (0,0))
def xat (ls:List (Lay Rat)) (x:List (Rat × Rat)) (i:Nat):List (Rat × Rat):=(ls.take i).foldl (fun x l=>stepS l x) x
theorem xat_succ {ls:List (Lay Rat)} {x:List (Rat × Rat)} {i:Nat} (h:i < ls.length):xat ls x (i+1)=stepS ls[i] (xat ls x i):=by
 unfold xat
 rw [← List.take_append_getElem h,List.foldl_append]
 rfl
theorem wdt_cases {ν:Type} {l:Lay ν} {w:Int} (h:0 < wdt l w):(l.K=1∧l.B.length=l.W.length∧(∀ r∈l.W,(r.length:Int)=w)∧0 < l.W.length∧wdt l w=l.W.length)∨(l.K=2∧wdt l w=w)∨(l.K=3∧(∀ g∈l.G,g≠[]∧∀ i∈g,0≤i∧i < w)∧0 < l.G.length∧wdt l w=l.G.length):=by
 unfold wdt at h ⊢
 by_cases h1:l.K=1
 ·rw [if_pos h1] at h ⊢
  split at h
  ·rename_i h2
   rw [if_pos h2]
   exact .inl ⟨h1,h2.1,h2.2,by omega,rfl⟩
  omega
 rw [if_neg h1] at h ⊢
 by_cases h2:l.K=2
 ·rw [if_pos h2]
  exact .inr (.inl ⟨h2,rfl⟩)
 rw [if_neg h2] at h ⊢
 by_cases h3:l.K=3
 ·rw [if_pos h3] at h ⊢
  split at h
  ·rename_i h4
   rw [if_pos h4]
   exact .inr (.inr ⟨h3,h4,by omega,rfl⟩)
  omega
 rw [if_neg h3] at h
 omega
theorem stepS_len {l:Lay Rat} {x:List (Rat × Rat)} {w:Int} (h:0 < wdt l w) (hx:(x.length:Int)=w):((stepS l x).length:Int)=wdt l w:=by
 unfold stepS
 rcases wdt_cases h with ⟨h1,h2,-,-,h5⟩ | ⟨h1,h5⟩ | ⟨h1,-,-,h5⟩
 ·rw [if_pos h1,h5,List.length_map,List.length_zip]
  omega
 ·rw [if_neg oM,if_pos h1,h5,List.length_map,hx]
 rw [if_neg oM,if_neg oM,h5,List.length_map]
theorem take_next {α:Type} {l:List α} {j:Nat} {y:α} (h:j < l.length) (he:l[j]=y):l.take (j+1)=l.take j ++ [y]:=by
 rw [← he,List.take_append_getElem h]
theorem stepS_one {l:Lay Rat} {x:List (Rat × Rat)} (hK:l.K=1) (hB:l.B.length=l.W.length):(stepS l x).length=l.W.length∧∀ j (h:j < l.W.length) (h2:j < l.B.length),(stepS l x).take (j+1)=(stepS l x).take j ++ [wfold (l.W[j].zip x) (l.B[j],l.B[j])]:=by
 have hs:stepS l x=(l.W.zip l.B).map fun p=>wfold (p.1.zip x) (p.2,p.2):=if_pos hK
 rw [hs]
 refine ⟨by rw [List.length_map,List.length_zip];omega,fun j h h2=>take_next (by rw [List.length_map,List.length_zip];omega) ?_⟩
 rw [List.getElem_map,List.getElem_zip]
theorem stepS_two {l:Lay Rat} {x:List (Rat × Rat)} (hK:l.K=2):(stepS l x).length=x.length∧∀ j (h:j < x.length),(stepS l x).take (j+1)=(stepS l x).take j ++ [(mx x[j].1 0,mx x[j].2 0)]:=by
 have hs:stepS l x=x.map fun s=>(mx s.1 0,mx s.2 0):=by unfold stepS;rw [if_neg oM,if_pos hK]
 rw [hs]
 refine ⟨by rw [List.length_map],fun j h=>take_next (by rw [List.length_map];exact h) ?_⟩
 rw [List.getElem_map]
theorem stepS_three {l:Lay Rat} {x:List (Rat × Rat)} (hK:l.K=3):(stepS l x).length=l.G.length∧∀ j (h:j < l.G.length),(stepS l x).take (j+1)=(stepS l x).take j ++ [mxs (pick x l.G[j]) ((pick x l.G[j]).getD 0 (0,0))]:=by
 have hs:stepS l x=l.G.map fun g=>mxs (pick x g) ((pick x g).getD 0 (0,0)):=by unfold stepS;rw [if_neg oM,if_neg oM]
 rw [hs]
 refine ⟨by rw [List.length_map],fun j h=>take_next (by rw [List.length_map];exact h) ?_⟩
 rw [List.getElem_map]
theorem pick_len {x:List (Rat × Rat)} {g:List Int}:(pick x g).length=g.length:=List.length_map ..
theorem pick_take {x:List (Rat × Rat)} {g:List Int} {j k:Nat} (h:j < g.length) (hk:g[j]=(k:Int)) (hx:k < x.length):(pick x g).take (j+1)=(pick x g).take j ++ [x[k]]:=by
 refine take_next (by rw [pick_len];exact h) ?_
 unfold pick
 rw [List.getElem_map,hk,Int.toNat_natCast,getD_lt hx]
theorem wds_le {ν:Type} {ls:List (Lay ν)} {w:Int} (h:0 < wds ls w) (hw:w≤4) (hl:∀ l∈ls,litL l):∀ i,i≤ls.length→wds (ls.take i) w≤4
 | 0,_=>by simpa [wds] using hw
 | i+1,hi=>by
  obtain ⟨h1,h2⟩:=wdt_at h i oM
  have ih:=wds_le h hw hl i oM
  rw [h1]
  obtain ⟨⟨a,b,c⟩,-,-⟩:=hl ls[i] (List.getElem_mem _)
  rcases wdt_cases h2 with ⟨-,-,-,-,e⟩ | ⟨-,e⟩ | ⟨-,-,-,e⟩ <;> rw [e] <;> omega
theorem xat_len {ls:List (Lay Rat)} {w:Int} {x:List (Rat × Rat)} (h:0 < wds ls w) (hx:(x.length:Int)=w):∀ i,i≤ls.length→((xat ls x i).length:Int)=wds (ls.take i) w
 | 0,_=>by simpa [wds,xat] using hx
 | i+1,hi=>by
  obtain ⟨h1,h2⟩:=wdt_at h i oM
  rw [xat_succ oM,h1]
  exact stepS_len h2 (xat_len h hx i oM)
def SzR (C:Nat) (x:List (Rat × Rat)):Prop:=∀ p∈x,Sz C p.1∧Sz C p.2
def SzL (l:Lay Rat):Prop:=(∀ r∈l.W,∀ p∈r,Sz 8 p)∧∀ p∈l.B,Sz 8 p
theorem SzR.le {C D:Nat} {x:List (Rat × Rat)} (h:SzR C x) (hD:C≤D):SzR D x:=fun p hp=>⟨(h p hp).1.le hD,(h p hp).2.le hD⟩
theorem SzR.getD {C:Nat} {x:List (Rat × Rat)} (h:SzR C x) (hC:1≤C) (i:Nat):Sz C (x.getD i (0,0)).1∧Sz C (x.getD i (0,0)).2:=by
 rcases Nat.lt_or_ge i x.length with hi | hi
 ·rw [getD_lt hi]
  exact h _ (List.getElem_mem hi)
 rw [getD_ge hi]
 exact ⟨Sz.zero.le hC,Sz.zero.le hC⟩
theorem SzR.pick {C:Nat} {x:List (Rat × Rat)} (h:SzR C x) (hC:1≤C) (g:List Int):SzR C (pick x g):=fun p hp=>by
 obtain ⟨i,-,rfl⟩:=List.mem_map.1 hp
 exact h.getD hC _
theorem stepS_sz {l:Lay Rat} {x:List (Rat × Rat)} {w:Int} {C:Nat} (h:0 < wdt l w) (hx:(x.length:Int)=w) (hw:w≤4) (hl:SzL l) (hs:SzR C x):SzR (4*C+44) (stepS l x):=by
 unfold stepS
 rcases wdt_cases h with ⟨h1,h2,h3,-,-⟩ | ⟨h1,-⟩ | ⟨h1,-,-,-⟩
 ·rw [if_pos h1]
  intro p hp
  obtain ⟨z,hz,rfl⟩:=List.mem_map.1 hp
  obtain ⟨k1,k2⟩:=List.of_mem_zip hz
  obtain ⟨r1,r2⟩:=wfold_sz (z.1.zip x) (z.2,z.2) 8 (fun y hy=>⟨hl.1 _ k1 _ (List.of_mem_zip hy).1,hs _ (List.of_mem_zip hy).2⟩) ⟨hl.2 _ k2,hl.2 _ k2⟩
  have hle:8+(C+9)*(z.1.zip x).length≤4*C+44:=by
   have h5:(z.1.zip x).length≤4:=by rw [List.length_zip];omega
   have:=Nat.mul_le_mul_left (C+9) h5
   omega
  exact ⟨r1.le hle,r2.le hle⟩
 ·rw [if_neg oM,if_pos h1]
  intro p hp
  obtain ⟨z,hz,rfl⟩:=List.mem_map.1 hp
  have hle:C≤4*C+44:=by omega
  exact ⟨mx_cases _ ((hs z hz).1.le hle) (Sz.zero.le oM),mx_cases _ ((hs z hz).2.le hle) (Sz.zero.le oM)⟩
 rw [if_neg oM,if_neg oM]
 intro p hp
 obtain ⟨g,-,rfl⟩:=List.mem_map.1 hp
 have hk:=(hs.le (D:=4*C+44) oM).pick oM g
 exact mxs_all (Sz (4*C+44)) _ _ (hk.getD oM 0) hk
def cN:Nat→Nat
 | 0=>8
 | i+1=>4*cN i+44
theorem xat_sz {ls:List (Lay Rat)} {w:Int} {x:List (Rat × Rat)} (h:0 < wds ls w) (hx:(x.length:Int)=w) (hw:w≤4) (hl:∀ l∈ls,litL l) (hz:∀ l∈ls,SzL l) (hs:SzR 8 x):∀ i,i≤ls.length→SzR (cN i) (xat ls x i)
 | 0,_=>by simpa [cN,xat] using hs
 | i+1,hi=>by
  obtain ⟨h1,h2⟩:=wdt_at h i oM
  rw [xat_succ oM]
  exact stepS_sz h2 (xat_len h hx i oM) (wds_le h hw hl i oM) (hz _ (List.getElem_mem _)) (xat_sz h hx hw hl hz hs i oM)
theorem cN_le {i:Nat} (h:i≤2):cN i≤348:=by
 match i,h with
 | 0,_=>decide
 | 1,_=>decide
 | 2,_=>decide
theorem cN_le3 {i:Nat} (h:i≤3):cN i≤1436:=by
 match i,h with
 | 0,_=>decide
 | 1,_=>decide
 | 2,_=>decide
 | 3,_=>decide
noncomputable def thrE (n:Nt Rat) (x:List (Rat × Rat)):Int:=
 open Classical in
 if 0 < wds n.2 n.1 then (if (x.length:Int)=n.1 then (if ∀ s∈x,s.1≤s.2 then 0 else 4) else 1) else 4
def thrL (ls:List (Lay Rat)) (x:List (Rat × Rat)) (k:Nat):List (List (Rat × Rat)):=(List.range k).map (xat ls x)
theorem thrL_succ {ls:List (Lay Rat)} {x:List (Rat × Rat)} {k:Nat}:thrL ls x (k+1)=thrL ls x k ++ [xat ls x k]:=by
 unfold thrL
 rw [List.range_succ,List.map_append]
 rfl
theorem thrL_len {ls:List (Lay Rat)} {x:List (Rat × Rat)} {k:Nat}:(thrL ls x k).length=k:=by
 unfold thrL
 rw [List.length_map,List.length_range]
open Go.RowKit Go.Att

theorem one_nlt (n:NN):Nlt 1000000000 (oneN n):=by
 have h:∀ xs:List Nat,(lowl 65536 xs).length≤1:=fun xs=>by
  cases xs with
  | nil=>exact Nat.zero_le _
  | cons x xs=>exact Nat.le_refl _
 exact ⟨Nat.le_trans (h _) dC,Nat.le_trans (h _) dC⟩
theorem one_sz (n:NN):Sz 8 (qN (oneN n)):=by
 obtain ⟨h1,h2⟩:=one_lo n
 exact ⟨(limbs_len _ 8).2 (Nat.lt_of_lt_of_le h1 (by decide +kernel)),(limbs_len _ 8).2 (Nat.lt_of_lt_of_le h2 (by decide +kernel))⟩
def netQ (n:Nt NN):Nt Rat:=mapNet qN (mapNet oneN n)
theorem netQ_lit {n:Nt NN} (h:lit n):lit (netQ n):=h.map.map
theorem netQ_sz (n:Nt NN):∀ l∈(netQ n).2,SzL l:=by
 intro l hl
 obtain ⟨l1,h1,rfl⟩:=List.mem_map.1 hl
 obtain ⟨l2,h2,rfl⟩:=List.mem_map.1 h1
 refine ⟨fun r hr p hp=>?_,fun p hp=>?_⟩
 ·obtain ⟨r1,hr1,rfl⟩:=List.mem_map.1 hr
  obtain ⟨r2,hr2,rfl⟩:=List.mem_map.1 hr1
  obtain ⟨p1,hp1,rfl⟩:=List.mem_map.1 hp
  obtain ⟨p2,hp2,rfl⟩:=List.mem_map.1 hp1
  exact one_sz _
 obtain ⟨p1,hp1,rfl⟩:=List.mem_map.1 hp
 obtain ⟨p2,hp2,rfl⟩:=List.mem_map.1 hp1
 exact one_sz _
theorem netO_nlt (n:Nt NN):∀ l∈(mapNet oneN n).2,(∀ r∈l.W,∀ p∈r,Nlt 1000000000 p)∧∀ p∈l.B,Nlt 1000000000 p:=by
 intro l h1
 obtain ⟨l2,h2,rfl⟩:=List.mem_map.1 h1
 refine ⟨fun r hr p hp=>?_,fun p hp=>?_⟩
 ·obtain ⟨r2,hr2,rfl⟩:=List.mem_map.1 hr
  obtain ⟨p2,hp2,rfl⟩:=List.mem_map.1 hp
  exact one_nlt _
 obtain ⟨p2,hp2,rfl⟩:=List.mem_map.1 hp
 exact one_nlt _
end Go.Proofs.YtmlhccajicmpfaaGreat

namespace Go.Att
open Go.RowKit

inductive Fm where
 | mk (k a:Int) (sub:List Fm)
def Fm.k:Fm→Int | .mk k _ _=>k
def Fm.a:Fm→Int | .mk _ a _=>a
def Fm.sub:Fm→List Fm | .mk _ _ l=>l
instance:Inhabited Fm:=⟨.mk 0 0 []⟩
def RdFn:Nat→World→Value→Fm→Prop
 | 0=>fun _ _ _=>False
 | n+1=>fun w v f=>∃ s,v=.agg #[.int .i64 f.k,.int .i64 f.a,s]∧RdRow 3 (RdFn n) w s f.sub
def RdFm (w:World) (v:Value) (f:Fm):Prop:=∃ n,RdFn n w v f
section
variable {w w':World} {v:Value} {f:Fm} {n:Nat}
theorem RdFn.ext:∀ {n:Nat} {v:Value} {f:Fm},RdFn n w v f→Ext w w'→RdFn n w' v f
 | 0,_,_,h,_=>h.elim
 | n+1,_,_,h,x=>by
  obtain ⟨s,rfl,h⟩:=h
  obtain ⟨E,h1,h2⟩:=h
  exact ⟨s,rfl,E,h1.ext x,h2.mono fun _ _ h=>RdFn.ext h x⟩
theorem RdFm.ext (h:RdFm w v f) (x:Ext w w'):RdFm w' v f:=by
 obtain ⟨n,h⟩:=h
 exact ⟨n,h.ext x⟩
theorem RdFn.op (h:RdFn (n+1) w v f):∃ a c,v=.agg #[.int .i64 f.k,.int .i64 f.a,.slice a f.sub.length c]∧RdRow 3 (RdFn n) w (.slice a f.sub.length c) f.sub:=by
 obtain ⟨s,rfl,h⟩:=h
 obtain ⟨a,c,rfl,-,-⟩:=h.shape
 exact ⟨a,c,rfl,h⟩
theorem RdFm.op (h:RdFm w v f):∃ a c n,v=.agg #[.int .i64 f.k,.int .i64 f.a,.slice a f.sub.length c]∧RdRow 3 (RdFn n) w (.slice a f.sub.length c) f.sub:=by
 obtain ⟨n,h⟩:=h
 cases n with
 | zero=>exact h.elim
 | succ n=>
  obtain ⟨a,c,he,h⟩:=h.op
  exact ⟨a,c,n,he,h⟩
theorem RdRow.part {a:Option Addr} {m c:Nat} {l:List Fm} (h:RdRow 3 (RdFn n) w (.slice a m c) l) (i:Nat) (hi:i < l.length):
  ∃ b off x k,a=some ⟨b,off,none⟩∧Bo w b (off+i*3) [.int .i64 l[i].k,.int .i64 l[i].a,.slice x l[i].sub.length k]∧RdFn n w (.agg #[.int .i64 l[i].k,.int .i64 l[i].a,.slice x l[i].sub.length k]) l[i]:=by
 obtain ⟨b1,o1,cs,he,hl,hT,hc⟩:=h.at dC i hi
 cases n with
 | zero=>exact hT.elim
 | succ n=>
  obtain ⟨x,k,hv,h2⟩:=hT.op
  have hcs:cs=[.int .i64 l[i].k,.int .i64 l[i].a,.slice x l[i].sub.length k]:=by simpa using hv
  subst hcs
  exact ⟨b1,o1,x,k,he,Bo.of hc,_,rfl,h2⟩
end

mutual
def cntF:Fm→Int→Int→Int
 | .mk _ _ l,n,d=>if 200 < d then 20001 else cntL l (n+1) (d+1)
def cntL:List Fm→Int→Int→Int
 | [],n,_=>n
 | f :: l,n,d=>if 20000 < n then n else cntL l (cntF f n d) d
end
mutual
def ovrF:Fm→Int→Int
 | .mk _ _ l,d=>if 200 < d then -1 else ovrL l 1 (d+1)
def ovrL:List Fm→Int→Int→Int
 | [],n,_=>n
 | f :: l,n,d=>if ovrF f d < 0∨20000 < n+ovrF f d then -1 else ovrL l (n+ovrF f d) d
end
mutual
def frmF:Fm→Int→Bool
 | .mk k a l,n=>if k=1 then (decide (0≤a) && decide (a < n)) && l.isEmpty else if k=5∨k=6 then l.isEmpty else if k=2 then decide (l.length=1) && frmL l n else if k=3∨k=4 then frmL l n else false
def frmL:List Fm→Int→Bool
 | [],_=>true
 | f :: l,n=>frmF f n && frmL l n
end
theorem cntL_big {d:Int}:∀ (l:List Fm) (k:Int),20000 < k→20000 < cntL l k d
 | [],k,h=>by unfold cntL;exact h
 | f :: l,k,h=>by unfold cntL;rw [if_pos h];exact h
mutual
theorem cnt_ovr:∀ (f:Fm) (n d:Int),0≤n→n≤20000→(ovrF f d < 0→20000 < cntF f n d)∧(0≤ovrF f d→1≤ovrF f d∧(n+ovrF f d≤20000→cntF f n d=n+ovrF f d)∧(20000 < n+ovrF f d→20000 < cntF f n d))
 | .mk k a l,n,d,h0,h1=>by
  unfold ovrF cntF
  by_cases hd:200 < d
  ·rw [if_pos hd,if_pos hd]
   exact ⟨fun _=>by omega,fun h=>by omega⟩
  rw [if_neg hd,if_neg hd]
  obtain ⟨h2,h3⟩:=cnt_ovrL l 1 n (d+1) oM h0
  exact ⟨h2,fun h=>⟨(h3 h).1,(h3 h).2⟩⟩
theorem cnt_ovrL:∀ (l:List Fm) (m n d:Int),1≤m→0≤n→(ovrL l m d < 0→20000 < cntL l (n+m) d)∧(0≤ovrL l m d→m≤ovrL l m d∧(n+ovrL l m d≤20000→cntL l (n+m) d=n+ovrL l m d)∧(20000 < n+ovrL l m d→20000 < cntL l (n+m) d))
 | [],m,n,d,h0,h1=>by
  unfold ovrL cntL
  exact ⟨fun h=>by omega,fun _=>⟨by omega,fun _=>rfl,fun h=>h⟩⟩
 | f :: l,m,n,d,h0,h1=>by
  unfold ovrL cntL
  by_cases hk:20000 < n+m
  ·rw [if_pos hk]
   refine ⟨fun _=>hk,fun h=>?_⟩
   by_cases hb:ovrF f d < 0∨20000 < m+ovrF f d
   ·rw [if_pos hb] at h;omega
   rw [if_neg hb] at h ⊢
   have hf:=(cnt_ovr f 0 d oM oM).2 oM
   have hl:=((cnt_ovrL l (m+ovrF f d) n d oM h1).2 h).1
   exact ⟨by omega,fun h=>by omega,fun _=>hk⟩
  rw [if_neg hk]
  obtain ⟨f1,f2⟩:=cnt_ovr f (n+m) d oM oM
  by_cases hb:ovrF f d < 0∨20000 < m+ovrF f d
  ·rw [if_pos hb]
   refine ⟨fun _=>cntL_big _ _ ?_,fun h=>by omega⟩
   by_cases hn:ovrF f d < 0
   ·exact f1 hn
   exact (f2 oM).2.2 oM
  rw [if_neg hb]
  obtain ⟨f3,f4,f5⟩:=f2 oM
  obtain ⟨l1,l2⟩:=cnt_ovrL l (m+ovrF f d) n d oM h1
  by_cases hq:n+m+ovrF f d≤20000
  ·rw [f4 hq,show n+m+ovrF f d=n+(m+ovrF f d) by omega]
   exact ⟨l1,fun h=>⟨by have:=(l2 h).1;omega,(l2 h).2⟩⟩
  have hc:=cntL_big (d:=d) l _ (f5 oM)
  exact ⟨fun _=>hc,fun h=>⟨by have:=(l2 h).1;omega,fun h3=>by have:=(l2 h).1;omega,fun _=>hc⟩⟩
end
theorem ovrL_le {d:Int}:∀ (l:List Fm) (m:Int),m≤20000→ovrL l m d≤20000
 | [],m,h=>by unfold ovrL;exact h
 | f :: l,m,h=>by
  unfold ovrL
  by_cases hb:ovrF f d < 0∨20000 < m+ovrF f d
  ·rw [if_pos hb];omega
  rw [if_neg hb];exact ovrL_le l _ oM
theorem ovrF_le {d:Int} (f:Fm):ovrF f d≤20000:=by
 cases f with
 | mk k a l=>
  unfold ovrF
  split
  ·omega
  exact ovrL_le l 1 oM
theorem cnt_iff (f:Fm):20000 < cntF f 0 1↔ovrF f 1 < 0:=by
 obtain ⟨h1,h2⟩:=cnt_ovr f 0 1 oM oM
 refine ⟨fun h=>?_,h1⟩
 by_cases hn:ovrF f 1 < 0
 ·exact hn
 exfalso
 obtain ⟨h3,h4,h5⟩:=h2 oM
 have hq:=ovrF_le (d:=1) f
 have:=h4 oM
 omega

mutual
def szF:Fm→Int
 | .mk _ _ l=>1+szL l
def szL:List Fm→Int
 | []=>0
 | f :: l=>szF f+szL l
end
mutual
theorem szF_pos:∀ f:Fm,1≤szF f
 | .mk _ _ l=>by unfold szF;have:=szL_pos l;omega
theorem szL_pos:∀ l:List Fm,0≤szL l
 | []=>by unfold szL;omega
 | f :: l=>by unfold szL;have:=szF_pos f;have:=szL_pos l;omega
end
mutual
def tldF:Fm→Int→Fm × Int
 | .mk k a l,m=>(.mk k a (tldL l (m - 1)).1,(tldL l (m - 1)).2)
def tldL:List Fm→Int→List Fm × Int
 | [],m=>([],m)
 | f :: l,m=>if m≤0 then ([],m) else ((tldF f m).1 :: (tldL l (tldF f m).2).1,(tldL l (tldF f m).2).2)
end
mutual
theorem tldF_sz:∀ (f:Fm) (m:Int),1≤m→0≤(tldF f m).2∧szF (tldF f m).1=m - (tldF f m).2∧((tldF f m).1=f∨(tldF f m).2=0)
 | .mk k a l,m,h=>by
  obtain ⟨h1,h2,h3⟩:=tldL_sz l (m - 1) oM
  unfold tldF szF
  refine ⟨h1,by simp only;omega,?_⟩
  rcases h3 with h3 | h3
  ·left;simp only [h3]
  right;exact h3
theorem tldL_sz:∀ (l:List Fm) (m:Int),0≤m→0≤(tldL l m).2∧szL (tldL l m).1=m - (tldL l m).2∧((tldL l m).1=l∨(tldL l m).2=0)
 | [],m,h=>by
  unfold tldL szL
  exact ⟨h,by simp,Or.inl rfl⟩
 | f :: l,m,h=>by
  unfold tldL
  by_cases hm:m≤0
  ·rw [if_pos hm]
   unfold szL
   exact ⟨h,by simp,Or.inr (by simp only;omega)⟩
  rw [if_neg hm]
  obtain ⟨h1,h2,h3⟩:=tldF_sz f m oM
  obtain ⟨g1,g2,g3⟩:=tldL_sz l (tldF f m).2 h1
  refine ⟨g1,by unfold szL;simp only;omega,?_⟩
  rcases g3 with g3 | g3
  ·rcases h3 with h3 | h3
   ·left;simp only [h3,g3]
   right
   simp only
   have:=szL_pos (tldL l (tldF f m).2).1
   omega
  right;exact g3
end
mutual
theorem ovr_sz:∀ (f:Fm) (d:Int),0≤ovrF f d→ovrF f d=szF f
 | .mk k a l,d,h=>by
  unfold ovrF at h ⊢
  unfold szF
  by_cases hd:200 < d
  ·rw [if_pos hd] at h;omega
  rw [if_neg hd] at h ⊢
  have:=ovr_szL l 1 (d+1) oM h
  omega
theorem ovr_szL:∀ (l:List Fm) (n d:Int),0≤n→0≤ovrL l n d→ovrL l n d=n+szL l
 | [],n,d,_,h=>by unfold ovrL szL;omega
 | f :: l,n,d,hn,h=>by
  unfold ovrL at h ⊢
  unfold szL
  by_cases hb:ovrF f d < 0∨20000 < n+ovrF f d
  ·rw [if_pos hb] at h;omega
  rw [if_neg hb] at h ⊢
  have h1:=ovr_sz f d oM
  have h2:=ovr_szL l (n+ovrF f d) d oM h
  omega
end
theorem tld_same {f:Fm} (h:0≤ovrF (tldF f 20002).1 1):(tldF f 20002).1=f:=by
 obtain ⟨h1,h2,h3⟩:=tldF_sz f 20002 oM
 rcases h3 with h3 | h3
 ·exact h3
 exfalso
 have h4:=ovr_sz _ _ h
 have h5:=ovrF_le (d:=1) (tldF f 20002).1
 omega
mutual
def ndsF:Fm→Int→Int
 | .mk _ _ l,m=>ndsL l 1 m
def ndsL:List Fm→Int→Int→Int
 | [],n,_=>n
 | f :: l,n,m=>if m < n then n else ndsL l (n+ndsF f m) m
end
mutual
theorem nds_pos:∀ (f:Fm) (m:Int),1≤ndsF f m
 | .mk _ _ l,m=>by unfold ndsF;exact nds_posL l 1 m
theorem nds_posL:∀ (l:List Fm) (n m:Int),n≤ndsL l n m
 | [],n,m=>by unfold ndsL;omega
 | f :: l,n,m=>by
  unfold ndsL
  split
  ·omega
  have:=nds_pos f m;have:=nds_posL l (n+ndsF f m) m;omega
end
mutual
theorem nds_sz:∀ (f:Fm) (m:Int),ndsF f m≤m→szF f=ndsF f m
 | .mk _ _ l,m,h=>by
  unfold ndsF at h ⊢
  unfold szF
  have:=nds_szL l 1 m oM h
  omega
theorem nds_szL:∀ (l:List Fm) (n m:Int),0≤n→ndsL l n m≤m→n+szL l=ndsL l n m
 | [],n,m,_,h=>by unfold ndsL szL;omega
 | f :: l,n,m,h0,h=>by
  unfold ndsL at h ⊢
  unfold szL
  by_cases hn:m < n
  ·rw [if_pos hn] at h;omega
  rw [if_neg hn] at h ⊢
  have h1:=nds_posL l (n+ndsF f m) m
  have h4:=nds_pos f m
  have h2:=nds_szL l _ _ oM h
  have h3:=nds_sz f m oM
  omega
end
mutual
def sbtF:Fm→List Fm→Fm
 | .mk k a l,fs=>if k=1 then fs[a.toNat]?.getD default else .mk k 0 (sbtL l fs)
def sbtL:List Fm→List Fm→List Fm
 | [],_=>[]
 | f :: l,fs=>sbtF f fs :: sbtL l fs
end
theorem sbtL_length:∀ (l fs:List Fm),(sbtL l fs).length=l.length
 | [],_=>by unfold sbtL;rfl
 | f :: l,fs=>by unfold sbtL;simp [sbtL_length l fs]
theorem sbtL_eq:∀ (l fs:List Fm),sbtL l fs=l.map fun f=>sbtF f fs
 | [],_=>by unfold sbtL;rfl
 | f :: l,fs=>by unfold sbtL;rw [sbtL_eq l fs];rfl
theorem frmF_lit {k a:Int} {l:List Fm} {n:Int} (h:frmF (.mk k a l) n=true) (hk:k=1):0≤a∧a < n∧l=[]:=by
 unfold frmF at h
 rw [if_pos hk] at h
 simp only [Bool.and_eq_true,decide_eq_true_eq,List.isEmpty_iff] at h
 exact ⟨h.1.1,h.1.2,h.2⟩
mutual
theorem sbtF_sz {fs:List Fm} {c:Int} (hfs:∀ g∈fs,szF g≤c) (hc:1≤c):∀ (f:Fm),frmF f fs.length=true→szF (sbtF f fs)≤c*szF f
 | .mk k a l,hf=>by
  unfold sbtF
  by_cases hk:k=1
  ·rw [if_pos hk]
   obtain ⟨h0,h1,rfl⟩:=frmF_lit hf hk
   have h2:a.toNat < fs.length:=by omega
   rw [List.getElem?_eq_getElem h2,Option.getD_some]
   have h3:=hfs _ (List.getElem_mem h2)
   have h4:szF (.mk k a [])=1:=by unfold szF szL;rfl
   rw [h4,Int.mul_one]
   exact h3
  rw [if_neg hk]
  have h1:frmL l fs.length=true∨l=[]:=by
   unfold frmF at hf
   rw [if_neg hk] at hf
   split at hf
   ·right;simpa using hf
   split at hf
   ·left;simp only [Bool.and_eq_true] at hf;exact hf.2
   split at hf
   ·left;exact hf
   cases hf
  have h2:szL (sbtL l fs)≤c*szL l:=by
   rcases h1 with h1 | rfl
   ·exact sbtL_sz hfs hc l h1
   unfold sbtL szL;omega
  unfold szF
  rw [Int.mul_add,Int.mul_one]
  omega
theorem sbtL_sz {fs:List Fm} {c:Int} (hfs:∀ g∈fs,szF g≤c) (hc:1≤c):∀ (l:List Fm),frmL l fs.length=true→szL (sbtL l fs)≤c*szL l
 | [],_=>by unfold sbtL szL;omega
 | f :: l,hf=>by
  unfold frmL at hf
  simp only [Bool.and_eq_true] at hf
  unfold sbtL szL
  have h1:=sbtF_sz hfs hc f hf.1
  have h2:=sbtL_sz hfs hc l hf.2
  rw [Int.mul_add]
  omega
end
mutual
theorem sbtF_frm {fs:List Fm} {m:Int} (hfs:∀ g∈fs,frmF g m=true):∀ (f:Fm),frmF f fs.length=true→frmF (sbtF f fs) m=true
 | .mk k a l,hf=>by
  unfold sbtF
  by_cases hk:k=1
  ·rw [if_pos hk]
   obtain ⟨h0,h1,rfl⟩:=frmF_lit hf hk
   have h2:a.toNat < fs.length:=by omega
   rw [List.getElem?_eq_getElem h2,Option.getD_some]
   exact hfs _ (List.getElem_mem h2)
  rw [if_neg hk]
  unfold frmF at hf ⊢
  rw [if_neg hk] at hf ⊢
  split
  ·rename_i h
   rw [if_pos h] at hf
   rw [List.isEmpty_iff] at hf
   subst hf
   rfl
  rename_i h
  rw [if_neg h] at hf
  split
  ·rename_i h2
   rw [if_pos h2] at hf
   simp only [Bool.and_eq_true,decide_eq_true_eq] at hf ⊢
   exact ⟨by rw [sbtL_length];exact hf.1,sbtL_frm hfs l hf.2⟩
  rename_i h2
  rw [if_neg h2] at hf
  split
  ·rename_i h3
   rw [if_pos h3] at hf
   exact sbtL_frm hfs l hf
  rename_i h3
  rw [if_neg h3] at hf
  cases hf
theorem sbtL_frm {fs:List Fm} {m:Int} (hfs:∀ g∈fs,frmF g m=true):∀ (l:List Fm),frmL l fs.length=true→frmL (sbtL l fs) m=true
 | [],_=>by unfold sbtL frmL;rfl
 | f :: l,hf=>by
  unfold frmL at hf
  simp only [Bool.and_eq_true] at hf
  unfold sbtL frmL
  rw [sbtF_frm hfs f hf.1,sbtL_frm hfs l hf.2]
  rfl
end
mutual
theorem cnt_small:∀ (f:Fm) (n d:Int),0≤n→d+szF f≤201→n+szF f≤20000→cntF f n d=n+szF f
 | .mk _ _ l,n,d,hn,hd,hs=>by
  have hl:=szL_pos l
  unfold szF at hd hs ⊢
  unfold cntF
  rw [if_neg oM,cnt_smallL l (n+1) (d+1) oM oM oM]
  omega
theorem cnt_smallL:∀ (l:List Fm) (n d:Int),0≤n→d+szL l≤201→n+szL l≤20000→cntL l n d=n+szL l
 | [],n,d,_,_,_=>by unfold cntL szL;omega
 | f :: l,n,d,hn,hd,hs=>by
  have hf:=szF_pos f
  have hl:=szL_pos l
  unfold szL at hd hs ⊢
  unfold cntL
  rw [if_neg oM,cnt_small f n d hn oM oM,cnt_smallL l _ d oM oM oM]
  omega
end
end Go.Att
