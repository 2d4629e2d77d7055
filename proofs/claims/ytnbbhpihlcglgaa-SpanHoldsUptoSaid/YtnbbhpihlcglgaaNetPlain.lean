/- A group of texts: NetP, NetS, NetQ -/
import Derived.Test.YtnbbhpihlcglgaaNet
import Derived.Test.YtnbbhpihlcglgaaWeighAll
import Derived.Test.YtnbbhpihlcglgaaPOnes17
import Derived.Test.YtnbbhpihlcglgaaPList17
namespace Go.Att

def mapLay {ν μ:Type} (f:ν→μ) (l:Lay ν):Lay μ:=⟨l.K,l.W.map (·.map f),l.B.map f,l.G⟩
def mapNet {ν μ:Type} (f:ν→μ) (n:Nt ν):Nt μ:=(n.1,n.2.map (mapLay f))
def litL {ν:Type} (l:Lay ν):Prop:=(l.W.length≤4∧l.B.length≤5∧l.G.length≤4)∧(∀ r∈l.W,r.length≤5)∧∀ g∈l.G,g.length≤4
def lit {ν:Type} (n:Nt ν):Prop:=n.1≤4∧n.2.length≤3∧∀ l∈n.2,litL l
theorem lit.map {ν μ:Type} {f:ν→μ} {n:Nt ν} (h:lit n):lit (mapNet f n):=by
 obtain ⟨h1,h2,h3⟩:=h
 refine ⟨h1,by simpa [mapNet] using h2,fun l hl=>?_⟩
 obtain ⟨m,hm,rfl⟩:=List.mem_map.1 hl
 obtain ⟨⟨a,b,c⟩,d,e⟩:=h3 m hm
 refine ⟨⟨by simpa [mapLay] using a,by simpa [mapLay] using b,c⟩,fun r hr=>?_,e⟩
 obtain ⟨s,hs,rfl⟩:=List.mem_map.1 hr
 simpa using d s hs

noncomputable def wdt {ν:Type} (l:Lay ν) (w:Int):Int:=
 open Classical in
 if l.K=1 then (if l.B.length=l.W.length∧∀ r∈l.W,(r.length:Int)=w then l.W.length else 0)
 else if l.K=2 then w
 else if l.K=3 then (if ∀ g∈l.G,g≠[]∧∀ i∈g,0≤i∧i < w then l.G.length else 0)
 else 0
noncomputable def wds {ν:Type}:List (Lay ν)→Int→Int
 | [],w=>w
 | l :: ls,w=>if 0 < w then wds ls (wdt l w) else w
theorem wds_take {ν:Type}:∀ (ls:List (Lay ν)) (w:Int) (k:Nat) (h:k < ls.length),wds (ls.take (k+1)) w=if 0 < wds (ls.take k) w then wdt ls[k] (wds (ls.take k) w) else wds (ls.take k) w
 | l :: ls,w,0,h=>by simp [wds]
 | l :: ls,w,k+1,h=>by
  have ih:=wds_take ls (wdt l w) k (by simpa using h)
  simp only [List.take_succ_cons,List.getElem_cons_succ,wds]
  split
  ·exact ih
  ·rfl
theorem wds_pos {ν:Type}:∀ {ls:List (Lay ν)} {w:Int},0 < wds ls w→∀ k,k≤ls.length→0 < wds (ls.take k) w
 | [],w,h,k,hk=>by simpa [wds] using h
 | l :: ls,w,h,0,hk=>by
  unfold wds at h
  split at h
  ·simpa [wds]
  ·simpa [wds] using h
 | l :: ls,w,h,k+1,hk=>by
  unfold wds at h
  split at h
  ·rename_i hw
   rw [List.take_succ_cons,wds,if_pos hw]
   exact wds_pos h k (by simpa using hk)
  ·rename_i hw
   exact absurd h hw
theorem wdt_at {ν:Type} {ls:List (Lay ν)} {w:Int} (h:0 < wds ls w) (k:Nat) (hk:k < ls.length):wds (ls.take (k+1)) w=wdt ls[k] (wds (ls.take k) w)∧0 < wdt ls[k] (wds (ls.take k) w):=by
 have h1:=wds_take ls w k hk
 have h2:=wds_pos h k (by omega)
 have h3:=wds_pos h (k+1) (by omega)
 rw [if_pos h2] at h1
 exact ⟨h1,h1 ▸ h3⟩
end Go.Att

namespace Go.Proofs.Ytnbbhpihlcglgaa
open Go.RowKit Go.Att

theorem getD_lt {α:Type} {l:List α} {i:Nat} {d:α} (h:i < l.length):l.getD i d=l[i]:=by
 rw [List.getD_eq_getElem?_getD,List.getElem?_eq_getElem h,Option.getD_some]
theorem getD_ge {α:Type} {l:List α} {i:Nat} {d:α} (h:l.length≤i):l.getD i d=d:=by
 rw [List.getD_eq_getElem?_getD,List.getElem?_eq_none h,Option.getD_none]
def pick (x:List (Rat × Rat)) (g:List Int):List (Rat × Rat):=g.map fun i=>x.getD i.toNat (0,0)
def stepS (l:Lay Rat) (x:List (Rat × Rat)):List (Rat × Rat):=
 if l.K=1 then (l.W.zip l.B).map fun p=>wfold (p.1.zip x) (p.2,p.2)
 else if l.K=2 then x.map fun s=>(mx s.1 0,mx s.2 0)
 else l.G.map fun g=>mxs (pick x g) ((pick x g).getD 0 (0,0))
def xat (ls:List (Lay Rat)) (x:List (Rat × Rat)) (i:Nat):List (Rat × Rat):=(ls.take i).foldl (fun x l=>stepS l x) x
theorem xat_succ {ls:List (Lay Rat)} {x:List (Rat × Rat)} {i:Nat} (h:i < ls.length):xat ls x (i+1)=stepS ls[i] (xat ls x i):=by
 unfold xat
 rw [← List.take_append_getElem h,List.foldl_append]
 rfl
theorem xat_zero {ls:List (Lay Rat)} {x:List (Rat × Rat)}:xat ls x 0=x:=rfl
theorem wdt_cases {ν:Type} {l:Lay ν} {w:Int} (h:0 < wdt l w):(l.K=1∧l.B.length=l.W.length∧(∀ r∈l.W,(r.length:Int)=w)∧0 < l.W.length∧wdt l w=l.W.length)∨(l.K=2∧wdt l w=w)∨(l.K=3∧(∀ g∈l.G,g≠[]∧∀ i∈g,0≤i∧i < w)∧0 < l.G.length∧wdt l w=l.G.length):=by
 unfold wdt at h ⊢
 by_cases h1:l.K=1
 ·rw [if_pos h1] at h ⊢
  split at h
  ·rename_i h2
   rw [if_pos h2]
   exact .inl ⟨h1,h2.1,h2.2,by omega,rfl⟩
  ·omega
 ·rw [if_neg h1] at h ⊢
  by_cases h2:l.K=2
  ·rw [if_pos h2]
   exact .inr (.inl ⟨h2,rfl⟩)
  ·rw [if_neg h2] at h ⊢
   by_cases h3:l.K=3
   ·rw [if_pos h3] at h ⊢
    split at h
    ·rename_i h4
     rw [if_pos h4]
     exact .inr (.inr ⟨h3,h4,by omega,rfl⟩)
    ·omega
   ·rw [if_neg h3] at h
    omega
theorem stepS_len {l:Lay Rat} {x:List (Rat × Rat)} {w:Int} (h:0 < wdt l w) (hx:(x.length:Int)=w):((stepS l x).length:Int)=wdt l w:=by
 unfold stepS
 rcases wdt_cases h with ⟨h1,h2,-,-,h5⟩ | ⟨h1,h5⟩ | ⟨h1,-,-,h5⟩
 ·rw [if_pos h1,h5,List.length_map,List.length_zip]
  omega
 ·rw [if_neg (by omega),if_pos h1,h5,List.length_map,hx]
 ·rw [if_neg (by omega),if_neg (by omega),h5,List.length_map]
theorem take_next {α:Type} {l:List α} {j:Nat} {y:α} (h:j < l.length) (he:l[j]=y):l.take (j+1)=l.take j ++ [y]:=by
 rw [← he,List.take_append_getElem h]
theorem stepS_one {l:Lay Rat} {x:List (Rat × Rat)} (hK:l.K=1) (hB:l.B.length=l.W.length):(stepS l x).length=l.W.length∧∀ j (h:j < l.W.length) (h2:j < l.B.length),(stepS l x).take (j+1)=(stepS l x).take j ++ [wfold (l.W[j].zip x) (l.B[j],l.B[j])]:=by
 have hs:stepS l x=(l.W.zip l.B).map fun p=>wfold (p.1.zip x) (p.2,p.2):=if_pos hK
 rw [hs]
 refine ⟨by rw [List.length_map,List.length_zip];omega,fun j h h2=>take_next (by rw [List.length_map,List.length_zip];omega) ?_⟩
 rw [List.getElem_map,List.getElem_zip]
theorem stepS_two {l:Lay Rat} {x:List (Rat × Rat)} (hK:l.K=2):(stepS l x).length=x.length∧∀ j (h:j < x.length),(stepS l x).take (j+1)=(stepS l x).take j ++ [(mx x[j].1 0,mx x[j].2 0)]:=by
 have hs:stepS l x=x.map fun s=>(mx s.1 0,mx s.2 0):=by unfold stepS;rw [if_neg (by omega),if_pos hK]
 rw [hs]
 refine ⟨by rw [List.length_map],fun j h=>take_next (by rw [List.length_map];exact h) ?_⟩
 rw [List.getElem_map]
theorem stepS_three {l:Lay Rat} {x:List (Rat × Rat)} (hK:l.K=3):(stepS l x).length=l.G.length∧∀ j (h:j < l.G.length),(stepS l x).take (j+1)=(stepS l x).take j ++ [mxs (pick x l.G[j]) ((pick x l.G[j]).getD 0 (0,0))]:=by
 have hs:stepS l x=l.G.map fun g=>mxs (pick x g) ((pick x g).getD 0 (0,0)):=by unfold stepS;rw [if_neg (by omega),if_neg (by omega)]
 rw [hs]
 refine ⟨by rw [List.length_map],fun j h=>take_next (by rw [List.length_map];exact h) ?_⟩
 rw [List.getElem_map]
theorem pick_len {x:List (Rat × Rat)} {g:List Int}:(pick x g).length=g.length:=List.length_map ..
theorem pick_take {x:List (Rat × Rat)} {g:List Int} {j k:Nat} (h:j < g.length) (hk:g[j]=(k:Int)) (hx:k < x.length):(pick x g).take (j+1)=(pick x g).take j ++ [x[k]]:=by
 refine take_next (by rw [pick_len];exact h) ?_
 unfold pick
 rw [List.getElem_map,hk,Int.toNat_natCast,getD_lt hx]
theorem wds_le {ν:Type} {ls:List (Lay ν)} {w:Int} (h:0 < wds ls w) (hw:w≤4) (hl:∀ l∈ls,litL l):∀ i,i≤ls.length→wds (ls.take i) w≤4
 | 0,_=>by simpa [wds] using hw
 | i+1,hi=>by
  obtain ⟨h1,h2⟩:=wdt_at h i (by omega)
  have ih:=wds_le h hw hl i (by omega)
  rw [h1]
  obtain ⟨⟨a,b,c⟩,-,-⟩:=hl ls[i] (List.getElem_mem _)
  rcases wdt_cases h2 with ⟨-,-,-,-,e⟩ | ⟨-,e⟩ | ⟨-,-,-,e⟩ <;> rw [e] <;> omega
theorem xat_len {ls:List (Lay Rat)} {w:Int} {x:List (Rat × Rat)} (h:0 < wds ls w) (hx:(x.length:Int)=w):∀ i,i≤ls.length→((xat ls x i).length:Int)=wds (ls.take i) w
 | 0,_=>by simpa [wds,xat] using hx
 | i+1,hi=>by
  obtain ⟨h1,h2⟩:=wdt_at h i (by omega)
  rw [xat_succ (by omega),h1]
  exact stepS_len h2 (xat_len h hx i (by omega))
def SzR (C:Nat) (x:List (Rat × Rat)):Prop:=∀ p∈x,Sz C p.1∧Sz C p.2
def SzL (l:Lay Rat):Prop:=(∀ r∈l.W,∀ p∈r,Sz 8 p)∧∀ p∈l.B,Sz 8 p
theorem SzR.le {C D:Nat} {x:List (Rat × Rat)} (h:SzR C x) (hD:C≤D):SzR D x:=fun p hp=>⟨(h p hp).1.le hD,(h p hp).2.le hD⟩
theorem SzR.getD {C:Nat} {x:List (Rat × Rat)} (h:SzR C x) (hC:1≤C) (i:Nat):Sz C (x.getD i (0,0)).1∧Sz C (x.getD i (0,0)).2:=by
 rcases Nat.lt_or_ge i x.length with hi | hi
 ·rw [getD_lt hi]
  exact h _ (List.getElem_mem hi)
 ·rw [getD_ge hi]
  exact ⟨Sz.zero.le hC,Sz.zero.le hC⟩
theorem SzR.pick {C:Nat} {x:List (Rat × Rat)} (h:SzR C x) (hC:1≤C) (g:List Int):SzR C (pick x g):=fun p hp=>by
 obtain ⟨i,-,rfl⟩:=List.mem_map.1 hp
 exact h.getD hC _
theorem stepS_sz {l:Lay Rat} {x:List (Rat × Rat)} {w:Int} {C:Nat} (h:0 < wdt l w) (hx:(x.length:Int)=w) (hw:w≤4) (hl:SzL l) (hs:SzR C x):SzR (4*C+44) (stepS l x):=by
 unfold stepS
 rcases wdt_cases h with ⟨h1,h2,h3,-,-⟩ | ⟨h1,-⟩ | ⟨h1,-,-,-⟩
 ·rw [if_pos h1]
  intro p hp
  obtain ⟨z,hz,rfl⟩:=List.mem_map.1 hp
  obtain ⟨k1,k2⟩:=List.of_mem_zip hz
  obtain ⟨r1,r2⟩:=wfold_sz (z.1.zip x) (z.2,z.2) 8 (fun y hy=>⟨hl.1 _ k1 _ (List.of_mem_zip hy).1,hs _ (List.of_mem_zip hy).2⟩) ⟨hl.2 _ k2,hl.2 _ k2⟩
  have hle:8+(C+9)*(z.1.zip x).length≤4*C+44:=by
   have h5:(z.1.zip x).length≤4:=by rw [List.length_zip];omega
   have:=Nat.mul_le_mul_left (C+9) h5
   omega
  exact ⟨r1.le hle,r2.le hle⟩
 ·rw [if_neg (by omega),if_pos h1]
  intro p hp
  obtain ⟨z,hz,rfl⟩:=List.mem_map.1 hp
  have hle:C≤4*C+44:=by omega
  exact ⟨mx_cases _ ((hs z hz).1.le hle) (Sz.zero.le (by omega)),mx_cases _ ((hs z hz).2.le hle) (Sz.zero.le (by omega))⟩
 ·rw [if_neg (by omega),if_neg (by omega)]
  intro p hp
  obtain ⟨g,-,rfl⟩:=List.mem_map.1 hp
  have hk:=(hs.le (D:=4*C+44) (by omega)).pick (by omega) g
  exact mxs_all (Sz (4*C+44)) _ _ (hk.getD (by omega) 0) hk
def cN:Nat→Nat
 | 0=>8
 | i+1=>4*cN i+44
theorem xat_sz {ls:List (Lay Rat)} {w:Int} {x:List (Rat × Rat)} (h:0 < wds ls w) (hx:(x.length:Int)=w) (hw:w≤4) (hl:∀ l∈ls,litL l) (hz:∀ l∈ls,SzL l) (hs:SzR 8 x):∀ i,i≤ls.length→SzR (cN i) (xat ls x i)
 | 0,_=>by simpa [cN,xat] using hs
 | i+1,hi=>by
  obtain ⟨h1,h2⟩:=wdt_at h i (by omega)
  rw [xat_succ (by omega)]
  exact stepS_sz h2 (xat_len h hx i (by omega)) (wds_le h hw hl i (by omega)) (hz _ (List.getElem_mem _)) (xat_sz h hx hw hl hz hs i (by omega))
theorem cN_le {i:Nat} (h:i≤2):cN i≤348:=by
 match i,h with
 | 0,_=>decide
 | 1,_=>decide
 | 2,_=>decide
theorem cN_le3 {i:Nat} (h:i≤3):cN i≤1436:=by
 match i,h with
 | 0,_=>decide
 | 1,_=>decide
 | 2,_=>decide
 | 3,_=>decide
noncomputable def thrE (n:Nt Rat) (x:List (Rat × Rat)):Int:=
 open Classical in
 if 0 < wds n.2 n.1 then (if (x.length:Int)=n.1 then (if ∀ s∈x,s.1≤s.2 then 0 else 4) else 1) else 4
def thrL (ls:List (Lay Rat)) (x:List (Rat × Rat)) (k:Nat):List (List (Rat × Rat)):=(List.range k).map (xat ls x)
theorem thrL_succ {ls:List (Lay Rat)} {x:List (Rat × Rat)} {k:Nat}:thrL ls x (k+1)=thrL ls x k ++ [xat ls x k]:=by
 unfold thrL
 rw [List.range_succ,List.map_append]
 rfl
theorem thrL_len {ls:List (Lay Rat)} {x:List (Rat × Rat)} {k:Nat}:(thrL ls x k).length=k:=by
 unfold thrL
 rw [List.length_map,List.length_range]
open Go.RowKit Go.Att

theorem one_nlt (n:NN):Nlt 1000000000 (oneN n):=by
 have h:∀ xs:List Nat,(lowl 65536 xs).length≤1:=fun xs=>by
  cases xs with
  | nil=>exact Nat.zero_le _
  | cons x xs=>exact Nat.le_refl _
 exact ⟨Nat.le_trans (h _) (by decide),Nat.le_trans (h _) (by decide)⟩
theorem one_sz (n:NN):Sz 8 (qN (oneN n)):=by
 obtain ⟨h1,h2⟩:=one_lo n
 exact ⟨(limbs_len _ 8).2 (Nat.lt_of_lt_of_le h1 (by decide +kernel)),(limbs_len _ 8).2 (Nat.lt_of_lt_of_le h2 (by decide +kernel))⟩
def netQ (n:Nt NN):Nt Rat:=mapNet qN (mapNet oneN n)
theorem netQ_lit {n:Nt NN} (h:lit n):lit (netQ n):=h.map.map
theorem netQ_sz (n:Nt NN):∀ l∈(netQ n).2,SzL l:=by
 intro l hl
 obtain ⟨l1,h1,rfl⟩:=List.mem_map.1 hl
 obtain ⟨l2,h2,rfl⟩:=List.mem_map.1 h1
 refine ⟨fun r hr p hp=>?_,fun p hp=>?_⟩
 ·obtain ⟨r1,hr1,rfl⟩:=List.mem_map.1 hr
  obtain ⟨r2,hr2,rfl⟩:=List.mem_map.1 hr1
  obtain ⟨p1,hp1,rfl⟩:=List.mem_map.1 hp
  obtain ⟨p2,hp2,rfl⟩:=List.mem_map.1 hp1
  exact one_sz _
 ·obtain ⟨p1,hp1,rfl⟩:=List.mem_map.1 hp
  obtain ⟨p2,hp2,rfl⟩:=List.mem_map.1 hp1
  exact one_sz _
theorem netO_nlt (n:Nt NN):∀ l∈(mapNet oneN n).2,(∀ r∈l.W,∀ p∈r,Nlt 1000000000 p)∧∀ p∈l.B,Nlt 1000000000 p:=by
 intro l h1
 obtain ⟨l2,h2,rfl⟩:=List.mem_map.1 h1
 refine ⟨fun r hr p hp=>?_,fun p hp=>?_⟩
 ·obtain ⟨r2,hr2,rfl⟩:=List.mem_map.1 hr
  obtain ⟨p2,hp2,rfl⟩:=List.mem_map.1 hp
  exact one_nlt _
 ·obtain ⟨p2,hp2,rfl⟩:=List.mem_map.1 hp
  exact one_nlt _
def spnO (l:List (NN × NN)):List (NN × NN):=(l.take 34).map oneND
def spnQ (l:List (NN × NN)):List (Rat × Rat):=((spnO l).take 34).map qND
theorem spnO_nlt (l:List (NN × NN)):∀ p∈spnO l,Nlt 1000000000 p.1∧Nlt 1000000000 p.2:=by
 intro p hp
 obtain ⟨q,-,rfl⟩:=List.mem_map.1 hp
 exact ⟨one_nlt _,one_nlt _⟩
theorem spnQ_sz (l:List (NN × NN)):SzR 8 (spnQ l):=by
 intro p hp
 obtain ⟨q,hq,rfl⟩:=List.mem_map.1 hp
 obtain ⟨r,-,rfl⟩:=List.mem_map.1 (List.mem_of_mem_take hq)
 exact ⟨one_sz _,one_sz _⟩
theorem spnQ_len (l:List (NN × NN)):(spnQ l).length≤34:=by
 unfold spnQ
 rw [List.length_map,List.length_take]
 omega
end Go.Proofs.Ytnbbhpihlcglgaa
