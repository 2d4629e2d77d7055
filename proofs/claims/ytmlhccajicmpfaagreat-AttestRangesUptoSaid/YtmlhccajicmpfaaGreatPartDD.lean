/- A group of texts: NetV, Keep, PStep15, PTrace -/
import Derived.Test.YtmlhccajicmpfaaGreatSq
import Derived.Test.YtmlhccajicmpfaaGreatPartBH
import Derived.Test.YtmlhccajicmpfaaGreatPartBG
import Derived.Test.YtmlhccajicmpfaaGreatPartBB
import Derived.Test.YtmlhccajicmpfaaGreatPOf15
import Derived.Test.YtmlhccajicmpfaaGreatPartCJ
import Derived.Test.YtmlhccajicmpfaaGreatPartBC
import Derived.Test.YtmlhccajicmpfaaGreatPartDA
import Derived.Test.YtmlhccajicmpfaaGreatPartCC
import Derived.Lib.SliceRun
set_option maxHeartbeats 40000000
set_option maxRecDepth 100000
set_option linter.unusedSimpArgs false
namespace Go.Proofs.YtmlhccajicmpfaaGreat
open Go.RowKit Go.Att

def dotf (l:List (Rat × Rat)) (s:Rat):Rat:=l.foldl (fun s z=>s+z.1*z.2) s
theorem dotf_take {l:List (Rat × Rat)} {k:Nat} (h:k < l.length) (s:Rat):dotf (l.take (k+1)) s=dotf (l.take k) s+l[k].1*l[k].2:=by
 unfold dotf
 rw [← List.take_append_getElem h,List.foldl_append]
 rfl
theorem dotf_sz {C:Nat}:∀ (l:List (Rat × Rat)) (s:Rat) (L:Nat),(∀ z∈l,Sz 8 z.1∧Sz C z.2)→Sz L s→Sz (L+(C+9)*l.length) (dotf l s)
 | [],s,L,_,h=>by simpa [dotf] using h
 | z :: l,s,L,hz,h=>by
  obtain ⟨h1,h2⟩:=hz z List.mem_cons_self
  have ih:=dotf_sz l (s+z.1*z.2) (L+(8+C)+1) (fun y hy=>hz y (List.mem_cons_of_mem _ hy)) (h.add (h1.mul h2))
  have e:L+(8+C)+1+(C+9)*l.length=L+(C+9)*(z :: l).length:=by
   rw [List.length_cons,Nat.mul_succ]
   omega
  rw [← e]
  exact ih
def mxq (l:List Rat) (p:Rat):Rat:=l.foldl mx p
theorem mxq_take {l:List Rat} {k:Nat} (h:k < l.length) (s:Rat):mxq (l.take (k+1)) s=mx (mxq (l.take k) s) l[k]:=by
 unfold mxq
 rw [← List.take_append_getElem h,List.foldl_append]
 rfl
theorem mxq_all (R:Rat→Prop):∀ (l:List Rat) (p:Rat),R p→(∀ s∈l,R s)→R (mxq l p)
 | [],_,h,_=>h
 | s :: l,_,h,hl=>mxq_all R l _ (mx_cases R h (hl s List.mem_cons_self)) fun x hx=>hl x (List.mem_cons_of_mem _ hx)
def pickQ (x:List Rat) (g:List Int):List Rat:=g.map fun i=>x.getD i.toNat 0
def stepQ (l:Lay Rat) (x:List Rat):List Rat:=
 if l.K=1 then (l.W.zip l.B).map fun p=>dotf (p.1.zip x) p.2
 else if l.K=2 then x.map fun v=>mx v 0
 else l.G.map fun g=>mxq (pickQ x g) ((pickQ x g).getD 0 0)
def vat (ls:List (Lay Rat)) (x:List Rat) (i:Nat):List Rat:=(ls.take i).foldl (fun x l=>stepQ l x) x
theorem vat_succ {ls:List (Lay Rat)} {x:List Rat} {i:Nat} (h:i < ls.length):vat ls x (i+1)=stepQ ls[i] (vat ls x i):=by
 unfold vat
 rw [← List.take_append_getElem h,List.foldl_append]
 rfl
def InR:List (Rat × Rat)→List Rat→Prop
 | [],[]=>True
 | s :: x,q :: p=>(s.1≤q∧q≤s.2)∧InR x p
 | _,_=>False
theorem InR.len:∀ {x:List (Rat × Rat)} {p:List Rat},InR x p→x.length=p.length
 | [],[],_=>rfl
 | _ :: _,_ :: _,h=>by rw [List.length_cons,List.length_cons,InR.len h.2]
 | [],_ :: _,h=>h.elim
 | _ :: _,[],h=>h.elim
theorem InR.getD:∀ {x:List (Rat × Rat)} {p:List Rat},InR x p→∀ i,(x.getD i (0,0)).1≤p.getD i 0∧p.getD i 0≤(x.getD i (0,0)).2
 | [],[],_,i=>⟨Rat.le_refl,Rat.le_refl⟩
 | s :: x,q :: p,h,0=>h.1
 | s :: x,q :: p,h,i+1=>by
  have:=InR.getD h.2 i
  simpa using this
 | [],_ :: _,h,_=>h.elim
 | _ :: _,[],h,_=>h.elim
theorem InR.at {x:List (Rat × Rat)} {p:List Rat} (h:InR x p) (i:Nat) (h1:i < x.length) (h2:i < p.length):x[i].1≤p[i]∧p[i]≤x[i].2:=by
 have:=h.getD i
 rwa [getD_lt h1,getD_lt h2] at this
theorem InR.map {α:Type} {f:α→Rat × Rat} {g:α→Rat}:∀ {l:List α},(∀ a∈l,(f a).1≤g a∧g a≤(f a).2)→InR (l.map f) (l.map g)
 | [],_=>trivial
 | a :: _,h=>⟨h a List.mem_cons_self,InR.map fun b hb=>h b (List.mem_cons_of_mem _ hb)⟩
theorem InR.map2 {f:Rat × Rat→Rat × Rat} {g:Rat→Rat} (hf:∀ s q,s.1≤q→q≤s.2→(f s).1≤g q∧g q≤(f s).2):∀ {x:List (Rat × Rat)} {p:List Rat},InR x p→InR (x.map f) (p.map g)
 | [],[],_=>trivial
 | s :: _,q :: _,h=>⟨hf s q h.1.1 h.1.2,InR.map2 hf h.2⟩
 | [],_ :: _,h=>h.elim
 | _ :: _,[],h=>h.elim
theorem mx_mono {a b c d:Rat} (h1:a≤b) (h2:c≤d):mx a c≤mx b d:=by
 have hb:b≤mx b d:=by
  rcases Rat.le_total (a:=b) (b:=d) with h | h
  ·rw [mx_le h];exact h
  rw [mx_ge h];exact Rat.le_refl
 have hd:d≤mx b d:=by
  rcases Rat.le_total (a:=b) (b:=d) with h | h
  ·rw [mx_le h];exact Rat.le_refl
  rw [mx_ge h];exact h
 exact mx_cases (fun z=>z≤mx b d) (Rat.le_trans h1 hb) (Rat.le_trans h2 hd)
theorem hold_dot:∀ (row:List Rat) (x:List (Rat × Rat)) (p:List Rat) (s:Rat × Rat) (q:Rat),InR x p→s.1≤q→q≤s.2→(wfold (row.zip x) s).1≤dotf (row.zip p) q∧dotf (row.zip p) q≤(wfold (row.zip x) s).2
 | [],x,p,s,q,_,h1,h2=>by simpa [wfold,dotf] using ⟨h1,h2⟩
 | _ :: _,[],[],s,q,_,h1,h2=>by simpa [wfold,dotf] using ⟨h1,h2⟩
 | r :: row,t :: x,v :: p,s,q,h,h1,h2=>by
  have e:=ends_hold (p:=r) h.1.1 h.1.2
  exact hold_dot row x p (s.1+mn (r*t.1) (r*t.2),s.2+mx (r*t.1) (r*t.2)) (q+r*v) h.2 (add_le_both h1 e.1) (add_le_both h2 e.2)
 | _ :: _,[],_ :: _,_,_,h,_,_=>h.elim
 | _ :: _,_ :: _,[],_,_,h,_,_=>h.elim
theorem hold_mx:∀ (x:List (Rat × Rat)) (p:List Rat) (s:Rat × Rat) (q:Rat),InR x p→s.1≤q→q≤s.2→(mxs x s).1≤mxq p q∧mxq p q≤(mxs x s).2
 | [],[],_,_,_,h1,h2=>⟨h1,h2⟩
 | t :: x,v :: p,s,q,h,h1,h2=>hold_mx x p (mx s.1 t.1,mx s.2 t.2) (mx q v) h.2 (mx_mono h1 h.1.1) (mx_mono h2 h.1.2)
 | [],_ :: _,_,_,h,_,_=>h.elim
 | _ :: _,[],_,_,h,_,_=>h.elim
theorem InR.pick {x:List (Rat × Rat)} {p:List Rat} (h:InR x p) (g:List Int):InR (pick x g) (pickQ p g):=InR.map fun i _=>h.getD i.toNat
theorem InR.step {x:List (Rat × Rat)} {p:List Rat} (h:InR x p) (l:Lay Rat):InR (stepS l x) (stepQ l p):=by
 unfold stepS stepQ
 by_cases h1:l.K=1
 ·rw [if_pos h1,if_pos h1]
  exact InR.map fun z _=>hold_dot z.1 x p (z.2,z.2) z.2 h Rat.le_refl Rat.le_refl
 rw [if_neg h1,if_neg h1]
 by_cases h2:l.K=2
 ·rw [if_pos h2,if_pos h2]
  exact InR.map2 (fun s q h1 h2=>⟨mx_mono h1 Rat.le_refl,mx_mono h2 Rat.le_refl⟩) h
 rw [if_neg h2,if_neg h2]
 exact InR.map fun g _=>hold_mx _ _ _ _ (h.pick g) ((h.pick g).getD 0).1 ((h.pick g).getD 0).2
theorem InR.run {ls:List (Lay Rat)} {x:List (Rat × Rat)} {p:List Rat} (h:InR x p):∀ i,i≤ls.length→InR (xat ls x i) (vat ls p i)
 | 0,_=>h
 | i+1,hi=>by
  rw [xat_succ oM,vat_succ oM]
  exact (InR.run h i oM).step _
def SzV (C:Nat) (x:List Rat):Prop:=∀ p∈x,Sz C p
theorem SzV.le {C D:Nat} {x:List Rat} (h:SzV C x) (hD:C≤D):SzV D x:=fun p hp=>(h p hp).le hD
theorem SzV.getD {C:Nat} {x:List Rat} (h:SzV C x) (hC:1≤C) (i:Nat):Sz C (x.getD i 0):=by
 rcases Nat.lt_or_ge i x.length with hi | hi
 ·rw [getD_lt hi]
  exact h _ (List.getElem_mem hi)
 rw [getD_ge hi]
 exact Sz.zero.le hC
theorem SzV.pick {C:Nat} {x:List Rat} (h:SzV C x) (hC:1≤C) (g:List Int):SzV C (pickQ x g):=fun p hp=>by
 obtain ⟨i,-,rfl⟩:=List.mem_map.1 hp
 exact h.getD hC _
theorem stepQ_sz {l:Lay Rat} {x:List Rat} {C:Nat} (hw:x.length≤4) (hl:SzL l) (hs:SzV C x):SzV (4*C+44) (stepQ l x):=by
 unfold stepQ
 by_cases h1:l.K=1
 ·rw [if_pos h1]
  intro p hp
  obtain ⟨z,hz,rfl⟩:=List.mem_map.1 hp
  obtain ⟨k1,k2⟩:=List.of_mem_zip hz
  have r1:=dotf_sz (z.1.zip x) z.2 8 (fun y hy=>⟨hl.1 _ k1 _ (List.of_mem_zip hy).1,hs _ (List.of_mem_zip hy).2⟩) (hl.2 _ k2)
  refine r1.le ?_
  have h5:(z.1.zip x).length≤4:=by rw [List.length_zip];omega
  have:=Nat.mul_le_mul_left (C+9) h5
  omega
 rw [if_neg h1]
 by_cases h2:l.K=2
 ·rw [if_pos h2]
  intro p hp
  obtain ⟨z,hz,rfl⟩:=List.mem_map.1 hp
  exact mx_cases _ ((hs z hz).le oM) (Sz.zero.le oM)
 rw [if_neg h2]
 intro p hp
 obtain ⟨g,-,rfl⟩:=List.mem_map.1 hp
 have hk:=(hs.le (D:=4*C+44) oM).pick oM g
 exact mxq_all (Sz (4*C+44)) _ _ (hk.getD oM 0) hk
theorem vat_sz {ls:List (Lay Rat)} {w:Int} {x:List (Rat × Rat)} {p:List Rat} (h:0 < wds ls w) (hx:(x.length:Int)=w) (hw:w≤4) (hl:∀ l∈ls,litL l) (hz:∀ l∈ls,SzL l) (hi:InR x p) (hs:SzV 8 p):∀ i,i≤ls.length→SzV (cN i) (vat ls p i)
 | 0,_=>by simpa [cN,vat] using hs
 | i+1,hn=>by
  rw [vat_succ oM]
  refine stepQ_sz ?_ (hz _ (List.getElem_mem _)) (vat_sz h hx hw hl hz hi hs i oM)
  have h1:=(hi.run (ls:=ls) i oM).len
  have h2:=xat_len h hx i oM
  have h3:=wds_le h hw hl i oM
  omega
def trcL (ls:List (Lay Rat)) (p:List Rat) (k:Nat):List (List Rat):=(List.range k).map (vat ls p)
theorem trcL_succ {ls:List (Lay Rat)} {x:List Rat} {k:Nat}:trcL ls x (k+1)=trcL ls x k ++ [vat ls x k]:=by
 unfold trcL
 rw [List.range_succ,List.map_append]
 rfl
theorem trcL_len {ls:List (Lay Rat)} {x:List Rat} {k:Nat}:(trcL ls x k).length=k:=by
 unfold trcL
 rw [List.length_map,List.length_range]
theorem trcL_at {ls:List (Lay Rat)} {x:List Rat} {k i:Nat} (h:i < (trcL ls x k).length):(trcL ls x k)[i]=vat ls x i:=by
 have h2:(trcL ls x k)[i]?=some (vat ls x i):=by
  rw [show trcL ls x k=(List.range k).map (vat ls x) from rfl,List.getElem?_map,List.getElem?_range (by rw [trcL_len] at h;exact h)]
  rfl
 obtain ⟨_,h3⟩:=List.getElem?_eq_some_iff.1 h2
 exact h3
theorem stepQ_one {l:Lay Rat} {x:List Rat} (hK:l.K=1) (hB:l.B.length=l.W.length):(stepQ l x).length=l.W.length∧∀ j (h:j < l.W.length) (h2:j < l.B.length),(stepQ l x).take (j+1)=(stepQ l x).take j ++ [dotf (l.W[j].zip x) l.B[j]]:=by
 have hs:stepQ l x=(l.W.zip l.B).map fun p=>dotf (p.1.zip x) p.2:=if_pos hK
 rw [hs]
 refine ⟨by rw [List.length_map,List.length_zip];omega,fun j h h2=>take_next (by rw [List.length_map,List.length_zip];omega) ?_⟩
 rw [List.getElem_map,List.getElem_zip]
theorem stepQ_two {l:Lay Rat} {x:List Rat} (hK:l.K=2):(stepQ l x).length=x.length∧∀ j (h:j < x.length),(stepQ l x).take (j+1)=(stepQ l x).take j ++ [mx x[j] 0]:=by
 have hs:stepQ l x=x.map fun v=>mx v 0:=by unfold stepQ;rw [if_neg oM,if_pos hK]
 rw [hs]
 refine ⟨by rw [List.length_map],fun j h=>take_next (by rw [List.length_map];exact h) ?_⟩
 rw [List.getElem_map]
theorem stepQ_three {l:Lay Rat} {x:List Rat} (hK:l.K=3):(stepQ l x).length=l.G.length∧∀ j (h:j < l.G.length),(stepQ l x).take (j+1)=(stepQ l x).take j ++ [mxq (pickQ x l.G[j]) ((pickQ x l.G[j]).getD 0 0)]:=by
 have hs:stepQ l x=l.G.map fun g=>mxq (pickQ x g) ((pickQ x g).getD 0 0):=by unfold stepQ;rw [if_neg oM,if_neg oM]
 rw [hs]
 refine ⟨by rw [List.length_map],fun j h=>take_next (by rw [List.length_map];exact h) ?_⟩
 rw [List.getElem_map]
theorem pickQ_len {x:List Rat} {g:List Int}:(pickQ x g).length=g.length:=List.length_map ..
theorem pickQ_at {x:List Rat} {g:List Int} {j k:Nat} (h:j < g.length) (hk:g[j]=(k:Int)) (hx:k < x.length) (h2:j < (pickQ x g).length):(pickQ x g)[j]=x[k]:=by
 have h3:(pickQ x g)[j]?=some x[k]:=by
  rw [show pickQ x g=g.map fun i=>x.getD i.toNat 0 from rfl,List.getElem?_map,List.getElem?_eq_getElem h,Option.map_some,hk,Int.toNat_natCast,getD_lt hx]
 obtain ⟨_,h4⟩:=List.getElem?_eq_some_iff.1 h3
 exact h4
end Go.Proofs.YtmlhccajicmpfaaGreat

namespace Go.Att
open Go.RowKit

theorem append_keeps {P:Program} (w:World) (base:Nat) (t ty e:TypeId) (i:TypeInfo) (z:Value) (size bytes:Nat) (ht:P.underlying t=some (.slice e)) (hi:P.info? e=some i) (hz:i.zero=some z)
  (hsize:i.size=size) (hby:i.bytes=bytes) (v:Value) (n:Nat) (xs:List Value) (hown:w.ownsRow base e size v n xs)
  (a:Addr) (m c:Nat) (news:List Value) (hl:news.length=m*size) (hnews:∀ j u,news[j]?=some u→w.cell? (a.add j)=some u) (h1:∀ u∈news,u.oneCell'=true)
  (h63:n+m≤maxLen) (hbytes:(n+m)*bytes≤140737488355328) {v':Value} {w':World} (hr:(Builtin.append_ #[t,t] ty #[v,.slice (some a) m c]).run P w=.ok v' w') (hnew:w'.ownsRow base e size v' (n+m) (xs ++ news)):
  ∀ b o k j u,v=.slice (some ⟨b,o,none⟩) n k→j < n*size→w.cell? ⟨b,o+j,none⟩=some u→w'.cell? ⟨b,o+j,none⟩=some u:=by
 subst hsize
 subst hby
 have hsmall:n+m≤9223372036854775807:=by simp only [maxLen] at h63;omega
 intro b o k j u hv hj hc
 rcases hown.2 with ⟨rfl,rfl⟩ | ⟨g,cap,cur,rfl,hbg,hg,hnc,hcm,hcs,htake⟩
 ·simp at hv
 simp only [Value.slice.injEq,Option.some.injEq,Addr.mk.injEq,and_true,true_and] at hv
 obtain ⟨⟨rfl,rfl⟩,rfl⟩:=hv
 have holds:∀ j u,xs[j]?=some u→w.cell? ((⟨g,0,none⟩:Addr).add j)=some u:=hown.cells (g:=g) rfl
 by_cases hroom:n+m≤cap
 ·have hfit:n*i.size+news.length≤cur.size:=by rw [hl,hcs,← Nat.add_mul];exact Nat.mul_le_mul_right _ hroom
  have h:=run_append_room (P:=P) w t ty e i ht hi g n cap cur hg a m c news hl hnews h1 hroom hfit
  rw [h] at hr
  simp only [Result.ok.injEq] at hr
  have hlt:j < xs.length:=by rw [hown.1];exact hj
  have hx:xs[j]?=some xs[j]:=List.getElem?_eq_getElem hlt
  have h2:=holds j _ hx
  have e1:(⟨g,0,none⟩:Addr).add j=⟨g,0+j,none⟩:=by first | exact Addr.add_lit .. | simp [Addr.add]
  rw [e1,hc] at h2
  have h3:=hnew.cells (g:=g) (by rw [← hr.1];rfl) j u (by rw [List.getElem?_append_left hlt,hx,h2])
  rw [e1] at h3
  exact h3
 have h:=run_append_grow (P:=P) w t ty e i z ht hi hz ⟨g,0,none⟩ n cap xs hown.1 holds a m c news hl hnews oM oM (growslice_fits oM hbytes)
 rw [h] at hr
 simp only [Result.ok.injEq] at hr
 rw [← hr.2]
 exact Ext.cell (eT (drew_ext w) (Ext.alloc _ _)) hc

theorem append_rowK {α:Type} {P:Program} {w:World} {o:Oper} {a:Act} {K:Act→World→Prop} {Q:Exit→Act→World→Prop} {t e:TypeId} {z:Value} {size bytes:Nat} (ET:ElemT P t e z size bytes) {T:World→Value→α→Prop} (hT:Kd e T)
  (s x:Operand) (ho:o.op=.call { callee:=.builtin .append,args:=#[s,x],argTypes:=#[t,t] }) (B:Nat) {v:Value} {l:List α} {y:α} (hs:a.eval s=v)
  (hown:OwnRow size T e B w v l) {ad:Addr} {c:Nat} (hx:a.eval x=.slice (some ad) 1 c) (hr:RdRow size T w (.slice (some ad) 1 c) [y]) (hl:(l.length+1)*bytes≤140737488355328) (hm:l.length+1≤maxLen) (hB:B≤w.heap.size)
  (h:∀ v' w',OwnRow size T e B w' v' (l ++ [y])→Below B w w'→w.grownBy w' v.ownBlock→(∀ b o k j u,v=.slice (some ⟨b,o,none⟩) l.length k→j < l.length*size→w.cell? ⟨b,o+j,none⟩=some u→w'.cell? ⟨b,o+j,none⟩=some u)→K (a.put o.dst v') w'):o.wp P a w K Q:=by
 obtain ⟨E,hE,hP⟩:=hown
 obtain ⟨F,hF,hPF⟩:=hr
 obtain ⟨i,hi,hz,hsz,hby⟩:=ET.inf
 have h1:∀ u∈F.flatten,u.oneCell'=true:=fun u hu=>by
  cases F with
  | nil=>simp at hu
  | cons f F=>
   have h2:Pw size (fun c a=>T w (.agg c.toArray) a) F ([]:List α):=hPF.2
   cases F with
   | nil=>rw [List.flatten_cons,List.flatten_nil,List.append_nil] at hu;exact hT.one hPF.1.2 u hu
   | cons _ _=>exact h2.elim
 have hlen:F.flatten.length=1*size:=hF.1
 obtain ⟨v',w',hrun,h2,h3,-⟩:=run_append_own (P:=P) w B t o.type e i z size bytes ET.und hi hz hsz hby ET.cells ET.pos v l.length E.flatten hE ad 1 c F.flatten hlen (hF.news _ rfl) h1 hm hl hB
 have hk:=append_keeps (P:=P) w B t o.type e i z size bytes ET.und hi hz hsz hby v l.length E.flatten hE ad 1 c F.flatten hlen (hF.news _ rfl) h1 hm hl hrun h2
 have hb:Below B w w':=(Below.refl B _).grown h3 hB (fun k hk=>(hE.lt k hk).1)
 unfold Oper.wp execOp
 simp only [ho,resolve,invoke,builtin,Sem.run_bind,Sem.run_pure,Result.andThen_ok,List.map_toArray,List.map_cons,List.map_nil,hs,hx,hrun]
 refine h v' w' ⟨E ++ F,?_,(hP.mono fun _ _ h=>hT.grown h hE h3).app (hPF.mono fun _ _ h=>hT.grown h hE h3)⟩ hb h3 hk
 rw [List.length_append,List.flatten_append]
 exact h2
end Go.Att

namespace Go.Proofs.YtmlhccajicmpfaaGreat
open Go.RowKit Go.Att

theorem fill_q3 (s:Bool) (a:Option Addr) (n k:Nat) (a2:Option Addr) (n2 k2:Nat):
  Instr.fill (fun i=>some (i*3,3)) ((Array.range (1*3)).map ((Value.agg #[.bool false,.slice none 0 0,.slice none 0 0]).cells[· % (Value.agg #[.bool false,.slice none 0 0,.slice none 0 0]).cells.size]!)) [(0,.agg #[.bool s,.slice a n k,.slice a2 n2 k2])]=some #[.bool s,.slice a n k,.slice a2 n2 k2]:=by kernel_rfl
theorem max_ov {w:World} {va vb:Value} {p q:Rat} (hp:OwnQ 156 0 w va p) (hq:OwnQ 156 0 w vb q) (sp:Sz 10000000 p) (sq:Sz 10000000 q):
  Calls Tryz.prog 64 #[va,vb] w (Gives w fun v' w'=>OwnQ 156 0 w' v' (mx p q)):=by
 refine (rmax_val hp.rd hq.rd sp sq).mono ?_
 rintro e w' ⟨_,rfl,b,rfl⟩
 refine Gives.mk b ?_
 unfold mx
 split
 ·exact hp.ext b
 exact hq.ext b
theorem rint0 {w:World}:Calls Tryz.prog 5 #[.int .i64 0] w (Gives w fun v' w'=>OwnQ 156 0 w' v' 0):=by
 refine (rint_any (u:=0) oM).mono ?_
 rintro e w' ⟨v,rfl,b,o⟩
 exact Gives.mk b (o.mono (Nat.zero_le _))
theorem Bq.box {w w1:World} {x y z:Value} {q:Rat} (h:OwnQ 156 0 w (.agg #[x,y,z]) q) (hw:w1=w.alloc (.cells #[x,y,z] 38)):Bq w1 w.heap.size q:=by
 subst hw
 exact Bq.new h
theorem step15_any {w:World} {v0 v1:Value} {l:Lay Rat} {g:List Rat} {wn:Int} (hv:RdLay QnN w v0 l) (hx:RdRow 3 QnN w v1 g) (hw:0 < wdt l wn) (hgn:(g.length:Int)=wn) (h4:wn≤4) (hl:litL l) (hs:SzL l) (hc:SzV 348 g):
  Calls Tryz.prog 42 #[v0,v1] w (Gives w fun v' w'=>OwnRow 3 QnN 38 0 w' v' (stepQ l g)):=by
 refine via fun R hR=>?_
 obtain ⟨aw,mw,ab,mb,ag,mg,rfl,hRW,hRB,hRG⟩:=hv.op
 obtain ⟨ax2,cx2,rfl,-,-⟩:=hx.shape
 have HRW:=qH hRW
 have HRB:=qH hRB
 have HRG:=qH hRG
 have HLL:Hid (litL l):=hl
 have HSS:Hid (SzL l):=hs
 have HXC:Hid (SzV 348 g):=hc
 have HXI:Hid ((g.length:Int)=wn):=hgn
 have HW4:Hid (wn≤4):=h4
 have HXN:Hid (g.length≤4):=by show _≤_;omega
 have HCS:Hid _:=wdt_cases hw
 obtain ⟨w1,hw1,b1,c1,-,-⟩:=bx1 w [.int .i64 l.K,.slice aw l.W.length mw,.slice ab l.B.length mb,.slice ag l.G.length mg] 129
 have HW:=qH hw1
 have C1:=qH c1
 have HX1:=qH (hx.ext OwnQ.ext b1)
 obtain ⟨u0,u1,u2,u3⟩:=c1.c4
 clear hv hx hRW hRB hRG hw1 c1 hw hgn h4 hl hs hc
 go_enter Tryz.func42,Tryz.ntmps42
 go_upto_region 1 with (fail)
 rw [← HW.out]
 clear HW
 rcases HCS.out with ⟨h1,hBW,hrw,-,-⟩ | ⟨h1,-⟩ | ⟨h1,hgi,-,-⟩
 ·have he1:(l.K == 1)=true:=by rw [h1];rfl
  obtain ⟨hyl,hyt⟩:=stepQ_one (x:=g) h1 hBW
  have HYL:=qH hyl
  have HYT:=qH hyt
  have HBW:=qH hBW
  have HRL:=qH hrw
  obtain ⟨ys,hys⟩:∃ ys,stepQ l g=ys:=⟨_,rfl⟩
  rw [hys] at HYL HYT
  have HYS:=qH hys
  clear hyl hyt hBW hrw hys h1
  generalize l.K=kq at*
  go_wp2_with fail
  clear u0 u1 u2 u3 he1
  go_loopw [5,56] (fun vy t wr=>∃ j:Nat,t=.int .i64 j∧j≤l.W.length∧Hid (Ext w1 wr)∧Hid (OwnRow 3 QnN 38 w1.heap.size wr vy (ys.take j))) (fun _ t _=>l.W.length - (intOf t).toNat)
  case atStart=>exact ⟨0,rfl,Nat.zero_le _,Ext.refl _,by rw [List.take_zero];exact OwnRow.nil _ _ _⟩
  case round=>
   obtain ⟨j,rfl,hj,hX7,hO7⟩:=hrel
   obtain ⟨w7,hw7⟩:∃ w0:World,w0=wr:=⟨_,rfl⟩
   subst hw7
   have hlw:=HLL.out.1.1
   obtain ⟨ay,ky,hvy,-,-⟩:=hO7.out.rd.shape
   generalize (ys.take j).length=ny at hvy
   subst hvy
   by_cases hjl:j < l.W.length
   ·have hjb:j < l.B.length:=by have:=HBW.out;omega
    have hd1:=dT ((j:Int) < (l.W.length:Int))
    have HK1:IntKind.i64.wrap ((j:Int)+1)=((j+1:Nat):Int):=by rw [IntKind.wrap_i64];omega
    have HK2:(0:Int)≤(j:Int)∧(j:Int) < (l.W.length:Int):=⟨by omega,by omega⟩
    have HK3:(0:Int)≤(j:Int)∧(j:Int) < (l.B.length:Int):=⟨by omega,by omega⟩
    have hx17:=eT b1 hX7.out
    obtain ⟨bW,oW,xr,mr,hxe,hcell,hrr⟩:=(HRW.out.ext (fun h x=>RowT.ext h OwnQ.ext x) hx17).row j hjl
    subst hxe
    obtain ⟨bB,oB,cs,hbe,hcl,hT,hc⟩:=(HRB.out.ext OwnQ.ext hx17).at dC j hjb
    subst hbe
    obtain ⟨q1,q2,q3,q4,rfl⟩:=cells_Q (OwnQ.rd hT)
    obtain ⟨e0,e1,e2⟩:=(Bo.of hc).c3
    obtain ⟨w8,hw8,b8,-,-,-⟩:=bx1 w7 [.bool (decide (l.B[j].num < 0)),.slice q1 (limbs l.B[j].num.natAbs).length q2,.slice q3 (dens l.B[j].den).length q4] 38
    have HBQ:=qH (Bq.box hT hw8)
    have HW8:=qH hw8
    have HSN:=qH (HYT.out j hjl hjb)
    have HRR:=qH hrr
    have HSR:=qH (HSS.out.1 _ (List.getElem_mem hjl))
    have HSB:=qH (HSS.out.2 _ (List.getElem_mem hjb))
    have HLR:Hid (l.W[j].length=g.length):=by have h1:=HRL.out _ (List.getElem_mem hjl);have h2:=HXI.out;show _=_;omega
    obtain ⟨v0',v1',v2',v3'⟩:=(C1.out.ext hX7.out).c4
    clear hT hc hcl hrr hw8
    generalize decide (l.B[j].num < 0)=z0 at*
    generalize (limbs l.B[j].num.natAbs).length=z1 at*
    generalize (dens l.B[j].den).length=z2 at*
    generalize l.B[j]=bq at*
    generalize l.W[j]=rr at*
    have HYK:Hid ((ys.take j).length≤4):=by show _≤_;rw [List.length_take];have:=HYL.out;omega
    generalize ys.take j=yj at*
    generalize hy2:ys.take (j+1)=yj2 at*
    have HY2:=qH hy2
    clear hy2
    go_upto_region 19 with (fail)
    rw [← HW8.out]
    clear HW8 e0 e1 e2 hcell v0' v1' v2' v3'
    go_wp2_with fail
    go_loopw [68] (fun t wr=>∃ k:Nat,t=.int .i64 k∧k≤rr.length∧Hid (Ext w7 wr)∧Hid (Bq wr w7.heap.size (dotf ((rr.zip g).take k) bq))) (fun t _=>rr.length - (intOf t).toNat)
    case atStart=>exact ⟨0,rfl,Nat.zero_le _,b8,by rw [List.take_zero];exact HBQ⟩
    case round=>
     clear HBQ
     obtain ⟨k,rfl,hk,hX9,hQ⟩:=hrel
     obtain ⟨w9,hw9⟩:∃ w0:World,w0=wr:=⟨_,rfl⟩
     subst hw9
     have hgl:=HXN.out
     by_cases hkl:k < rr.length
     ·have hkg:k < g.length:=by have:=HLR.out;omega
      have hd2:=dT ((k:Int) < (rr.length:Int))
      have HP1:IntKind.i64.wrap ((k:Int)+1)=((k+1:Nat):Int):=by rw [IntKind.wrap_i64];omega
      have HP2:(0:Int)≤(k:Int)∧(k:Int) < (rr.length:Int):=⟨by omega,by omega⟩
      have HP3:(0:Int)≤(k:Int)∧(k:Int) < (g.length:Int):=⟨by omega,by omega⟩
      obtain ⟨bR,oR,cs,hbe,hcl,hT,hc⟩:=(HRR.out.ext OwnQ.ext hX9.out).at dC k hkl
      subst hbe
      obtain ⟨q1,q2,q3,q4,rfl⟩:=cells_Q (OwnQ.rd hT)
      obtain ⟨e0,e1,e2⟩:=(Bo.of hc).c3
      obtain ⟨w10,hw10,b10,c10,-,-⟩:=bx1 w9 [.bool (decide (rr[k].num < 0)),.slice q1 (limbs rr[k].num.natAbs).length q2,.slice q3 (dens rr[k].den).length q4] 38
      have HW10:=qH hw10
      have CE:=qH c10
      have HE:=qH (OwnQ.ext hT b10)
      obtain ⟨bX,oX,cs',hbe',hcl',hT',hc'⟩:=(HX1.out.ext OwnQ.ext (eT hX7.out (eT hX9.out b10))).at dC k hkg
      obtain ⟨p1,p2,p3,p4,rfl⟩:=cells_Q (OwnQ.rd hT')
      have CX:Hid (Bo w10 bX (oX+k*3) [.bool (decide (g[k].num < 0)),.slice p1 (limbs g[k].num.natAbs).length p2,.slice p3 (dens g[k].den).length p4]):=Bo.of hc'
      have HXE:Hid (OwnQ 156 0 w10 (.agg #[.bool (decide (g[k].num < 0)),.slice p1 (limbs g[k].num.natAbs).length p2,.slice p3 (dens g[k].den).length p4]) g[k]):=hT'
      subst hbe'
      have hzl:k < (rr.zip g).length:=by rw [List.length_zip];have:=HLR.out;omega
      have HDT:=qH (dotf_take hzl bq)
      have hzk:(rr.zip g)[k]=(rr[k],g[k]):=List.getElem_zip
      rw [hzk] at HDT
      have HS1:=qH (HSR.out _ (List.getElem_mem hkl))
      have HS2:=qH (HXC.out _ (List.getElem_mem hkg))
      have HSD:Hid (Sz 2000 (dotf ((rr.zip g).take k) bq)):=(dotf_sz ((rr.zip g).take k) bq 8 (fun z hz=>⟨HSR.out _ (List.of_mem_zip (List.mem_of_mem_take hz)).1,HXC.out _ (List.of_mem_zip (List.mem_of_mem_take hz)).2⟩) HSB.out).le (by
       have:((rr.zip g).take k).length≤4:=by rw [List.length_take];have:=HLR.out;omega
       have:=Nat.mul_le_mul_left (348+9) this
       omega)
      clear hT hc hcl hT' hc' hcl' hw10 c10 hzk hzl
      generalize decide (rr[k].num < 0)=y0 at*
      generalize (limbs rr[k].num.natAbs).length=y1 at*
      generalize (dens rr[k].den).length=y2 at*
      generalize Value.bool (decide (g[k].num < 0))=c0 at*
      generalize Value.slice p1 (limbs g[k].num.natAbs).length p2=c1 at*
      generalize Value.slice p3 (dens g[k].den).length p4=c2 at*
      generalize rr[k]=rk at*
      generalize g[k]=gk at*
      generalize dotf ((rr.zip g).take k) bq=dk at*
      generalize hd3:dotf ((rr.zip g).take (k+1)) bq=dk2 at*
      have HD3:=qH hd3
      clear hd3
      obtain ⟨s0,d1,n1,g1,d2,n2,g2,T1,T2,T3⟩:=(Bq.ext hQ.out b10).op
      go_upto_region 22 with (fail)
      rw [← HW10.out]
      clear HW10 e0 e1 e2
      have b11:=drew_ext w10
      have XE:=b11
      refine wp_region_noPanic ?_
      refine wp_region_last_drew (st:=8) (S:=fun w'=>(w'.cell? ⟨w7.heap.size,0,none⟩=some (.bool s0)∧w'.cell? ⟨w7.heap.size,1,none⟩=some (.slice d1 n1 g1)∧w'.cell? ⟨w7.heap.size,2,none⟩=some (.slice d2 n2 g2))∧(w'.cell? ⟨w9.heap.size,0,none⟩=some (.bool y0)∧w'.cell? ⟨w9.heap.size,1,none⟩=some (.slice q1 y1 q2)∧w'.cell? ⟨w9.heap.size,2,none⟩=some (.slice q3 y2 q4))∧(w'.cell? ⟨bX,oX+k*3,none⟩=some (c0)∧w'.cell? ⟨bX,oX+k*3+1,none⟩=some (c1)∧w'.cell? ⟨bX,oX+k*3+2,none⟩=some (c2))) kR (⟨(T1.out.ext XE).c3,(CE.out.ext XE).c3,(CX.out.ext XE).c3⟩) (fun hHeld=>?_)
      refine tkL 0 hHeld ?_
      simp only [jP,jJ]
      refine tkL 1 hHeld ?_
      simp only [jP,jJ]
      refine tkL 2 hHeld ?_
      simp only [jP,jJ]
      refine tkL 3 hHeld ?_
      simp only [jP,jJ]
      refine tkL 4 hHeld ?_
      simp only [jP,jJ]
      refine tkL 5 hHeld ?_
      simp only [jP,jJ]
      refine rdL 6 kR rfl (fun K hK=>?_)
      go_simp
      go_at_call 66;refine (rmul_any (HE.out.rd.ext XE) (HXE.out.rd.ext XE) (HS1.out.le dC) (HS2.out.le dC)).mono ?_;rintro e w12 ⟨v12,rfl,b12,o12⟩;have O12:=qH o12;clear o12;(first | have XE:=eT XE b12 | have XE:=eT (eT XE (Ext.alloc _ _)) b12)
      go_wp2_with fail
      refine hK.out _ _ (⟨(T1.out.ext XE).c3,(CE.out.ext XE).c3,(CX.out.ext XE).c3⟩) (fun hHeld=>?_)
      clear hK K
      try simp only [jP,jJ]
      refine rdL 7 kR rfl (fun K hK=>?_)
      go_simp
      go_at_call 65;refine (radd_any (T3.out.rd.ext XE) O12.out.rd (HSD.out.le dC) ((HS1.out.mul HS2.out).le dC)).mono ?_;rintro e w13 ⟨v13,rfl,b13,o13⟩;have O13:=qH o13;clear o13;(first | have XE:=eT XE b13 | have XE:=eT (eT XE (Ext.alloc _ _)) b13);obtain ⟨_,_,_,_,_,_,_,rfl,P13⟩:=O13.out.op
      go_wp2_with fail
      refine hK.out _ _ (⟨(T1.out.ext XE).c3,(CE.out.ext XE).c3,(CX.out.ext XE).c3⟩) (fun hHeld=>?_)
      clear hK K
      try simp only [jP,jJ]
      obtain ⟨_,_,_,j0,j1,j2,i0,i1,i2⟩:=(T2.out.ext XE).rm.c3
      refine wpAnyL_ready (rs:=[8]) kR (by simp) ?_
      refine AllReadyL.last (o:=_) rfl (fun K hK=>?_)
      go_simp
      refine hK.out _ _ ?_
      clear hK K
      try simp only [jP,jJ]
      refine wpAnyL_done kR ?_ _
      refine NoPanic.normal ?_
      go_wp2_with fail
      go_roundw
      case rel=>exact ⟨k+1,by go_num,by omega,put3_below (eT hX9.out (eT b10 XE)) (Nat.le_refl _) _ _ _,by rw [HD3.out,HDT.out];exact Bq.set (T2.out.ext XE) (P13.out.mono (Nat.zero_le _))⟩
      simp [intOf]<;>omega
     obtain rfl:k=rr.length:=by omega
     have hd2:=dF ((rr.length:Int) < (rr.length:Int))
     rw [List.take_of_length_le (by rw [List.length_zip];have:=HLR.out;omega)] at hQ
     obtain ⟨s0,d1,n1,g1,d2,n2,g2,T1,-,T3⟩:=hQ.out.op
     obtain ⟨k0,k1,k2⟩:=T1.out.c3
     have hX79:=eT hX7.out hX9.out
     have hO9:=qH (hO7.out.ext OwnQ.ext hX9.out)
     generalize dotf (rr.zip g) bq=dq at*
     go_wp2_with (at_builtin;refine append_rowL (y:=dq) etRats (kdQn dC) rF _ _ rF w1.heap.size rF _ rF hO9.out rfl T3.out (Below.size hX79) (by have:=HYK.out;omega) (by have:=HYK.out;unfold maxLen;omega) ?_;intro v20 w20 o20 b20 g20)
     go_roundw
     case rel=>exact ⟨j+1,by go_num,by omega,Below.trans hX79 b20,by rw [HY2.out,HSN.out];exact o20⟩
     simp [intOf]<;>omega
   obtain rfl:j=l.W.length:=by omega
   have hd1:=dF ((l.W.length:Int) < (l.W.length:Int))
   rw [List.take_of_length_le (by have:=HYL.out;omega)] at hO7
   go_wp2_with fail
   exact hR.out _ _ (Gives.mk (eT b1 hX7.out) (by rw [HYS.out];exact hO7.out.mono (Nat.zero_le _)))
 ·have he1:(l.K == 1)=false:=beq_false_of_ne oM
  have he2:(l.K == 2)=true:=by rw [h1];rfl
  obtain ⟨hyl,hyt⟩:=stepQ_two (x:=g) h1
  have HYL:=qH hyl
  have HYT:=qH hyt
  obtain ⟨ys,hys⟩:∃ ys,stepQ l g=ys:=⟨_,rfl⟩
  rw [hys] at HYL HYT
  have HYS:=qH hys
  clear hyl hyt hys h1
  generalize l.K=kq at*
  go_wp2_with fail
  clear u0 u1 u2 u3 he1 he2
  go_loopw [5,91] (fun vy t wr=>∃ j:Nat,t=.int .i64 j∧j≤g.length∧Hid (Ext w1 wr)∧Hid (OwnRow 3 QnN 38 w1.heap.size wr vy (ys.take j))) (fun _ t _=>g.length - (intOf t).toNat)
  case atStart=>exact ⟨0,rfl,Nat.zero_le _,Ext.refl _,by rw [List.take_zero];exact OwnRow.nil _ _ _⟩
  case round=>
   obtain ⟨j,rfl,hj,hX7,hO7⟩:=hrel
   obtain ⟨w7,hw7⟩:∃ w0:World,w0=wr:=⟨_,rfl⟩
   subst hw7
   have hgl:=HXN.out
   obtain ⟨ay,ky,hvy,-,-⟩:=hO7.out.rd.shape
   generalize (ys.take j).length=ny at hvy
   subst hvy
   by_cases hjl:j < g.length
   ·have hd1:=dT ((j:Int) < (g.length:Int))
    have HK1:IntKind.i64.wrap ((j:Int)+1)=((j+1:Nat):Int):=by rw [IntKind.wrap_i64];omega
    have HK2:(0:Int)≤(j:Int)∧(j:Int) < (g.length:Int):=⟨by omega,by omega⟩
    obtain ⟨bB,oB,cs,hbe,hcl,hT,hc⟩:=(HX1.out.ext OwnQ.ext hX7.out).at dC j hjl
    subst hbe
    obtain ⟨q1,q2,q3,q4,rfl⟩:=cells_Q (OwnQ.rd hT)
    obtain ⟨e0,e1,e2⟩:=(Bo.of hc).c3
    obtain ⟨w8,hw8,b8,c8,-,-⟩:=bx1 w7 [.bool (decide (g[j].num < 0)),.slice q1 (limbs g[j].num.natAbs).length q2,.slice q3 (dens g[j].den).length q4] 38
    have HW8:=qH hw8
    have C8:=qH c8
    have HE:=qH (OwnQ.ext hT b8)
    have HSN:=qH (HYT.out j hjl)
    have HS1:=qH (HXC.out _ (List.getElem_mem hjl))
    clear hT hc hcl c8 hw8
    have HYK:Hid ((ys.take j).length≤4):=by show _≤_;rw [List.length_take];have:=HYL.out;omega
    generalize ys.take j=yj at*
    generalize hy2:ys.take (j+1)=yj2 at*
    have HY2:=qH hy2
    clear hy2
    generalize decide (g[j].num < 0)=y0 at*
    generalize (limbs g[j].num.natAbs).length=y1 at*
    generalize (dens g[j].den).length=y2 at*
    generalize g[j]=gj at*
    go_upto_region 30 with (fail)
    rw [← HW8.out]
    clear HW8 e0 e1 e2
    have hX8:=eT hX7.out b8
    have hsz8:w1.heap.size≤w8.heap.size:=Below.size hX8
    have hO8:=qH (hO7.out.ext OwnQ.ext b8)
    have hne8:(Value.slice ay ny ky).ownBlock≠some w7.heap.size:=fun h=>by
     obtain ⟨E,hE,-⟩:=hO7.out
     exact Nat.lt_irrefl _ (World.ownsRow.lt hE _ h).2
    have b9:=drew_ext w8
    have XE:=b9
    refine wp_region_noPanic ?_
    refine wp_region_held_drew (S:=fun w'=>w'.cell? ⟨w7.heap.size,0,none⟩=some (.bool y0)∧w'.cell? ⟨w7.heap.size,1,none⟩=some (.slice q1 y1 q2)∧w'.cell? ⟨w7.heap.size,2,none⟩=some (.slice q3 y2 q4)) kR ((C8.out.ext XE).c3) (fun hHeld=>?_)
    refine tkH 0 hHeld ?_
    simp only [jP,jJ]
    refine tkH 1 hHeld ?_
    simp only [jP,jJ]
    refine rdH 2 kR rfl (fun K hK=>?_)
    go_simp
    go_at_call 5;refine (rint0).mono ?_;rintro e w10 ⟨v10,rfl,b10,o10⟩;have O10:=qH o10;clear o10;(first | have XE:=eT XE b10 | have XE:=eT (eT XE (Ext.alloc _ _)) b10);obtain ⟨_,_,_,_,_,_,_,rfl,P10⟩:=O10.out.op
    go_wp2_with fail
    refine hK.out _ _ ((C8.out.ext XE).c3) (fun hHeld=>?_)
    clear hK K
    try simp only [jP,jJ]
    refine rdH 3 kR rfl (fun K hK=>?_)
    go_simp
    go_at_call 64;refine (max_ov (HE.out.ext XE) P10.out (HS1.out.le dC) (Sz.zero.le dC)).mono ?_;rintro e w11 ⟨v11,rfl,b11,o11⟩;have O11:=qH o11;clear o11;(first | have XE:=eT XE b11 | have XE:=eT (eT XE (Ext.alloc _ _)) b11);obtain ⟨t0,t1,t2,t3,t4,t5,t6,rfl,P11⟩:=O11.out.op
    go_wp2_with fail
    refine hK.out _ _ ((C8.out.ext XE).c3) (fun hHeld=>?_)
    clear hK K
    try simp only [jP,jJ]
    refine rdH 4 kR rfl (fun K hK=>?_)
    refine if_wantedL rfl ?_
    refine build1K etRats rF (T:=QnN) qnn_ext rF [.bool t0,.slice t1 t2 t3,.slice t4 t5 t6] (fill_q3 ..) rfl dC (y:=mx gj 0) P11.out ?_
    intro g20 w20 x20 _ l20
    have XE:=eT XE x20
    have L20:=qH l20.rd
    clear l20
    refine hK.out _ _ ((C8.out.ext XE).c3) (fun hHeld=>?_)
    clear hK K
    try simp only [jP,jJ]
    refine rdH 5 kR rfl (fun K hK=>?_)
    refine if_wantedL rfl ?_
    refine append_rowG etRats (kdQn dC) _ _ rF w1.heap.size rF (hO8.out.ext qnn_ext XE) rF L20.out (by have:=HYK.out;omega) (by have:=HYK.out;unfold maxLen;omega) (Nat.le_trans hsz8 (Below.size XE)) ?_
    intro v21 w21 o21 b21 g21 _
    have XW:=qH (Below.trans hX8 (Below.trans (Below.mono XE hsz8) b21))
    have O21:=qH o21
    refine hK.out _ _ (((C8.out.ext XE).grow g21 hne8).c3) (fun hHeld=>?_)
    clear hK K o21
    try simp only [jP,jJ]
    refine tkH 6 hHeld ?_
    simp only [jP,jJ]
    refine dnH kR ?_
    go_wp2_with fail
    go_roundw
    case rel=>exact ⟨j+1,by go_num,by omega,XW.out,by rw [HY2.out,HSN.out];exact O21.out⟩
    simp [intOf]<;>omega
   obtain rfl:j=g.length:=by omega
   have hd1:=dF ((g.length:Int) < (g.length:Int))
   rw [List.take_of_length_le (by have:=HYL.out;omega)] at hO7
   go_wp2_with fail
   exact hR.out _ _ (Gives.mk (eT b1 hX7.out) (by rw [HYS.out];exact hO7.out.mono (Nat.zero_le _)))
 have he1:(l.K == 1)=false:=beq_false_of_ne oM
 have he2:(l.K == 2)=false:=beq_false_of_ne oM
 obtain ⟨hyl,hyt⟩:=stepQ_three (x:=g) h1
 have HYL:=qH hyl
 have HYT:=qH hyt
 have HGI:=qH hgi
 obtain ⟨ys,hys⟩:∃ ys,stepQ l g=ys:=⟨_,rfl⟩
 rw [hys] at HYL HYT
 have HYS:=qH hys
 clear hyl hyt hys h1 hgi
 generalize l.K=kq at*
 go_wp2_with fail
 clear u0 u1 u2 u3 he1 he2
 go_loopw [5,23] (fun vy t wr=>∃ j:Nat,t=.int .i64 j∧j≤l.G.length∧Hid (Ext w1 wr)∧Hid (OwnRow 3 QnN 38 w1.heap.size wr vy (ys.take j))) (fun _ t _=>l.G.length - (intOf t).toNat)
 case atStart=>exact ⟨0,rfl,Nat.zero_le _,Ext.refl _,by rw [List.take_zero];exact OwnRow.nil _ _ _⟩
 case round=>
  obtain ⟨j,rfl,hj,hX7,hO7⟩:=hrel
  obtain ⟨w7,hw7⟩:∃ w0:World,w0=wr:=⟨_,rfl⟩
  subst hw7
  have hlg:=HLL.out.1.2.2
  obtain ⟨ay,ky,hvy,-,-⟩:=hO7.out.rd.shape
  generalize (ys.take j).length=ny at hvy
  subst hvy
  by_cases hjl:j < l.G.length
  ·have hd1:=dT ((j:Int) < (l.G.length:Int))
   have HK1:IntKind.i64.wrap ((j:Int)+1)=((j+1:Nat):Int):=by rw [IntKind.wrap_i64];omega
   have HK2:(0:Int)≤(j:Int)∧(j:Int) < (l.G.length:Int):=⟨by omega,by omega⟩
   have hx17:=eT b1 hX7.out
   obtain ⟨bG,oG,xr,mr,hxe,hcell,hrr⟩:=(HRG.out.ext (fun h x=>RowT.ext h IntT.ext x) hx17).row j hjl
   subst hxe
   have HSN:=qH (HYT.out j hjl)
   have HG4:=qH (HLL.out.2.2 _ (List.getElem_mem hjl))
   have HGR:=qH (HGI.out _ (List.getElem_mem hjl))
   have HRR:=qH hrr
   generalize l.G[j]=gg at*
   clear hrr
   have hg4:=HG4.out
   have h0g:0 < gg.length:=List.length_pos_iff.2 HGR.out.1
   have H0G:(0:Int)≤0∧(0:Int) < (gg.length:Int):=⟨by omega,by omega⟩
   obtain ⟨ai,oi,rfl⟩:=HRR.out.some_atI h0g
   have hci:=HRR.out.int 0 h0g
   rw [Nat.add_zero] at hci
   obtain ⟨hz0,hz1⟩:=HGR.out.2 _ (List.getElem_mem h0g)
   obtain ⟨q,hq⟩:=Int.eq_ofNat_of_zero_le hz0
   have hqg:q < g.length:=by have:=HXI.out;omega
   have hpp:0 < (pickQ g gg).length:=by rw [pickQ_len];exact h0g
   have hp0:=pickQ_at h0g hq hqg hpp
   have HHD:Hid ((pickQ g gg).getD 0 0=g[q]):=by show _=_;rw [getD_lt hpp];exact hp0
   rw [hq] at hci
   have HP3:(0:Int)≤(q:Int)∧(q:Int) < (g.length:Int):=⟨by omega,by omega⟩
   obtain ⟨bX,oX,cs',hbe',hcl',hT',hc'⟩:=(HX1.out.ext OwnQ.ext hX7.out).at dC q hqg
   subst hbe'
   obtain ⟨p1,p2,p3,p4,rfl⟩:=cells_Q (OwnQ.rd hT')
   obtain ⟨e0,e1,e2⟩:=(Bo.of hc').c3
   obtain ⟨w8,hw8,b8,-,-,-⟩:=bx1 w7 [.bool (decide (g[q].num < 0)),.slice p1 (limbs g[q].num.natAbs).length p2,.slice p3 (dens g[q].den).length p4] 38
   have HBQ:=qH (Bq.box hT' hw8)
   rw [← HHD.out] at HBQ
   have HW8:=qH hw8
   have HPS:Hid (SzV 348 (pickQ g gg)):=HXC.out.pick dC gg
   have HPH:Hid (Sz 348 ((pickQ g gg).getD 0 0)):=HPS.out.getD dC 0
   clear hT' hc' hcl' hw8 hz0 hz1 hq hp0 HHD h0g hpp
   generalize decide (g[q].num < 0)=z0 at*
   generalize (limbs g[q].num.natAbs).length=z1 at*
   generalize (dens g[q].den).length=z2 at*
   generalize (pickQ g gg).getD 0 0=hd at*
   have HYK:Hid ((ys.take j).length≤4):=by show _≤_;rw [List.length_take];have:=HYL.out;omega
   generalize ys.take j=yj at*
   generalize hy2:ys.take (j+1)=yj2 at*
   have HY2:=qH hy2
   clear hy2
   go_upto_region 7 with (fail)
   rw [← HW8.out]
   clear HW8 e0 e1 e2 hci hcell H0G HP3
   go_wp2_with fail
   go_loopw [35] (fun t wr=>∃ k:Nat,t=.int .i64 k∧k≤gg.length∧Hid (Ext w7 wr)∧Hid (Bq wr w7.heap.size (mxq ((pickQ g gg).take k) hd))) (fun t _=>gg.length - (intOf t).toNat)
   case atStart=>exact ⟨0,rfl,Nat.zero_le _,b8,by rw [List.take_zero];exact HBQ⟩
   case round=>
    clear HBQ
    obtain ⟨k,rfl,hk,hX9,hQ⟩:=hrel
    obtain ⟨w9,hw9⟩:∃ w0:World,w0=wr:=⟨_,rfl⟩
    subst hw9
    by_cases hkl:k < gg.length
    ·have hd2:=dT ((k:Int) < (gg.length:Int))
     have HP1:IntKind.i64.wrap ((k:Int)+1)=((k+1:Nat):Int):=by rw [IntKind.wrap_i64];omega
     have HP2:(0:Int)≤(k:Int)∧(k:Int) < (gg.length:Int):=⟨by omega,by omega⟩
     have hci:=Ext.cell hX9.out (HRR.out.int k hkl)
     obtain ⟨hz0,hz1⟩:=HGR.out.2 _ (List.getElem_mem hkl)
     obtain ⟨r,hr⟩:=Int.eq_ofNat_of_zero_le hz0
     have hrg:r < g.length:=by have:=HXI.out;omega
     have hpp:k < (pickQ g gg).length:=by rw [pickQ_len];exact hkl
     have hpk:=pickQ_at hkl hr hrg hpp
     have HMT:=qH (mxq_take hpp hd)
     rw [hpk] at HMT
     rw [hr] at hci
     have HP3:(0:Int)≤(r:Int)∧(r:Int) < (g.length:Int):=⟨by omega,by omega⟩
     obtain ⟨bY,oY,cs',hbe',hcl',hT',hc'⟩:=(HX1.out.ext OwnQ.ext (eT hX7.out hX9.out)).at dC r hrg
     simp only [Option.some.injEq,Addr.mk.injEq,and_true] at hbe'
     obtain ⟨rfl,rfl⟩:=hbe'
     obtain ⟨p1,p2,p3,p4,rfl⟩:=cells_Q (OwnQ.rd hT')
     have CX:Hid (Bo w9 bX (oX+r*3) [.bool (decide (g[r].num < 0)),.slice p1 (limbs g[r].num.natAbs).length p2,.slice p3 (dens g[r].den).length p4]):=Bo.of hc'
     have HXE:Hid (OwnQ 156 0 w9 (.agg #[.bool (decide (g[r].num < 0)),.slice p1 (limbs g[r].num.natAbs).length p2,.slice p3 (dens g[r].den).length p4]) g[r]):=hT'
     have HS2:=qH (HXC.out _ (List.getElem_mem hrg))
     have HSD:Hid (Sz 348 (mxq ((pickQ g gg).take k) hd)):=mxq_all (Sz 348) _ _ HPH.out fun s hs=>HPS.out s (List.mem_of_mem_take hs)
     clear hT' hc' hcl' hz0 hz1 hr hpk hpp
     generalize Value.bool (decide (g[r].num < 0))=c0 at*
     generalize Value.slice p1 (limbs g[r].num.natAbs).length p2=c1 at*
     generalize Value.slice p3 (dens g[r].den).length p4=c2 at*
     generalize g[r]=gk at*
     generalize mxq ((pickQ g gg).take k) hd=dk at*
     generalize hd3:mxq ((pickQ g gg).take (k+1)) hd=dk2 at*
     have HD3:=qH hd3
     clear hd3
     obtain ⟨s0,d1,n1,g1,d2,n2,g2,T1,T2,T3⟩:=hQ.out.op
     go_upto_region 10 with (fail)
     clear hci
     have b10:=drew_ext w9
     have XE:=b10
     refine wp_region_noPanic ?_
     refine wp_region_last_drew (st:=6) (S:=fun w'=>(w'.cell? ⟨w7.heap.size,0,none⟩=some (.bool s0)∧w'.cell? ⟨w7.heap.size,1,none⟩=some (.slice d1 n1 g1)∧w'.cell? ⟨w7.heap.size,2,none⟩=some (.slice d2 n2 g2))∧(w'.cell? ⟨bX,oX+r*3,none⟩=some (c0)∧w'.cell? ⟨bX,oX+r*3+1,none⟩=some (c1)∧w'.cell? ⟨bX,oX+r*3+2,none⟩=some (c2))) kR (⟨(T1.out.ext XE).c3,(CX.out.ext XE).c3⟩) (fun hHeld=>?_)
     refine tkL 0 hHeld ?_
     simp only [jP,jJ]
     refine tkL 1 hHeld ?_
     simp only [jP,jJ]
     refine tkL 2 hHeld ?_
     simp only [jP,jJ]
     refine tkL 3 hHeld ?_
     simp only [jP,jJ]
     refine tkL 4 hHeld ?_
     simp only [jP,jJ]
     refine rdL 5 kR rfl (fun K hK=>?_)
     go_simp
     go_at_call 64;refine (max_ov (T3.out.ext XE) (HXE.out.ext XE) (HSD.out.le dC) (HS2.out.le dC)).mono ?_;rintro e w11 ⟨v11,rfl,b11,o11⟩;have O11:=qH o11;clear o11;(first | have XE:=eT XE b11 | have XE:=eT (eT XE (Ext.alloc _ _)) b11);obtain ⟨_,_,_,_,_,_,_,rfl,P11⟩:=O11.out.op
     go_wp2_with fail
     refine hK.out _ _ (⟨(T1.out.ext XE).c3,(CX.out.ext XE).c3⟩) (fun hHeld=>?_)
     clear hK K
     try simp only [jP,jJ]
     obtain ⟨_,_,_,j0,j1,j2,i0,i1,i2⟩:=(T2.out.ext XE).rm.c3
     refine wpAnyL_ready (rs:=[6]) kR (by simp) ?_
     refine AllReadyL.last (o:=_) rfl (fun K hK=>?_)
     go_simp
     refine hK.out _ _ ?_
     clear hK K
     try simp only [jP,jJ]
     refine wpAnyL_done kR ?_ _
     refine NoPanic.normal ?_
     go_wp2_with fail
     go_roundw
     case rel=>exact ⟨k+1,by go_num,by omega,put3_below (eT hX9.out XE) (Nat.le_refl _) _ _ _,by rw [HD3.out,HMT.out];exact Bq.set (T2.out.ext XE) P11.out⟩
     simp [intOf]<;>omega
    obtain rfl:k=gg.length:=by omega
    have hd2:=dF ((gg.length:Int) < (gg.length:Int))
    rw [List.take_of_length_le (by rw [pickQ_len];exact Nat.le_refl _)] at hQ
    obtain ⟨s0,d1,n1,g1,d2,n2,g2,T1,-,T3⟩:=hQ.out.op
    obtain ⟨k0,k1,k2⟩:=T1.out.c3
    have hX79:=eT hX7.out hX9.out
    have hO9:=qH (hO7.out.ext OwnQ.ext hX9.out)
    generalize mxq (pickQ g gg) hd=dq at*
    go_wp2_with (at_builtin;refine append_rowL (y:=dq) etRats (kdQn dC) rF _ _ rF w1.heap.size rF _ rF hO9.out rfl T3.out (Below.size hX79) (by have:=HYK.out;omega) (by have:=HYK.out;unfold maxLen;omega) ?_;intro v20 w20 o20 b20 g20)
    go_roundw
    case rel=>exact ⟨j+1,by go_num,by omega,Below.trans hX79 b20,by rw [HY2.out,HSN.out];exact o20⟩
    simp [intOf]<;>omega
  obtain rfl:j=l.G.length:=by omega
  have hd1:=dF ((l.G.length:Int) < (l.G.length:Int))
  rw [List.take_of_length_le (by have:=HYL.out;omega)] at hO7
  go_wp2_with fail
  exact hR.out _ _ (Gives.mk (eT b1 hX7.out) (by rw [HYS.out];exact hO7.out.mono (Nat.zero_le _)))
open Go.RowKit Go.Att

theorem cloneQ_any {w:World} {v:Value} {l:List Rat} (h:RdRow 3 QnN w v l) (hn:l.length≤1000):
  Calls Tryz.prog 41 #[v] w (Gives w fun v' w'=>OwnRow 3 QnN 38 w.heap.size w' v' l):=by
 refine via fun R hR=>?_
 have hnil:∀ (w:World) (a:Option Addr) (n c:Nat),(binOp .eql 55 (.slice a n c) (.slice none 0 0)).run Tryz.prog w=.ok (.bool a.isNone) w:=fun w a n c=>Lib.run_eql_slice_nil w 55 38 a n c 0 0 kR
 have HV:=qH h
 obtain ⟨a,c,rfl,h1,h2⟩:=h.shape
 cases a with
 | none=>
  have hc:c=0∧l=[]:=by
   obtain ⟨E,⟨h0,a',c',hv,_,_,h3,_⟩,hp⟩:=h
   simp only [Value.slice.injEq] at hv
   obtain ⟨rfl,_,rfl⟩:=hv
   have hc0:=h3 rfl
   exact ⟨hc0,List.eq_nil_of_length_eq_zero oM⟩
  obtain ⟨rfl,rfl⟩:=hc
  clear h h1 h2
  go_enter Tryz.func41,Tryz.ntmps41
  go_wp2_with fail
  exact hR.out _ _ (Gives.mk (Ext.refl _) (OwnRow.nil _ _ _))
 | some ad=>
  clear h h1 h2
  go_enter Tryz.func41,Tryz.ntmps41
  go_wp2_with (at_builtin;refine append_rowAL (l:=[]) (m:=l) etRats (kdQn dC) rF _ _ rF w.heap.size rF (OwnRow.nilLit _ (Nat.le_refl _)) rF (HV.out.ext OwnQ.ext (Ext.alloc _ _)) (by simp;omega) (by unfold maxLen;simp;omega) (by simp) ?_;intro v9 w9 o9 b9 g9)
  exact hR.out _ _ (Gives.mk (Below.trans (Ext.alloc _ _) b9) (by simpa using o9))
theorem _root_.Go.Att.RdRow.rowOf {α:Type} {k:Nat} {T:World→Value→α→Prop} {e:TypeId} {w:World} {a:Option Addr} {n c:Nat} {l:List (List α)} (h:RdRow 1 (RowO k T e) w (.slice a n c) l) (i:Nat) (hi:i < l.length) {y:List α} (hy:l[i]=y):
  ∃ b off x m,a=some ⟨b,off,none⟩∧Hid (Bo w b (off+i) [.slice x y.length m])∧OwnRow k T e 0 w (.slice x y.length m) y:=by
 subst hy
 obtain ⟨b,off,x,m,he,hc,ho⟩:=h.rowO i hi
 exact ⟨b,off,x,m,he,qH (Bo.one hc),ho⟩
theorem etQr:ElemT Tryz.prog 79 55 (.slice none 0 0) 1 24:=ElemT.mk' Tryz.underlying79 kR rfl dC
theorem trace_any {w:World} {v0 v1:Value} {n:Nt Rat} {x:List (Rat × Rat)} {p:List Rat} (hv:RdNet QnN w v0 n) (hp:RdRow 3 QnN w v1 p) (hl:lit n) (hs:∀ l∈n.2,SzL l) (hin:InR x p) (hw:0 < wds n.2 n.1) (hxz:(x.length:Int)=n.1) (hps:SzV 8 p):
  Calls Tryz.prog 15 #[v0,v1] w (Gives w fun v' w'=>∃ o,v'=.tuple #[o,.int .i64 0]∧OwnRow 1 QnW 55 0 w' o (trcL n.2 p (n.2.length+1))):=by
 refine via fun R hR=>?_
 obtain ⟨z,ls⟩:=n
 have HWI:Hid (∀ w',Ext w w'→Calls Tryz.prog 36 #[v0] w' (Gives w' fun v' _=>∃ a m c,v'=.tuple #[.slice a m c,.int .i64 0])):=fun w' x=>by
  have h:=widths_any (hv.ext OwnQ.ext x) hl
  rw [if_pos hw] at h
  exact h
 obtain ⟨a,c,rfl,hlc,hcm,hr⟩:=hv.op
 have HV:=qH hr
 have HZ:Hid (ls.length≤3):=hl.2.1
 have HZ4:Hid (z≤4):=hl.1
 have HLT:Hid (∀ l∈ls,litL l):=hl.2.2
 have HSL:Hid (∀ l∈ls,SzL l):=hs
 have HWD:Hid (0 < wds ls z):=hw
 have HXZ:Hid ((x.length:Int)=z):=hxz
 have HIN:Hid (InR x p):=hin
 have HPS:Hid (SzV 8 p):=hps
 have HPL:Hid ((p.length:Int)=z):=by show _=_;rw [← hin.len];exact hxz
 have HP4:Hid (p.length≤4):=by have h1:=HPL.out;have h2:=HZ4.out;show _≤_;omega
 obtain ⟨ax,cx,rfl,hxc,hxm⟩:=hp.shape
 have HCL:Hid (∀ w',Ext w w'→Calls Tryz.prog 41 #[.slice ax p.length cx] w' (Gives w' fun v' w'=>OwnRow 3 QnN 38 0 w' v' p)):=fun w' x=>(cloneQ_any (hp.ext OwnQ.ext x) (by have:=HP4.out;omega)).mono fun _ _ ⟨v,e,b,o⟩=>⟨v,e,b,o.mono (Nat.zero_le _)⟩
 dsimp only at hlc hcm HV
 unfold maxLen at hcm hxm
 clear hv hr hl hs hp hin hw hxz hps
 obtain ⟨w1,hw1,b1,c1,-,-⟩:=bx1 w [.int .i64 z,.slice a ls.length c] 47
 have HW:=qH hw1
 have C1:=qH c1
 obtain ⟨j0,j1⟩:=c1.c2
 have hne:((p.length:Int) != z)=false:=by rw [HPL.out];exact bne_self_eq_false _
 clear hw1 c1
 go_enter Tryz.func15,Tryz.ntmps15
 go_upto_region 1 with (fail)
 rw [← HW.out]
 clear HW
 go_wp2_with fail
 refine (HWI.out _ b1).mono ?_
 rintro e w2 ⟨_,rfl,b2,ad,md,cd,rfl⟩
 clear j0 j1 HWI
 obtain ⟨j0,j1⟩:=(C1.out.ext b2).c2
 go_wp2_with fail
 refine (HCL.out _ (eT b1 b2)).mono ?_
 rintro e w3 ⟨v3,rfl,b3,o3⟩
 clear j0 j1 hne HCL
 have HO3:=qH o3
 obtain ⟨a3,k3,rfl,-,-⟩:=o3.rd.shape
 clear o3
 obtain ⟨w5,hw5,hX5,-,-,-⟩:=bx1 w3 [.slice a3 p.length k3] 55
 have hO5:Hid (OwnRow 1 QnW 55 w1.heap.size w5 (.slice (some ⟨w3.heap.size,0,none⟩) 1 1) (trcL ls p 1)):=by
  show OwnRow _ _ _ _ _ _ _
  rw [hw5]
  exact OwnRow.litOne (T:=QnW) qnw_ext _ (w:=w3) (cs:=[.slice a3 p.length k3]) (y:=p) (Below.size (eT b2 b3)) rfl ⟨_,_,rfl,HO3.out⟩
 have HW5:=qH hw5
 clear hw5
 go_upto_region 7 with (fail)
 rw [← HW5.out]
 clear HW5
 have X15:=qH (eT b2 (eT b3 hX5))
 obtain ⟨j0,j1⟩:=(C1.out.ext X15.out).c2
 go_wp2_with fail
 clear j0 j1
 go_loopw [8,30] (fun vo t wr=>∃ i:Nat,t=.int .i64 i∧i≤ls.length∧Hid (Ext w1 wr)∧Hid (OwnRow 1 QnW 55 w1.heap.size wr vo (trcL ls p (i+1)))) (fun _ t _=>ls.length - (intOf t).toNat)
 case atStart=>exact ⟨0,rfl,Nat.zero_le _,X15,hO5⟩
 case round=>
  clear hO5 hX5 X15 b3 b2 HO3
  obtain ⟨i,rfl,hi,hX,hOo⟩:=hrel
  obtain ⟨wo,hwo⟩:∃ w0:World,w0=wr:=⟨_,rfl⟩
  subst hwo
  have hi3:=HZ.out
  obtain ⟨ao2,co2,hvo,-,-⟩:=hOo.out.rd.shape
  rw [trcL_len] at hvo
  subst hvo
  by_cases hlt:i < ls.length
  ·have hd:=dT ((i:Int) < (ls.length:Int))
   have HJ1:IntKind.i64.wrap ((i:Int)+1)=((i+1:Nat):Int):=by rw [IntKind.wrap_i64];omega
   have HJ2:IntKind.i64.wrap (i:Int)=(i:Int):=by rw [IntKind.wrap_i64];omega
   have HI2:(0:Int)≤(i:Int)∧(i:Int) < (ls.length:Int):=⟨by omega,by omega⟩
   have HI3:(0:Int)≤(i:Int)∧(i:Int) < (i:Int)+1:=⟨by omega,by omega⟩
   have hxw:=eT b1 hX.out
   obtain ⟨bL,oL,aw,mw,ab,mb,ag,mg,hae,hbo,hRW,hRB,hRG⟩:=(HV.out.ext (fun h x=>RdLay.ext h OwnQ.ext x) hxw).lay i hlt
   subst hae
   have HLL:Hid (litL ls[i]):=HLT.out _ (List.getElem_mem hlt)
   have HSS:Hid (SzL ls[i]):=HSL.out _ (List.getElem_mem hlt)
   have HXA:=qH (vat_succ (x:=p) hlt)
   have HXI:Hid (((vat ls p i).length:Int)=wds (ls.take i) z):=by
    show _=_
    rw [← (HIN.out.run (ls:=ls) i hi).len]
    exact xat_len HWD.out HXZ.out i hi
   have HXC:Hid (SzV 348 (vat ls p i)):=(vat_sz HWD.out HXZ.out HZ4.out HLT.out HSL.out HIN.out HPS.out i hi).le (cN_le oM)
   have HW4:Hid (wds (ls.take i) z≤4):=wds_le HWD.out HZ4.out HLT.out i hi
   have HWT:=qH (wdt_at HWD.out i hlt).2
   obtain ⟨l,hl⟩:∃ l,ls[i]=l:=⟨_,rfl⟩
   rw [hl] at hbo hRW hRB hRG HLL HSS HXA HWT
   clear hl
   obtain ⟨bT,oT,p0,q0,haT,CT0,HR0⟩:=hOo.out.rd.rowOf i (by rw [trcL_len];omega) (trcL_at (by rw [trcL_len];omega))
   subst haT
   obtain ⟨g,hg⟩:∃ g,vat ls p i=g:=⟨_,rfl⟩
   rw [hg] at HXA HXI HXC CT0 HR0
   clear hg
   generalize wds (ls.take i) z=wn at*
   obtain ⟨u0,u1,u2,u3⟩:=hbo.c4
   obtain ⟨w6,hw6,b6,c6,-,-⟩:=bx1 wo [.int .i64 l.K,.slice aw l.W.length mw,.slice ab l.B.length mb,.slice ag l.G.length mg] 129
   have HW:=qH hw6
   have C6:=qH c6
   have HLAY:Hid (RdLay QnN w6 (.agg #[.int .i64 l.K,.slice aw l.W.length mw,.slice ab l.B.length mb,.slice ag l.G.length mg]) l):=RdLay.ext ⟨_,_,_,rfl,hRW,hRB,hRG⟩ OwnQ.ext b6
   have HST:Hid (∀ w',Ext w6 w'→Calls Tryz.prog 42 #[.agg #[.int .i64 l.K,.slice aw l.W.length mw,.slice ab l.B.length mb,.slice ag l.G.length mg],.slice p0 g.length q0] w' (Gives w' fun v' w'=>OwnRow 3 QnN 38 0 w' v' (stepQ l g))):=fun w' x=>step15_any (HLAY.out.ext OwnQ.ext x) (HR0.rd.ext OwnQ.ext (eT b6 x)) HWT.out HXI.out HW4.out HLL.out HSS.out HXC.out
   have CT6:=qH (CT0.out.ext b6)
   have hO6:=qH (hOo.out.ext qnw_ext b6)
   clear hw6 c6 hRW hRB hRG hbo HLAY HR0
   have HTS:=qH (trcL_succ (ls:=ls) (x:=p) (k:=i+1))
   rw [HXA.out] at HTS
   have HTL:Hid ((trcL ls p (i+1)).length≤4):=by show _≤_;rw [trcL_len];omega
   have HLE:Hid ((trcL ls p (i+1)).length=i+1):=trcL_len
   generalize trcL ls p (i+1)=tl at*
   generalize hy3:trcL ls p (i+1+1)=tl2 at*
   have HY3:=qH hy3
   clear hy3
   obtain ⟨ys,hys⟩:∃ ys,stepQ l g=ys:=⟨_,rfl⟩
   rw [hys] at HTS HST
   clear hys
   have hX6:=eT hX.out b6
   have hsz6:w1.heap.size≤w6.heap.size:=Below.size hX6
   have hne8:(Value.slice (some ⟨bT,oT,none⟩) (i+1) co2).ownBlock≠some wo.heap.size:=fun h=>by
    obtain ⟨E,hE,-⟩:=hOo.out
    exact Nat.lt_irrefl _ (World.ownsRow.lt hE _ h).2
   go_upto_region 10 with (fail)
   rw [← HW.out]
   clear HW u0 u1 u2 u3
   have b7:=drew_ext w6
   have XE:=b7
   refine wp_region_noPanic ?_
   refine wp_region_held_drew (S:=fun w'=>(w'.cell? ⟨wo.heap.size,0,none⟩=some (.int .i64 l.K)∧w'.cell? ⟨wo.heap.size,1,none⟩=some (.slice aw l.W.length mw)∧w'.cell? ⟨wo.heap.size,2,none⟩=some (.slice ab l.B.length mb)∧w'.cell? ⟨wo.heap.size,3,none⟩=some (.slice ag l.G.length mg))∧(w'.cell? ⟨bT,oT+i,none⟩=some (.slice p0 g.length q0))) kR (⟨(C6.out.ext XE).c4,(CT6.out.ext XE).c1⟩) (fun hHeld=>?_)
   refine tkH 0 hHeld ?_
   simp only [jP,jJ]
   refine tkH 1 hHeld ?_
   simp only [jP,jJ]
   refine tkH 2 hHeld ?_
   simp only [jP,jJ]
   refine tkH 3 hHeld ?_
   simp only [jP,jJ]
   refine tkH 4 hHeld ?_
   simp only [jP,jJ]
   refine tkH 5 hHeld ?_
   simp only [jP,jJ]
   refine tkH 6 hHeld ?_
   simp only [jP,jJ]
   refine tkH 7 hHeld ?_
   simp only [jP,jJ]
   refine rdH 8 kR rfl (fun K hK=>?_)
   go_simp
   go_at_call 42;refine (HST.out _ XE).mono ?_;rintro e w8 ⟨v8,rfl,b8,o8⟩;have O8:=qH o8;clear o8;(first | have XE:=eT XE b8 | have XE:=eT (eT XE (Ext.alloc _ _)) b8);obtain ⟨ar,kr,rfl,hro⟩:=RowO.of O8.out
   go_wp2_with fail
   refine hK.out _ _ (⟨(C6.out.ext XE).c4,(CT6.out.ext XE).c1⟩) (fun hHeld=>?_)
   clear hK K
   try simp only [jP,jJ]
   refine rdH 9 kR rfl (fun K hK=>?_)
   refine if_wantedL rfl ?_
   refine build1K etQr rF (T:=QnW) qnw_ext rF [.slice ar ys.length kr] (fill_s1 ..) rfl dC (y:=ys) hro ?_
   intro g20 w20 x20 _ l20
   have XE:=eT XE x20
   have L20:=qH l20.rd
   clear l20
   refine hK.out _ _ ⟨(C6.out.ext XE).c4,(CT6.out.ext XE).c1⟩ (fun hHeld=>?_)
   clear hK K
   try simp only [jP,jJ]
   refine rdH 10 kR rfl (fun K hK=>?_)
   refine if_wantedL rfl ?_
   refine append_rowK etQr (kdQw dC dC) _ _ rF w1.heap.size rF (hO6.out.ext qnw_ext XE) rF L20.out (by have:=HTL.out;omega) (by have:=HTL.out;unfold maxLen;omega) (Nat.le_trans hsz6 (Below.size XE)) ?_
   intro v21 w21 o21 b21 g21 k21
   have XW:=qH (Below.trans hX6 (Below.trans (Below.mono XE hsz6) b21))
   have O21:=qH o21
   refine hK.out _ _ ⟨((C6.out.ext XE).grow g21 hne8).c4,k21 bT oT co2 i _ (by rw [HLE.out]) (by rw [HLE.out];omega) (CT6.out.ext XE).c1⟩ (fun hHeld=>?_)
   clear hK K o21
   try simp only [jP,jJ]
   refine tkH 11 hHeld ?_
   simp only [jP,jJ]
   refine dnH kR ?_
   go_wp2_with fail
   go_roundw
   case rel=>exact ⟨i+1,by go_num,by omega,XW.out,by rw [HY3.out,HTS.out];exact O21.out⟩
   simp [intOf]<;>omega
  obtain rfl:i=ls.length:=by omega
  have hd:=dF ((ls.length:Int) < (ls.length:Int))
  go_wp2_with fail
  exact hR.out _ _ (Gives.mk (eT b1 hX.out) ⟨_,rfl,hOo.out.mono (Nat.zero_le _)⟩)
end Go.Proofs.YtmlhccajicmpfaaGreat
