/- A group of texts: FmB, PTold11 -/
import Derived.Test.YtmlhccajicmpfaaGreatSq
import Derived.Test.YtmlhccajicmpfaaGreatPartBH
import Derived.Test.YtmlhccajicmpfaaGreatPartBB
set_option maxHeartbeats 40000000
set_option maxRecDepth 100000
set_option linter.unusedSimpArgs false
namespace Go.Att
open Go.RowKit

theorem cell_same {w w':World} {b o:Nat} (h:w'.heap[b]?=w.heap[b]?):w'.cell? ⟨b,o,none⟩=w.cell? ⟨b,o,none⟩:=by
 simp [World.cell?,h]
theorem RdV.keepB {w w':World} {v:Value} {size n:Nat} {cells:List Value} (h:RdV w v size n cells) (hk:∀ g,v.ownBlock=some g→0 < n→g < w.heap.size→w'.heap[g]?=w.heap[g]?):RdV w' v size n cells:=by
 obtain ⟨h0,a,cap,rfl,h1,h2,h3,h5⟩:=h
 refine ⟨h0,a,cap,rfl,h1,h2,h3,fun i hi=>?_⟩
 obtain ⟨b,off,rfl,hc⟩:=h5 i hi
 refine ⟨b,off,rfl,?_⟩
 have hn:0 < n:=by
            rcases Nat.eq_zero_or_pos n with rfl | h;· rw [Nat.zero_mul] at h0;omega
            ·exact h
 have hlt:=World.block_lt_of_cell? w ⟨b,off+i,none⟩ (hc.trans (List.getElem?_eq_getElem hi))
 rw [← hc]
 exact cell_same (hk b rfl hn hlt)
def RdFs (S:Nat→Prop):Nat→World→Value→Fm→Prop
 | 0=>fun _ _ _=>False
 | n+1=>fun w v f=>∃ s,v=.agg #[.int .i64 f.k,.int .i64 f.a,s]∧(∀ g,s.ownBlock=some g→0 < f.sub.length→S g)∧RdRow 3 (RdFs S n) w s f.sub
section
variable {w w':World} {v:Value} {f:Fm} {n:Nat} {S S':Nat→Prop}
theorem RdFs.rd:∀ {n:Nat} {v:Value} {f:Fm},RdFs S n w v f→RdFn n w v f
 | 0,_,_,h=>h.elim
 | n+1,_,_,h=>by
  obtain ⟨s,rfl,-,h⟩:=h
  exact ⟨s,rfl,RdRow.mono h fun _ _ h=>RdFs.rd h⟩
theorem RdRow.keepB {α:Type} {k:Nat} {T T':World→Value→α→Prop} {l:List α} (h:RdRow k T w v l) (hk:∀ g,v.ownBlock=some g→0 < l.length→g < w.heap.size→w'.heap[g]?=w.heap[g]?) (hT:∀ u a,T w u a→T' w' u a):RdRow k T' w' v l:=by
 obtain ⟨E,h1,h2⟩:=h
 exact ⟨E,h1.keepB hk,h2.mono fun _ _ h=>hT _ _ h⟩
theorem RdFs.keep (hk:∀ g,S g→g < w.heap.size→w'.heap[g]?=w.heap[g]?):∀ {n:Nat} {v:Value} {f:Fm},RdFs S n w v f→RdFs S n w' v f
 | 0,_,_,h=>h.elim
 | n+1,_,_,h=>by
  obtain ⟨s,rfl,hs,h⟩:=h
  exact ⟨s,rfl,hs,h.keepB (fun g h1 h2 h3=>hk g (hs g h1 h2) h3) fun _ _ h=>RdFs.keep hk h⟩
theorem RdFs.ext (h:RdFs S n w v f) (x:Ext w w'):RdFs S n w' v f:=h.keep fun g _ hg=>x.block g hg
theorem RdV.lt {size:Nat} {cells:List Value} (h:RdV w v size n cells) (hs:0 < size) (hn:0 < n):∀ g,v.ownBlock=some g→g < w.heap.size:=by
 obtain ⟨h0,a,cap,rfl,h1,h2,h3,h5⟩:=h
 intro g hg
 have hi:0 < cells.length:=by rw [h0];exact Nat.mul_pos hn hs
 obtain ⟨b,off,rfl,hc⟩:=h5 0 hi
 have hlt:b < w.heap.size:=World.block_lt_of_cell? w ⟨b,off+0,none⟩ (hc.trans (List.getElem?_eq_getElem hi))
 have hg':b=g:=by simpa [Value.ownBlock] using hg
 omega
theorem RdFs.to (hSS:∀ g,S g→g < w.heap.size→S' g):∀ {n:Nat} {v:Value} {f:Fm},RdFs S n w v f→RdFs S' n w v f
 | 0,_,_,h=>h.elim
 | n+1,_,_,h=>by
  obtain ⟨s,rfl,hs,h⟩:=h
  refine ⟨s,rfl,fun g h1 h2=>hSS g (hs g h1 h2) ?_,RdRow.mono h fun _ _ h=>RdFs.to hSS h⟩
  obtain ⟨E,hE,-⟩:=h
  exact hE.lt dC h2 g h1
theorem RdFn.old:∀ {n:Nat} {v:Value} {f:Fm},RdFn n w v f→RdFs (fun g=>g < w.heap.size) n w v f
 | 0,_,_,h=>h.elim
 | n+1,_,_,h=>by
  obtain ⟨s,rfl,h⟩:=h
  refine ⟨s,rfl,fun g h1 h2=>?_,RdRow.mono h fun _ _ h=>RdFn.old h⟩
  obtain ⟨E,hE,-⟩:=h
  exact hE.lt dC h2 g h1
theorem RdFs.succ:∀ {n:Nat} {v:Value} {f:Fm},RdFs S n w v f→RdFs S (n+1) w v f
 | 0,_,_,h=>h.elim
 | n+1,_,_,h=>by
  obtain ⟨s,rfl,hs,h⟩:=h
  exact ⟨s,rfl,hs,RdRow.mono h fun _ _ h=>RdFs.succ h⟩
theorem RdFs.le (h:RdFs S n w v f) {m:Nat} (hm:n≤m):RdFs S m w v f:=by
 induction hm with
 | refl=>exact h
 | step _ ih=>exact ih.succ
theorem RdFs.op (h:RdFs S (n+1) w v f):∃ a c,v=.agg #[.int .i64 f.k,.int .i64 f.a,.slice a f.sub.length c]∧RdRow 3 (RdFs S n) w (.slice a f.sub.length c) f.sub:=by
 obtain ⟨s,rfl,-,h⟩:=h
 obtain ⟨a,c,rfl,-,-⟩:=h.shape
 exact ⟨a,c,rfl,h⟩
theorem RdFs.shape (h:RdFs S n w v f):∃ a c,v=.agg #[.int .i64 f.k,.int .i64 f.a,.slice a f.sub.length c]:=by
 cases n with
 | zero=>exact h.elim
 | succ n=>
  obtain ⟨a,c,h,-⟩:=h.op
  exact ⟨a,c,h⟩
theorem RdFs.one {cs:List Value} (h:RdFs S n w (.agg cs.toArray) f):∀ u∈cs,u.oneCell'=true:=by
 obtain ⟨a,c,he⟩:=h.shape
 simp only [Value.agg.injEq] at he
 have he:=congrArg Array.toList he
 simp at he
 rw [he]
 intro u hu
 simp at hu
 rcases hu with rfl | rfl | rfl <;> rfl
end
def GrF (S:Nat→Prop) (n:Nat) (e:TypeId) (B:Nat) (w:World) (v:Value) (l:List Fm):Prop:=OwnRow 3 (RdFs (fun g=>S g∧v.ownBlock≠some g) n) e B w v l
section
variable {w w':World} {v:Value} {n B:Nat} {S:Nat→Prop} {e:TypeId} {l:List Fm}
theorem GrF.nil (S:Nat→Prop) (n:Nat) (e:TypeId) (B:Nat) (w:World):GrF S n e B w (.slice none 0 0) []:=OwnRow.nil _ _ _
theorem GrF.shape (h:GrF S n e B w v l):∃ a c,v=.slice a l.length c∧GrF S n e B w (.slice a l.length c) l:=by
 obtain ⟨a,c,rfl,-,-⟩:=(OwnRow.rd h).shape
 exact ⟨a,c,rfl,h⟩
theorem GrF.keep (h:GrF S n e B w v l) (hk:∀ g,S g∨v.ownBlock=some g→g < w.heap.size→w'.heap[g]?=w.heap[g]?):GrF S n e B w' v l:=by
 obtain ⟨E,hE,hP⟩:=h
 refine ⟨E,?_,hP.mono fun _ _ h=>RdFs.keep (fun g hg hlt=>hk g (.inl hg.1) hlt) h⟩
 obtain ⟨h1,h2⟩:=hE
 refine ⟨h1,?_⟩
 rcases h2 with h2 | ⟨g,cap,cur,hv,hg,hh,r⟩
 ·exact .inl h2
 exact .inr ⟨g,cap,cur,hv,hg,by rw [hk g (.inr (by rw [hv];rfl)) (Array.getElem?_eq_some_iff.1 hh).1];exact hh,r⟩
theorem GrF.ext (h:GrF S n e B w v l) (x:Ext w w'):GrF S n e B w' v l:=h.keep fun g _ hg=>x.block g hg
theorem GrF.rds {S':Nat→Prop} (h:GrF S n e B w v l) (hSS:∀ g,S g→g < w.heap.size→S' g):RdRow 3 (RdFs S' n) w v l:=by
 obtain ⟨E,hE,hP⟩:=h
 exact ⟨E,RdV.of_owns hE,hP.mono fun _ _ h=>RdFs.to (fun g hg hlt=>hSS g hg.1 hlt) h⟩
theorem GrF.lt (h:GrF S n e B w v l):∀ g,v.ownBlock=some g→B≤g∧g < w.heap.size:=OwnRow.lt h
theorem append_GrF {P:Program} {o:Oper} {a:Act} {K:Act→World→Prop} {Q:Exit→Act→World→Prop} {t:TypeId} {z:Value} {bytes:Nat} (ET:ElemT P t e z 3 bytes)
  (s x:Operand) (ho:o.op=.call { callee:=.builtin .append,args:=#[s,x],argTypes:=#[t,t] }) {y:Fm} (hs:a.eval s=v)
  (hown:GrF S n e B w v l) {ad:Addr} {c:Nat} (hx:a.eval x=.slice (some ad) 1 c) (hr:RdRow 3 (RdFs (fun g=>S g∧v.ownBlock≠some g) n) w (.slice (some ad) 1 c) [y]) (hl:(l.length+1)*bytes≤140737488355328) (hm:l.length+1≤maxLen) (hB:B≤w.heap.size)
  (h:∀ v' w',GrF S n e B w' v' (l ++ [y])→Below B w w'→w.grownBy w' v.ownBlock→(∀ g,v'.ownBlock=some g→v.ownBlock=some g∨w.heap.size≤g)→K (a.put o.dst v') w'):o.wp P a w K Q:=by
 obtain ⟨E,hE,hP⟩:=hown
 obtain ⟨F,hF,hPF⟩:=hr
 obtain ⟨i,hi,hz,hsz,hby⟩:=ET.inf
 have h1:∀ u∈F.flatten,u.oneCell'=true:=fun u hu=>by
  cases F with
  | nil=>simp at hu
  | cons f F=>
   have h2:=hPF.2
   cases F with
   | nil=>rw [List.flatten_cons,List.flatten_nil,List.append_nil] at hu;exact RdFs.one hPF.1.2 u hu
   | cons _ _=>exact h2.elim
 have hlen:F.flatten.length=1*3:=hF.1
 obtain ⟨v',w',hrun,h2,h3,-⟩:=run_append_own (P:=P) w B t o.type e i z 3 bytes ET.und hi hz hsz hby ET.cells ET.pos v l.length E.flatten hE ad 1 c F.flatten hlen (hF.news _ rfl) h1 hm hl hB
 have hw:=append_where (P:=P) w B t o.type e i z 3 bytes ET.und hi hz hsz hby v l.length E.flatten hE ad 1 c F.flatten hlen (hF.news _ rfl) h1 hm hl oM hrun
 have hb:Below B w w':=(Below.refl B _).grown h3 hB (fun k hk=>(hE.lt k hk).1)
 have key:∀ {u:Value} {f:Fm},RdFs (fun g=>S g∧v.ownBlock≠some g) n w u f→RdFs (fun g=>S g∧v'.ownBlock≠some g) n w' u f:=fun h=>by
  have hss:∀ g,(S g∧v.ownBlock≠some g)→g < w.heap.size→((S g∧v.ownBlock≠some g)∧v'.ownBlock≠some g):=by
   intro g hg hlt
   refine ⟨hg,fun he=>?_⟩
   rcases hw g he with h6 | h6
   ·exact hg.2 h6
   omega
  have h5:=RdFs.to hss h
  have hkk:∀ g,((S g∧v.ownBlock≠some g)∧v'.ownBlock≠some g)→g < w.heap.size→w'.heap[g]?=w.heap[g]?:=fun g hg hlt=>h3.block g hlt fun he=>hg.1.2 he.symm
  have h6:=RdFs.keep hkk h5
  have hst:∀ g,((S g∧v.ownBlock≠some g)∧v'.ownBlock≠some g)→g < w'.heap.size→(S g∧v'.ownBlock≠some g):=fun g hg _=>⟨hg.1.1,hg.2⟩
  exact RdFs.to hst h6
 unfold Oper.wp execOp
 simp only [ho,resolve,invoke,builtin,Sem.run_bind,Sem.run_pure,Result.andThen_ok,List.map_toArray,List.map_cons,List.map_nil,hs,hx,hrun]
 refine h v' w' ⟨E ++ F,?_,(hP.mono fun _ _ h=>key h).app (hPF.mono fun _ _ h=>key h)⟩ hb h3 hw
 rw [List.length_append,List.flatten_append]
 exact h2
theorem append_GrFL {P:Program} {ops:Array Oper} {rest:List Oper} {o:Oper} {a:Act} {Q:Exit→Act→World→Prop} {t:TypeId} {z:Value} {bytes:Nat} (ET:ElemT P t e z 3 bytes)
  (hgd:Region.wanted o (yielded ops a.tmps)=true) (s x:Operand) (ho:o.op=.call { callee:=.builtin .append,args:=#[s,x],argTypes:=#[t,t] }) {y:Fm} (hs:a.eval s=v)
  (hown:GrF S n e B w v l) {ad:Addr} {c:Nat} (hx:a.eval x=.slice (some ad) 1 c) (hr:RdRow 3 (RdFs (fun g=>S g∧v.ownBlock≠some g) n) w (.slice (some ad) 1 c) [y]) (hl:(l.length+1)*bytes≤140737488355328) (hm:l.length+1≤maxLen) (hB:B≤w.heap.size)
  (h:∀ v' w',GrF S n e B w' v' (l ++ [y])→Below B w w'→w.grownBy w' v.ownBlock→(∀ g,v'.ownBlock=some g→v.ownBlock=some g∨w.heap.size≤g)→wpList P ops Q rest (a.put o.dst v') w'):wpList P ops Q (o :: rest) a w:=
 wpList_want hgd fun _ hK=>append_GrF ET s x ho hs hown hx hr hl hm hB fun v' w' a1 a2 a3 a4=>hK _ _ (h v' w' a1 a2 a3 a4)
end
open Go.RowKit
theorem tldL_at {l:List Fm} {j:Nat} {z:Int} (h:j < l.length) (hz:¬ z≤0):tldL (l.drop j) z=((tldF l[j] z).1 :: (tldL (l.drop (j+1)) (tldF l[j] z).2).1,(tldL (l.drop (j+1)) (tldF l[j] z).2).2):=by
 rw [List.drop_eq_getElem_cons h]
 conv=>lhs;unfold tldL
 rw [if_neg hz]
theorem tldL_le {l:List Fm} {z:Int} (hz:z≤0):tldL l z=([],z):=by
 cases l with
 | nil=>unfold tldL;rfl
 | cons f l=>unfold tldL;rw [if_pos hz]
theorem tldL_end {l:List Fm} {z:Int}:tldL (l.drop l.length) z=([],z):=by
 rw [List.drop_length]
 unfold tldL
 rfl
theorem tldF_eq {f:Fm} {m:Int}:tldF f m=(.mk f.k f.a (tldL (f.sub.drop 0) (m - 1)).1,(tldL (f.sub.drop 0) (m - 1)).2):=by
 cases f
 conv=>lhs;unfold tldF
 rw [List.drop_zero]
 rfl
theorem fill_f1 (x0 x1 x2:Value):
  Instr.fill (fun i=>some (i*3,3)) ((Array.range (1*3)).map ((Value.agg #[.int .i64 0,.int .i64 0,.slice none 0 0]).cells[· % (Value.agg #[.int .i64 0,.int .i64 0,.slice none 0 0]).cells.size]!)) [(0,.agg #[x0,x1,x2])]=some #[x0,x1,x2]:=by kernel_rfl
theorem Rt.keepB {w w':World} {b n:Nat} {t:TypeId} (h:Rt w b n t) (hk:w'.heap[b]?=w.heap[b]?):Rt w' b n t:=by
 obtain ⟨cs,hn,h⟩:=h
 exact ⟨cs,hn,hk.trans h⟩
theorem meetF {w0 wv:World} {B:Nat} {t:TypeId} {x0 x1 x2:Value} (rB:Rt wv B 3 t) (hx:Ext w0 wv) (hB:w0.heap.size≤B):
  ∃ W,W=((wv.setCell ⟨B,0,none⟩ x0).setCell ⟨B,1,none⟩ x1).setCell ⟨B,2,none⟩ x2∧Ext w0 W∧Hid (Bx W B [x0,x1,x2])∧Hid (Rt W B 3 t)∧∀ g,g≠B→W.heap[g]?=wv.heap[g]?:=
 ⟨Att.putL wv B 0 [x0,x1,x2],rfl,putL_below hB _ _ hx,qH (rB.putL_at [x0,x1,x2] rfl).1,qH (rB.putL_at [x0,x1,x2] rfl).2,fun _ h=>putL_block B h _ _ _⟩
end Go.Att
namespace Go.Proofs.YtmlhccajicmpfaaGreat
open Go.RowKit Go.Att

theorem etFg:ElemT Tryz.prog 63 65 (.agg #[.int .i64 0,.int .i64 0,.slice none 0 0]) 3 40:=ElemT.mk' Tryz.underlying63 kR rfl dC
theorem told11_go:∀ (n:Nat) {w:World} {v:Value} {f:Fm} {m:Int},RdFn n w v f→1≤m→m≤20002→
  Calls Tryz.prog 93 #[v,.int .i64 m] w (Gives w fun v' w'=>∃ o,v'=.tuple #[o,.int .i64 (tldF f m).2]∧RdFs (fun g=>w.heap.size≤g) n w' o (tldF f m).1)
 | 0,_,_,_,_,h,_,_=>h.elim
 | n+1,w,v,f,m,hv,hm0,hm1=>by
  refine via fun R hR=>?_
  obtain ⟨x,c,rfl,hr⟩:=hv.op
  have HV:=qH hr
  have HIH:Hid (∀ {w:World} {v:Value} {f:Fm} {m:Int},RdFn n w v f→1≤m→m≤20002→
   Calls Tryz.prog 93 #[v,.int .i64 m] w (Gives w fun v' w'=>∃ o,v'=.tuple #[o,.int .i64 (tldF f m).2]∧RdFs (fun g=>w.heap.size≤g) n w' o (tldF f m).1)):=@told11_go n
  obtain ⟨w1,hw1,b1,c1,-,-,-,hs1⟩:=bx2 w [.int .i64 f.k,.int .i64 f.a,.slice x f.sub.length c] [.int .i64 0,.int .i64 0,.slice none 0 0] 29 65
  have HW:=qH hw1
  have C1:=qH c1
  have R1:Hid (Rt w1 (w.heap.size+1) 3 65):=by
   show Rt _ _ _ _
   rw [hw1]
   have:=Rt.new (w.alloc (.cells #[.int .i64 f.k,.int .i64 f.a,.slice x f.sub.length c] 29)) [.int .i64 0,.int .i64 0,.slice none 0 0] 65
   simpa using this
  have SZ1:=qH hs1
  clear hs1
  obtain ⟨j0,j1,j2⟩:=c1.c3
  have HE:=qH (tldF_eq (f:=f) (m:=m))
  have HK:Hid (1≤m∧m≤20002):=⟨hm0,hm1⟩
  have HMW:IntKind.i64.wrap (m - 1)=m - 1:=by rw [IntKind.wrap_i64];omega
  have hlc:Hid (f.sub.length≤maxLen):=by obtain ⟨_,_,he,h1,h2⟩:=HV.out.shape;exact qH (by simp only [Value.slice.injEq] at he;omega)
  clear hw1 c1 hv hr hm0 hm1
  obtain ⟨r,hr⟩:∃ r,tldF f m=r:=⟨_,rfl⟩
  rw [hr] at HE hR
  clear hr
  generalize f.sub=l at*
  generalize f.k=fk at*
  generalize f.a=fa at*
  go_enter Tryz.func93,Tryz.ntmps93
  go_upto_region 1 with (fail)
  rw [← HW.out]
  clear HW
  go_cut [6] (fun s6 wx=>∃ E:Nat,s6=.pointer (some ⟨E,0,none⟩)∧w1.heap.size≤E∧E < wx.heap.size∧Ext w1 wx∧Hid (Bx wx E [.int .i64 fk,.int .i64 fa,.slice none 0 0])∧Hid (Rt wx E 3 65))
  case first=>
   go_wp2_with fail
   go_meet
   exact ⟨_,rfl,Nat.le_refl _,(Rt.new w1 [_,_,_] _).lt,Ext.alloc _ _,Bx.new w1 [_,_,_] _,Rt.new w1 [_,_,_] _⟩
  case rest=>
   obtain ⟨E,rfl,hE1,hE2,hX2,hC2,hR2⟩:=hcut
   obtain ⟨w2,hw2⟩:∃ w0:World,w0=wc:=⟨_,rfl⟩
   subst hw2
   have HE1:=qH hE1
   clear hE1 j0 j1 j2
   obtain ⟨j0,j1,j2⟩:=(C1.out.ext hX2).c3
   have HEND:Hid (∀ (wr:World),Ext w1 wr→∀ {lo:List Fm} {ao:Option Addr} {ko:Nat},GrF (fun g=>E < g) n 65 (E+1) wr (.slice ao lo.length ko) lo→
     RdFs (fun g=>w.heap.size≤g) (n+1) (Att.putL wr (w.heap.size+1) 0 [.int .i64 fk,.int .i64 fa,.slice ao lo.length ko]) (.agg #[.int .i64 fk,.int .i64 fa,.slice ao lo.length ko]) (.mk fk fa lo)):=by
    intro wr hx lo ao ko hG
    have hE:=HE1.out
    have hS:=SZ1.out
    refine ⟨_,rfl,fun g hg _=>?_,?_⟩
    ·have:=(GrF.lt hG g hg).1
     omega
    exact (hG.keep (w':=Att.putL wr (w.heap.size+1) 0 [.int .i64 fk,.int .i64 fa,.slice ao lo.length ko]) (fun g hg hlt=>putL_block _ (by
     rcases hg with hg | hg
     ·omega
     have:=(GrF.lt hG g hg).1
     omega) _ _ _)).rds fun g hg _=>by omega
   go_wp2_with fail
   go_loopw [1,20] (fun q t wr=>∃ (j:Nat) (z:Int) (lo:List Fm) (ao:Option Addr) (ko:Nat),t=.int .i64 j∧q=.int .i64 z∧j≤l.length∧Hid (Ext w1 wr)∧Hid (Bx wr E [.int .i64 fk,.int .i64 fa,.slice ao lo.length ko])∧Hid (Rt wr E 3 65)∧Hid (GrF (fun g=>E < g) n 65 (E+1) wr (.slice ao lo.length ko) lo)∧Hid (0≤z∧z+lo.length≤20002∧lo.length=j∧r=(.mk fk fa (lo ++ (tldL (l.drop j) z).1),(tldL (l.drop j) z).2))) (fun _ t _=>l.length - (intOf t).toNat)
   case atStart=>exact ⟨0,m - 1,[],none,0,rfl,rfl,Nat.zero_le _,hX2,hC2,hR2,GrF.nil _ _ _ _ _,by have:=HK.out;omega,by have:=HK.out;simp only [List.length_nil];omega,rfl,HE.out⟩
   case round=>
    clear hC2 hR2 j0 j1 j2 hX2 hE2
    obtain ⟨j,z,lo,ao,ko,rfl,rfl,hj,hX,hC,hRt,hG,hZ⟩:=hrel
    obtain ⟨wo,hwo⟩:∃ w0:World,w0=wr:=⟨_,rfl⟩
    subst hwo
    by_cases hjl:j < l.length
    ·have hd:=dT ((j:Int) < (l.length:Int))
     have HJ2:(0:Int)≤(j:Int)∧(j:Int) < (l.length:Int):=⟨by omega,by omega⟩
     have HJ1:IntKind.i64.wrap ((j:Int)+1)=((j+1:Nat):Int):=by have:=hlc.out;unfold maxLen at this;rw [IntKind.wrap_i64];omega
     obtain ⟨bL,oL,y,mm,hae,hbo,hT⟩:=(RdRow.ext HV.out (fun h x=>RdFn.ext h x) (eT b1 hX.out)).part j hjl
     subst hae
     have HST:Hid (¬ z≤0→_):=tldL_at (z:=z) hjl
     obtain ⟨g,hg⟩:∃ g,l[j]=g:=⟨_,rfl⟩
     rw [hg] at hbo hT HST
     clear hg
     obtain ⟨u0,u1,u2⟩:=hbo.c3
     obtain ⟨w4,hw4,b4,c4,-,-⟩:=bx1 wo [.int .i64 g.k,.int .i64 g.a,.slice y g.sub.length mm] 29
     have HW:=qH hw4
     have C4:=qH c4
     have HT:=qH (RdFn.ext hT b4)
     clear hw4 c4 hbo hT
     go_upto_region 6 with (fail)
     rw [← HW.out]
     clear HW u0 u1 u2
     have hX4:=eT hX.out b4
     by_cases hz:z≤0
     ·have hd2:decide (z≤0)=true:=decide_eq_true hz
      have HV2:Hid (r=(.mk fk fa lo,z)):=by show _=_;rw [hZ.out.2.2.2,tldL_le hz,List.append_nil]
      clear hz
      obtain ⟨q0,q1,q2⟩:=((hC.out.ext b4)).c3
      obtain ⟨_,_,_,r0,r1,r2,g0,g1,g2⟩:=(R1.out.ext hX4).rm.c3
      go_wp2_with fail
      refine bodyPost_ret (v:=.tuple #[.agg #[.int .i64 fk,.int .i64 fa,.slice ao lo.length ko],.int .i64 z]) (by simp [results,Tryz.results93,go_sem,r0,r1,r2]) rfl ?_
      exact hR.out _ _ (Gives.mk (putL_below oM [_,_,_] 0 (eT b1 hX4)) ⟨_,by rw [HV2.out],by rw [HV2.out];exact HEND.out _ hX4 (hG.out.ext b4)⟩)
     have hd2:decide (z≤0)=false:=decide_eq_false hz
     have HSZ:=qH (tldF_sz g z oM)
     have HSP:=qH (szF_pos (tldF g z).1)
     have HST2:=qH (HST.out hz)
     have HZ1:Hid (1≤z):=qH oM
     clear hz HST
     obtain ⟨w5,hw5,b5,c5,-,hs5⟩:=bx1 w4 [.int .i64 0,.int .i64 0,.slice none 0 0] 65
     have HW:=qH hw5
     have HG9:=qH hs5
     have R5:Hid (Rt w5 w4.heap.size 3 65):=by show Rt _ _ _ _;rw [hw5];exact Rt.new w4 [_,_,_] _
     have HC:=qH (HIH.out (RdFn.ext HT.out b5) HZ1.out (by have:=hZ.out;omega))
     have C5:=qH (C4.out.ext b5)
     clear hw5 c5 hs5
     go_upto_region 8 with (fail)
     rw [← HW.out]
     clear HW hd2
     obtain ⟨u0,u1,u2⟩:=C5.out.c3
     obtain ⟨gf,hgf⟩:∃ gf,(tldF g z).1=gf:=⟨_,rfl⟩
     obtain ⟨z2,hz2⟩:∃ z2,(tldF g z).2=z2:=⟨_,rfl⟩
     rw [hgf,hz2] at HC HSZ HST2
     rw [hgf] at HSP
     clear hgf hz2
     generalize g.k=gk at*
     generalize g.a=ga at*
     generalize g.sub.length=gn at*
     go_wp2_with fail
     refine HC.out.mono ?_
     rintro e w6 ⟨_,rfl,b6,o,rfl,ho⟩
     obtain ⟨a6,k6,rfl⟩:=ho.shape
     have HO:=qH ho
     clear ho u0 u1 u2
     obtain ⟨_,_,_,n0,n1,n2,i0,i1,i2⟩:=(R5.out.ext b6).rm.c3
     obtain ⟨W7,hW7,hX7,hC7,hR7,hK7⟩:=meetF (w0:=w4) (x0:=.int .i64 gf.k) (x1:=.int .i64 gf.a) (x2:=.slice a6 gf.sub.length k6) (R5.out.ext b6) (eT b5 b6) (Nat.le_refl _)
     have HW:=qH hW7
     have HX7:=qH hX7
     have hsz5:=HG9.out
     have hE4:E < w4.heap.size:=(hRt.out.ext b4).lt
     have HEL:Hid (RdFs (fun g=>E < g∧(Value.slice ao lo.length ko).ownBlock≠some g) n W7 (.agg #[.int .i64 gf.k,.int .i64 gf.a,.slice a6 gf.sub.length k6]) gf):=by
      have h1:=RdFs.keep (w':=W7) (fun g (hg:w5.heap.size≤g) _=>hK7 g oM) HO.out
      have hg0:∀ g,w5.heap.size≤g→g < W7.heap.size→(E < g∧(Value.slice ao lo.length ko).ownBlock≠some g):=fun g hg _=>⟨by omega,fun he=>by
       have h2:=(GrF.lt hG.out g he).2
       have h3:=Below.size b4
       omega⟩
      exact RdFs.to hg0 h1
     have HG7:=qH (hG.out.ext (eT b4 hX7))
     have HC7:=qH (hC.out.ext (eT b4 hX7))
     have HR7:=qH (hRt.out.ext (eT b4 hX7))
     have HX17:=qH (eT hX4 hX7)
     have HE7:Hid (E+1≤W7.heap.size):=by have:=HR7.out.lt;exact qH oM
     have HNE:Hid ((Value.slice ao lo.length ko).ownBlock≠some E):=fun he=>by
      have:=(GrF.lt hG.out E he).1
      omega
     have HLN:Hid (lo.length≤20001):=by have:=hZ.out;have:=HZ1.out;exact qH oM
     have HZ2:Hid (0≤z2∧z2+(lo ++ [gf]).length≤20002∧(lo ++ [gf]).length=j+1∧r=(.mk fk fa ((lo ++ [gf]) ++ (tldL (l.drop (j+1)) z2).1),(tldL (l.drop (j+1)) z2).2)):=by
      have h1:=hZ.out
      have h2:=HSZ.out
      have h3:=HSP.out
      refine ⟨h2.1,by rw [List.length_append];simp only [List.length_cons,List.length_nil];omega,by rw [List.length_append];simp only [List.length_cons,List.length_nil];omega,?_⟩
      rw [h1.2.2.2,HST2.out,List.append_assoc]
      rfl
     obtain ⟨lo2,hlo2⟩:∃ x,lo ++ [gf]=x:=⟨_,rfl⟩
     rw [hlo2] at HZ2
     have HLO:=qH hlo2
     clear hlo2 hX7 hK7 hW7 HO hE4 hsz5 HSZ HSP HST2
     go_upto_region 9 with (fail)
     rw [← HW.out]
     clear HW n0 n1 n2 i0 i1 i2
     obtain ⟨q0,q1,q2⟩:=hC7.out.c3
     obtain ⟨e0,e1,e2⟩:=HC7.out.c3
     go_wp2_with (refine build1W etFg rF rF (T:=RdFs (fun g=>E < g∧(Value.slice ao lo.length ko).ownBlock≠some g) n) (fun h x=>RdFs.ext h x) rF [.int .i64 gf.k,.int .i64 gf.a,.slice a6 gf.sub.length k6] (fill_f1 ..) rfl dC HEL.out ?_;intro g8 w8 x8 _ l8;refine append_GrFL etFg rF _ _ rF rF (HG7.out.ext x8) rF l8.rd (by have:=HLN.out;omega) (by unfold maxLen;have:=HLN.out;omega) (Nat.le_trans HE7.out (Below.size x8)) ?_;intro v9 w9 o9 b9 g9 _;have RE9:=qH ((HR7.out.ext x8).grow g9 HNE.out);have CE9:=qH ((HC7.out.ext x8).grow g9 HNE.out);have O9:Hid (GrF (fun g=>E < g) n 65 (E+1) w9 v9 lo2):=(by rw [← HLO.out];exact o9);have XW:=qH (Below.trans (eT HX17.out x8) (Below.mono b9 (Nat.le_succ_of_le HE1.out)));obtain ⟨a11,k11,he9,o10⟩:=O9.out.shape;subst he9;obtain ⟨_,_,_,f0,f1,f2,e3,e4,e5⟩:=RE9.out.rm.c3)
     have HKE:∀ u,GrF (fun g=>E < g) n 65 (E+1) (Att.putL w9 E 2 [u]) (.slice a11 lo2.length k11) lo2:=fun u=>O9.out.keep (fun g hg hlt=>by
      have hne:g≠E:=by
       rcases hg with hg | hg
       ·omega
       have:=(GrF.lt O9.out g hg).1
       omega
      exact putL_block E hne _ _ _)
     go_roundw
     case rel=>exact ⟨j+1,z2,lo2,a11,k11,by go_num,rfl,by omega,putL_below HE1.out [_] 2 XW.out,CE9.out.setAt RE9.out 2 dC _,RE9.out.setAt 2 _,HKE _,HZ2.out⟩
     simp [intOf]<;>omega
    obtain rfl:j=l.length:=by omega
    have hd:=dF ((l.length:Int) < (l.length:Int))
    have HV2:Hid (r=(.mk fk fa lo,z)):=by show _=_;rw [hZ.out.2.2.2,tldL_end,List.append_nil]
    obtain ⟨q0,q1,q2⟩:=(hC.out).c3
    obtain ⟨_,_,_,r0,r1,r2,g0,g1,g2⟩:=(R1.out.ext hX.out).rm.c3
    go_wp2_with fail
    refine bodyPost_ret (v:=.tuple #[.agg #[.int .i64 fk,.int .i64 fa,.slice ao lo.length ko],.int .i64 z]) (by simp [results,Tryz.results93,go_sem,r0,r1,r2]) rfl ?_
    exact hR.out _ _ (Gives.mk (putL_below oM [_,_,_] 0 (eT b1 hX.out)) ⟨_,by rw [HV2.out],by rw [HV2.out];exact HEND.out _ hX.out hG.out⟩)
theorem told11_own {w:World} {v:Value} {f:Fm} (hv:RdFm w v f):
  Calls Tryz.prog 58 #[v] w (Gives w fun v' w'=>∃ n,RdFs (fun g=>w.heap.size≤g) n w' v' (tldF f 20002).1):=by
 refine via fun R hR=>?_
 obtain ⟨n,hn⟩:=hv
 have hv:RdFm w v f:=⟨n,hn⟩
 obtain ⟨x,c,_,rfl,-⟩:=hv.op
 obtain ⟨w1,hw1,b1,c1,-,-,-,hs1⟩:=bx2 w [.int .i64 f.k,.int .i64 f.a,.slice x f.sub.length c] [.int .i64 0,.int .i64 0,.slice none 0 0] 29 65
 have HW:=qH hw1
 have HS1:=qH hs1
 have R1:Hid (Rt w1 (w.heap.size+1) 3 65):=by
  show Rt _ _ _ _
  rw [hw1]
  have:=Rt.new (w.alloc (.cells #[.int .i64 f.k,.int .i64 f.a,.slice x f.sub.length c] 29)) [.int .i64 0,.int .i64 0,.slice none 0 0] 65
  simpa using this
 have HC:=qH (told11_go n (hn.ext b1) (m:=20002) dC dC)
 obtain ⟨j0,j1,j2⟩:=c1.c3
 clear hw1 hs1 c1 hv hn
 obtain ⟨gf,hgf⟩:∃ gf,(tldF f 20002).1=gf:=⟨_,rfl⟩
 rw [hgf] at HC hR
 generalize (tldF f 20002).2=z2 at*
 clear hgf
 generalize f.k=fk at*
 generalize f.a=fa at*
 generalize f.sub.length=fl at*
 go_enter Tryz.func58,Tryz.ntmps58
 go_upto_region 1 with (fail)
 rw [← HW.out]
 clear HW
 go_wp2_with fail
 refine HC.out.mono ?_
 rintro e w6 ⟨_,rfl,b6,o,rfl,ho⟩
 obtain ⟨a6,k6,rfl⟩:=ho.shape
 have HO:=qH ho
 clear ho j0 j1 j2
 obtain ⟨w7,hw7,b7,c7,-,-⟩:=bx1 w6 [.int .i64 gf.k,.int .i64 gf.a,.slice a6 gf.sub.length k6] 65
 have HW:=qH hw7
 have hX7:=eT b6 b7
 obtain ⟨q0,q1,q2⟩:=c7.c3
 clear hw7 c7
 go_upto_region 2 with (fail)
 rw [← HW.out]
 clear HW
 obtain ⟨_,_,_,r0,r1,r2,g0,g1,g2⟩:=(R1.out.ext hX7).rm.c3
 go_wp2_with fail
 refine bodyPost_ret (v:=.agg #[.int .i64 gf.k,.int .i64 gf.a,.slice a6 gf.sub.length k6]) (by simp [results,Tryz.results58,go_sem,r0,r1,r2]) rfl ?_
 have h1:=HS1.out
 exact hR.out _ _ (Gives.mk (putL_below oM [_,_,_] 0 (eT b1 hX7)) ⟨n,RdFs.to (fun g (hg:w1.heap.size≤g) _=>by omega) (RdFs.keep (w':=Att.putL w7 (w.heap.size+1) 0 [_,_,_]) (fun g (hg:w1.heap.size≤g) _=>putL_block _ oM _ _ _) (HO.out.ext b7))⟩)
end Go.Proofs.YtmlhccajicmpfaaGreat
