/- A network as it comes in, opened. -/
import Derived.Test.YtnbbhpihlcglgaaFrameE
import Derived.Test.YtnbbhpihlcglgaaNet
namespace Go.Proofs.Ytnbbhpihlcglgaa
open Go.ChangeShapes Go.WideShapes Go.ChangeAt Go.RowKit Go.Att Go.Joins

theorem trod_four {H:Type} {enc:TypeId × Value→H} {P:Program} {W:World} {base:Nat} {spare:Nat→Bool} {held:Bool} {t:TypeId} {f0 f1 f2 f3:Field} {fuel:Nat} {cs:List Value} {x:DataW H × List MemPlace} (ht:P.underlying t=some (.struct #[f0,f1,f2,f3])) (h:DataW.trod enc P W base spare held fuel t cs=some x):
  ∃ y0 y1 y2 y3 n,cs.length=P.cellsOf t∧DataW.trod enc P W base spare held n f0.type ((cs.drop f0.offset).take (P.cellsOf f0.type))=some y0∧
   DataW.trod enc P W base spare held n f1.type ((cs.drop f1.offset).take (P.cellsOf f1.type))=some y1∧
   DataW.trod enc P W base spare held n f2.type ((cs.drop f2.offset).take (P.cellsOf f2.type))=some y2∧
   DataW.trod enc P W base spare held n f3.type ((cs.drop f3.offset).take (P.cellsOf f3.type))=some y3:=by
 obtain ⟨xs,n,_,rfl,hl,hlen,hf⟩:=DataW.trod_struct ht h
 match xs,hlen with
 | [y0,y1,y2,y3],_=>exact ⟨y0,y1,y2,y3,n,hl,by simpa using hf 0 f0 rfl,by simpa using hf 1 f1 rfl,by simpa using hf 2 f2 rfl,by simpa using hf 3 f3 rfl⟩
theorem trod_row {H α:Type} [Inhabited α] {enc:TypeId × Value→H} {P:Program} {W:World} {spare:Nat→Bool} {held:Bool} {t e:TypeId} {k:Nat} {T:World→Value→α→Prop} {fuel:Nat} {cs:List Value} {y:DataW H × List MemPlace}
  (ht:P.underlying t=some (.slice e)) (hC:P.cellsOf e=k) (hk:0 < k)
  (hel:∀ n cs y,DataW.trod enc P W 0 spare held n e cs=some y→∃ a:α,cs.length=k∧T W (.agg cs.toArray) a)
  (h:DataW.trod enc P W 0 spare held fuel t cs=some y):∃ l:List α,cs.length=1∧RowT k T W (.agg cs.toArray) l:=by
 obtain ⟨a0,l0,k0,rfl⟩:=slice_form ht h
 obtain ⟨l,rd,-,-⟩:=row_of (T:=T) (g:=fun _=>0) (k:=k) (d:=y.1) (ps:=y.2) ht hC hk (fun n cs y hy=>by
  obtain ⟨a,h1,h2⟩:=hel n cs y hy
  exact ⟨a,h1,h2,Nat.zero_le _⟩) h
 obtain ⟨a,c,he,-,-⟩:=rd.shape
 simp only [Value.slice.injEq] at he
 obtain ⟨rfl,rfl,rfl⟩:=he
 exact ⟨l,rfl,a0,k0,rfl,rd⟩
theorem trod_RowN {H:Type} {enc:TypeId × Value→H} {W:World} {spare:Nat→Bool} {held:Bool} {fuel:Nat} {cs:List Value} {y:DataW H × List MemPlace}
  (h:DataW.trod enc Try.prog W 0 spare held fuel 22 cs=some y):∃ l:List NN,cs.length=1∧RowT 3 RdNp W (.agg cs.toArray) l:=
 trod_row Try.underlying22 (by kernel_rfl) (by decide) (fun n cs y hy=>by
  obtain ⟨x0,x1,x2,s,xs,ys,rfl,r0,-⟩:=trod_N hy
  exact ⟨(s,xs,ys),rfl,r0⟩) h
theorem trod_RowI {H:Type} {enc:TypeId × Value→H} {W:World} {spare:Nat→Bool} {held:Bool} {fuel:Nat} {cs:List Value} {y:DataW H × List MemPlace}
  (h:DataW.trod enc Try.prog W 0 spare held fuel 65 cs=some y):∃ l:List Int,cs.length=1∧RowT 1 IntT W (.agg cs.toArray) l:=
 trod_row Try.underlying65 (by kernel_rfl) (by decide) (fun n cs y hy=>by
  obtain ⟨z,rfl,-,-⟩:=DataW.trod_int Try.underlying3 hy
  exact ⟨z,rfl,rfl⟩) h
set_option maxRecDepth 100000 in
theorem trod_Lay {H:Type} {enc:TypeId × Value→H} {W:World} {spare:Nat→Bool} {held:Bool} {fuel:Nat} {cs:List Value} {y:DataW H × List MemPlace}
  (h:DataW.trod enc Try.prog W 0 spare held fuel 199 cs=some y):∃ l:Lay NN,cs.length=4∧RdLay RdNp W (.agg cs.toArray) l:=by
 obtain ⟨y0,y1,y2,y3,n,hl,h0,h1,h2,h3⟩:=trod_four Try.underlying199 h
 have e0:Try.prog.cellsOf 3=1:=by kernel_rfl
 have e1:Try.prog.cellsOf 197=1:=by kernel_rfl
 have e2:Try.prog.cellsOf 22=1:=by kernel_rfl
 have e3:Try.prog.cellsOf 140=1:=by kernel_rfl
 dsimp only at h0 h1 h2 h3
 rw [e0] at h0
 rw [e1] at h1
 rw [e2] at h2
 rw [e3] at h3
 have hl4:cs.length=4:=hl.trans (by kernel_rfl)
 match cs,hl4 with
 | [c0,c1,c2,c3],_=>
  simp only [List.drop_zero,List.drop_succ_cons,List.take_succ_cons,List.take_zero] at h0 h1 h2 h3
  obtain ⟨z,g0,-,-⟩:=DataW.trod_int Try.underlying3 h0
  simp at g0
  subst g0
  obtain ⟨lw,-,rw'⟩:=trod_row (T:=RowT 3 RdNp) (k:=1) Try.underlying197 (by kernel_rfl) (by decide) (fun n cs y hy=>trod_RowN hy) h1
  obtain ⟨lb,-,rb⟩:=trod_RowN h2
  obtain ⟨lg,-,rg⟩:=trod_row (T:=RowT 1 IntT) (k:=1) Try.underlying140 (by kernel_rfl) (by decide) (fun n cs y hy=>trod_RowI hy) h3
  obtain ⟨a,m,g1,k1⟩:=cells_RowT rw'
  obtain ⟨b,n,g2,k2⟩:=cells_RowT rb
  obtain ⟨c,k,g3,k3⟩:=cells_RowT rg
  simp only [List.cons.injEq,and_true] at g1 g2 g3
  subst g1 g2 g3
  exact ⟨⟨z,lw,lb,lg⟩,rfl,_,_,_,rfl,k1,k2,k3⟩
set_option maxRecDepth 100000 in
theorem trod_Net {H:Type} {enc:TypeId × Value→H} {W:World} {spare:Nat→Bool} {held:Bool} {fuel:Nat} {cs:List Value} {y:DataW H × List MemPlace}
  (h:DataW.trod enc Try.prog W 0 spare held fuel 122 cs=some y):∃ n:Nt NN,cs.length=2∧RdNet RdNp W (.agg cs.toArray) n:=by
 obtain ⟨y0,y1,n,rfl,hl,h0,h1⟩:=trod_struct2 Try.underlying122 h
 have e0:Try.prog.cellsOf 3=1:=by kernel_rfl
 have e1:Try.prog.cellsOf 120=1:=by kernel_rfl
 dsimp only at h0 h1
 rw [e0] at h0
 rw [e1] at h1
 have hl2:cs.length=2:=hl.trans (by kernel_rfl)
 match cs,hl2 with
 | [c0,c1],_=>
  simp only [List.drop_zero,List.drop_succ_cons,List.take_succ_cons,List.take_zero] at h0 h1
  obtain ⟨z,g0,-,-⟩:=DataW.trod_int Try.underlying3 h0
  simp at g0
  subst g0
  obtain ⟨l,-,r⟩:=trod_row (T:=RdLay RdNp) (k:=4) Try.underlying120 (by kernel_rfl) (by decide) (fun n cs y hy=>trod_Lay hy) h1
  obtain ⟨a,c,g1,k1⟩:=cells_RowT r
  simp only [List.cons.injEq,and_true] at g1
  subst g1
  exact ⟨(z,l),rfl,_,rfl,k1⟩
set_option maxRecDepth 100000 in
theorem open_Net {H:Type} {enc:TypeId × Value→H} {W:World} {spare:Nat→Bool} {held:Bool} {v:Value} {r:Reach} {b0:Nat} {d:DataW H} {ps:List MemPlace}
  (hval:Value.okWide Try.prog W r b0 122 v) (h:DataW.Trod enc Try.prog W 0 spare held 122 v d ps):
  ∃ n:Nt NN,RdNet RdNp W v n:=by
 obtain ⟨cs,rfl,hsz⟩:=okWide_struct Try.underlying122 hval
 obtain ⟨fuel,hf⟩:=h
 obtain ⟨cs⟩:=cs
 obtain ⟨n,-,h1⟩:=trod_Net hf
 exact ⟨n,h1⟩
end Go.Proofs.Ytnbbhpihlcglgaa
