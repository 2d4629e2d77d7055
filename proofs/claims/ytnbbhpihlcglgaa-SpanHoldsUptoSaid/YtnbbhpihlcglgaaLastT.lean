/- A drawn region that is cut at one of its stores: what is held is asked of all that comes ahead of it, and nothing of the rest. Nothing here names the program. -/
import Derived.Test.YtnbbhpihlcglgaaRowAll
namespace Go.Att
open Go.RowKit

section
variable {P:Program} {ops:Array Oper} {Q:Exit→Act→World→Prop} {md:Region.Mode} {S:World→Prop} {st:Nat}
def wpAnyT (P:Program) (md:Region.Mode) (ops:Array Oper) (Q:Exit→Act→World→Prop) (st:Nat) (S:World→Prop):Nat→Array Bool→Act→World→Prop
 | 0,l,a,w=>Region.ready md ops l=[]∧Q .normal a w
 | n+1,l,a,w=>(Region.ready md ops l=[]→Q .normal a w)∧
  ∀ i∈Region.ready md ops l,wpOp P ops Q i (fun a' w'=>(i=st→wpAny P md ops Q n (l.setIfInBounds i true) a' w')∧(i≠st→S w'∧wpAnyT P md ops Q st S n (l.setIfInBounds i true) a' w')) a w
theorem wpAny_of_cut:∀ (n:Nat) (l:Array Bool) (a:Act) (w:World),wpAnyT P md ops Q st S n l a w→wpAny P md ops Q n l a w
 | 0,_,_,_,h=>h
 | n+1,_,_,_,h=>⟨h.1,fun i hi=>wpOp_mono (fun a' w' h'=>by
   by_cases e:i=st
   ·exact h'.1 e
   ·exact wpAny_of_cut n _ a' w' (h'.2 e).2) (h.2 i hi)⟩
def chainB (md:Region.Mode) (ops:Array Oper):Nat→List Nat→Bool
 | _,[]=>true
 | x,y :: c=>waitsB md ops y x && chainB md ops y c
theorem getD_un {l:Array Bool} {y:Nat} (h:l.getD y true=false):l.getD y false=false:=by
 rcases Nat.lt_or_ge y l.size with h' | h'
 ·simp [h'] at h ⊢;exact h
 ·simp [Array.getElem?_eq_none h'] at h
theorem chain_un {l:Array Bool}:∀ (c:List Nat) (x:Nat),chainB md ops x c=true→l.getD x false=false→(∀ y∈c,l.getD y true=false)→∀ j∈c,j ∉ Region.ready md ops l
 | [],_,_,_,_,_,hj=>by cases hj
 | y :: c,x,hc,hx,hu,j,hj=>by
  unfold chainB at hc
  rw [Bool.and_eq_true] at hc
  rcases List.mem_cons.1 hj with rfl | hj
  ·intro hr
   obtain ⟨_,o,ho,hall⟩:=mem_ready.1 hr
   have hw:=hc.1
   unfold waitsB at hw
   rw [ho] at hw
   simp only [Array.any_eq_true,Bool.and_eq_true,beq_iff_eq] at hw
   obtain ⟨k,hk,h1,h2⟩:=hw
   have:=hall _ (Array.getElem_mem hk) h1
   rw [h2,hx] at this
   cases this
  ·exact chain_un c y hc.2 (getD_un (hu y List.mem_cons_self)) (fun z hz=>hu z (List.mem_cons_of_mem _ hz)) j hj
theorem wpAnyT_first {i:Nat} {oi:Oper} {v:Value} (hi:ops[i]?=some oi) (hsel:∀ (j:Nat) (o:Oper) cs b,ops[j]?=some o→o.op≠.select cs b)
  (hQ:∀ c a w,Q (.panic c) (a.put oi.dst v) w→Q (.panic c) a w) (c:List Nat) (hc:chainB md ops i c=true) (hsc:st∈c) (hne:i≠st):
  ∀ (n:Nat) (l:Array Bool) (a:Act) (w:World),
   (∀ j oj,ops[j]?=some oj→j≠i→l.getD j true=false→(∀ e∈oj.after,Region.binds md e=true→e.on≠i)→oi.apart ops oj=true)→
   i∈Region.ready md ops l→(∀ y∈c,l.getD y true=false)→YieldsIf P ops S oi v a→S w→
   wpAnyT P md ops Q st S n (l.setIfInBounds i true) (a.put oi.dst v) w→wpAnyT P md ops Q st S (n+1) l a w:=by
 intro n
 induction n with
 | zero=>
  intro l a w _ hr _ hy hS H
  refine ⟨fun h=>(by rw [h] at hr;cases hr),fun j hj=>?_⟩
  by_cases hji:j=i
  ·subst hji;exact hy.wpOp hi hS ⟨fun e=>absurd e hne,fun _=>⟨hS,H⟩⟩
  ·have:=ready_mono hj hji
   rw [H.1] at this
   cases this
 | succ n ih=>
  intro l a w hfree hr hu hy hS H
  refine ⟨fun h=>(by rw [h] at hr;cases hr),fun j hj=>?_⟩
  by_cases hji:j=i
  ·subst hji;exact hy.wpOp hi hS ⟨fun e=>absurd e hne,fun _=>⟨hS,H⟩⟩
  ·have h1:=H.2 j (ready_mono hj hji)
   obtain ⟨hjun,oj,hoj,hall⟩:=mem_ready.1 hj
   have hnot:∀ e∈oj.after,Region.binds md e=true→e.on≠i:=fun e he hb heq=>by
    have h1:=hall e he hb
    have h0:=(mem_ready.1 hr).1
    rw [heq] at h1
    rcases Nat.lt_or_ge i l.size with h' | h'
    ·simp [h'] at h0 h1;rw [h0] at h1;cases h1
    ·simp [Array.getElem?_eq_none h'] at h1
   have hjc:j ∉ c:=fun h=>chain_un c i hc (getD_un (mem_ready.1 hr).1) hu j h hj
   have hfree':∀ k ok,ops[k]?=some ok→k≠i→(l.setIfInBounds j true).getD k true=false→
     (∀ e∈ok.after,Region.binds md e=true→e.on≠i)→oi.apart ops ok=true:=fun k ok hk hki hun hno=>by
    refine hfree k ok hk hki ?_ hno
    by_cases hjk:j=k
    ·subst hjk;exact hjun
    ·rw [getD_set_ne true hjk] at hun;exact hun
   have hu':∀ y∈c,(l.setIfInBounds j true).getD y true=false:=fun y hy=>by
    rw [getD_set_ne true (fun e=>hjc (by rw [e];exact hy))];exact hu y hy
   have h2:=wpOp_putIf hoj (hfree j oj hoj hji hjun hnot) (fun cs b=>hsel i oi cs b hi) (fun cs b=>hsel j oj cs b hoj) hQ hy h1
   have hjs:j≠st:=fun e=>hjc (e ▸ hsc)
   refine wpOp_mono (fun a' w' h3=>⟨fun e=>absurd e hjs,fun _=>⟨(h3.2.2 hjs).1,ih (l.setIfInBounds j true) a' w' hfree' (ready_mono hr (Ne.symm hji)) hu' h3.1 (h3.2.2 hjs).1 ?_⟩⟩) h2
   rw [Array.setIfInBounds_comm _ _ hji]
   exact (h3.2.2 hjs).2
theorem wpAnyT_take {i:Nat} {oi:Oper} {v:Value} {n:Nat} {l:Array Bool} {a:Act} {w:World} (c:List Nat) (hi:ops[i]?=some oi)
  (hs:Region.noSelect ops=true) (hf:Region.free md ops l i=true) (hr:(Region.ready md ops l).contains i=true) (hw:(chainB md ops i c && c.contains st && i != st && c.all fun y=>!(l.getD y true))=true)
  (hQ:∀ c a w,Q (.panic c) (a.put oi.dst v) w→Q (.panic c) a w) (hy:YieldsIf P ops S oi v a) (hS:S w)
  (h:wpAnyT P md ops Q st S n (l.setIfInBounds i true) (a.put oi.dst v) w):wpAnyT P md ops Q st S (n+1) l a w:=by
 simp only [Bool.and_eq_true] at hw
 obtain ⟨⟨⟨h1,h2⟩,h3⟩,h4⟩:=hw
 exact wpAnyT_first hi (Region.noSelect_spec hs) hQ c h1 (by simpa using h2) (by simpa using h3) n l a w (Region.free_spec hi hf) (by simpa using hr) (fun y hy=>by have:=List.all_eq_true.1 h4 y hy;simpa using this) hy hS h
theorem tkT {oi:Oper} {v:Value} {n:Nat} {l:Array Bool} {a:Act} {w:World} (i:Nat) (c:List Nat) (hS:S w)
  (h:wpAnyT P md ops Q st S n (l.setIfInBounds i true) (a.put oi.dst v) w) (hi:ops[i]?=some oi:=by rfl) (hb:(Region.noSelect ops && Region.free md ops l i && (Region.ready md ops l).contains i && (chainB md ops i c && c.contains st && i != st && c.all fun y=>!(l.getD y true)))=true:=by kernel_rfl)
  (hQ:∀ c a w,Q (.panic c) (a.put oi.dst v) w→Q (.panic c) a w:=by exact fun _ _ _ h=>h) (hw:Region.wanted oi (yielded ops a.tmps)=true:=by rfl) (hy:∀ w,S w→(execOp a.eval oi).run P w=.ok (.value v) w:=by (intro w0 hSw;(try dsimp only at hSw);go_simp;try with_reducible rfl)):wpAnyT P md ops Q st S (n+1) l a w:=by
 rw [Bool.and_eq_true,Bool.and_eq_true,Bool.and_eq_true] at hb
 exact wpAnyT_take c hi hb.1.1.1 hb.1.1.2 hb.1.2 hb.2 hQ (.inl ⟨hw,hy⟩) hS h
def AllReadyT (P:Program) (md:Region.Mode) (ops:Array Oper) (Q:Exit→Act→World→Prop) (st:Nat) (S:World→Prop) (n:Nat) (l:Array Bool) (a:Act) (w:World) (rs:List Nat):Prop:=
 ∀ i∈rs,wpOp P ops Q i (fun a' w'=>(i=st→wpAny P md ops Q n (l.setIfInBounds i true) a' w')∧(i≠st→S w'∧wpAnyT P md ops Q st S n (l.setIfInBounds i true) a' w')) a w
theorem AllReadyT.nil {n:Nat} {l:Array Bool} {a:Act} {w:World}:AllReadyT P md ops Q st S n l a w []:=fun _ h=>by cases h
theorem AllReadyT.cons {n:Nat} {l:Array Bool} {a:Act} {w:World} {i:Nat} {o:Oper} {rs:List Nat} (ho:ops[i]?=some o) (hne:(i == st)=false)
  (h:∀ K':Act→World→Prop,Shut (∀ a w,S w→(S w→wpAnyT P md ops Q st S n (l.setIfInBounds i true) a w)→K' a w)→if Region.wanted o (yielded ops a.tmps)=true then Oper.wp P o a w K' Q else K' (a.put o.dst undef) w)
  (hs:AllReadyT P md ops Q st S n l a w rs):AllReadyT P md ops Q st S n l a w (i :: rs):=fun j hj=>by
 rcases List.mem_cons.1 hj with rfl | hj
 ·exact wpOp_step ho (fun K' hK=>h K' (fun a w hS hW=>hK a w ⟨fun e=>by rw [e] at hne;simp at hne,fun _=>⟨hS,hW hS⟩⟩))
 ·exact hs j hj
theorem AllReadyT.cut {n:Nat} {l:Array Bool} {a:Act} {w:World} {o:Oper} (ho:ops[st]?=some o)
  (h:∀ K':Act→World→Prop,Shut (∀ a w,wpAny P md ops Q n (l.setIfInBounds st true) a w→K' a w)→if Region.wanted o (yielded ops a.tmps)=true then Oper.wp P o a w K' Q else K' (a.put o.dst undef) w):
  AllReadyT P md ops Q st S n l a w [st]:=fun j hj=>by
 obtain rfl:=List.mem_singleton.1 hj
 exact wpOp_step ho (fun K' hK=>h K' (fun a w hW=>hK a w ⟨fun _=>hW,fun h=>absurd rfl h⟩))
theorem wpAnyT_ready {rs:List Nat} {n:Nat} {l:Array Bool} {a:Act} {w:World} (hr:Region.ready md ops l=rs) (hne:rs≠[])
  (h:AllReadyT P md ops Q st S n l a w rs):wpAnyT P md ops Q st S (n+1) l a w:=⟨fun h0=>absurd (hr ▸ h0) hne,hr ▸ h⟩
theorem wp_region_cut_drew {id:Nat} {a:Act} {w:World} (hm:P.follows .mixedOrders=true) (hS:S w.drew)
  (h:S w.drew→wpAnyT P .any ops Q st S ops.size (Array.replicate ops.size false) a w.drew):(Code.region id ops true).wp P Q a w:=
 wp_region_any hm (wpAny_of_cut _ _ _ _ (h hS))
end
end Go.Att
