/- A whole row is appended to an owned one. Nothing here names the program. -/
import Derived.Test.YtnbbhpihlcglgaaRowAll
namespace Go.Att
open Go.RowKit

theorem Pw.ones {α:Type} {k:Nat} {R:List Value→α→Prop} (hR:∀ c a,R c a→∀ u∈c,u.oneCell'=true):∀ {E:List (List Value)} {l:List α},Pw k R E l→∀ u∈E.flatten,u.oneCell'=true
 | [],[],_,u,hu=>by simp at hu
 | c :: _,_ :: _,h,u,hu=>by
  rw [List.flatten_cons] at hu
  rcases List.mem_append.1 hu with hu | hu
  ·exact hR _ _ h.1.2 u hu
  ·exact Pw.ones hR h.2 u hu
 | [],_ :: _,h,_,_=>h.elim
 | _ :: _,[],h,_,_=>h.elim
theorem append_rowA {α:Type} {P:Program} {w:World} {o:Oper} {a:Act} {K:Act→World→Prop} {Q:Exit→Act→World→Prop} {t e:TypeId} {z:Value} {size bytes:Nat} (ET:ElemT P t e z size bytes) {T:World→Value→α→Prop} (hT:Kd e T)
  (s x:Operand) (ho:o.op=.call { callee:=.builtin .append,args:=#[s,x],argTypes:=#[t,t] }) (B:Nat) {v:Value} {l m:List α} (hs:a.eval s=v)
  (hown:OwnRow size T e B w v l) {v2:Value} (hx:a.eval x=v2) (hr:RdRow size T w v2 m) (hl:(l.length+m.length)*bytes≤140737488355328) (hm:l.length+m.length≤maxLen) (hB:B≤w.heap.size)
  (h:∀ v' w',OwnRow size T e B w' v' (l ++ m)→Below B w w'→w.grownBy w' v.ownBlock→K (a.put o.dst v') w'):o.wp P a w K Q:=by
 obtain ⟨E,hE,hP⟩:=hown
 obtain ⟨F,hF,hPF⟩:=hr
 refine append_rdK ET s x ho B hs hE hx hF (hPF.ones fun c a h=>hT.one h) hl hm hB ?_
 intro v' w' o' b' g'
 refine h v' w' ⟨E ++ F,?_,(hP.mono fun _ _ h=>hT.grown h hE g').app (hPF.mono fun _ _ h=>hT.grown h hE g')⟩ b' g'
 rw [List.length_append,List.flatten_append]
 exact o'
theorem append_rowAL {α:Type} {P:Program} {w:World} {ops:Array Oper} {rest:List Oper} {o:Oper} {a:Act} {Q:Exit→Act→World→Prop} {t e:TypeId} {z:Value} {size bytes:Nat} (ET:ElemT P t e z size bytes) {T:World→Value→α→Prop} (hT:Kd e T)
  (hgd:Region.wanted o (yielded ops a.tmps)=true) (s x:Operand) (ho:o.op=.call { callee:=.builtin .append,args:=#[s,x],argTypes:=#[t,t] }) (B:Nat) {v:Value} {l m:List α} (hs:a.eval s=v)
  (hown:OwnRow size T e B w v l) {v2:Value} (hx:a.eval x=v2) (hr:RdRow size T w v2 m) (hl:(l.length+m.length)*bytes≤140737488355328) (hm:l.length+m.length≤maxLen) (hB:B≤w.heap.size)
  (h:∀ v' w',OwnRow size T e B w' v' (l ++ m)→Below B w w'→w.grownBy w' v.ownBlock→wpList P ops Q rest (a.put o.dst v') w'):wpList P ops Q (o :: rest) a w:=
 wpList_want hgd fun _ hK=>append_rowA ET hT s x ho B hs hown hx hr hl hm hB fun v' w' a1 a2 a3=>hK _ _ (h v' w' a1 a2 a3)
end Go.Att
