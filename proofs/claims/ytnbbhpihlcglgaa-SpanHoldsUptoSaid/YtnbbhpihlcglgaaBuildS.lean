/- Slice literals of one element, of two; an append of an element that lies somewhere. Nothing here names the program. -/
import Derived.Test.YtnbbhpihlcglgaaRowAll
import Derived.Great.BuildSlice
namespace Go.Att
open Go.RowKit

theorem append_rowG {α:Type} {P:Program} {w:World} {o:Oper} {a:Act} {K:Act→World→Prop} {Q:Exit→Act→World→Prop} {t e:TypeId} {z:Value} {size bytes:Nat} (ET:ElemT P t e z size bytes) {T:World→Value→α→Prop} (hT:Kd e T)
  (s x:Operand) (ho:o.op=.call { callee:=.builtin .append,args:=#[s,x],argTypes:=#[t,t] }) (B:Nat) {v:Value} {l:List α} {y:α} (hs:a.eval s=v)
  (hown:OwnRow size T e B w v l) {ad:Addr} {c:Nat} (hx:a.eval x=.slice (some ad) 1 c) (hr:RdRow size T w (.slice (some ad) 1 c) [y]) (hl:(l.length+1)*bytes≤140737488355328) (hm:l.length+1≤maxLen) (hB:B≤w.heap.size)
  (h:∀ v' w',OwnRow size T e B w' v' (l ++ [y])→Below B w w'→w.grownBy w' v.ownBlock→(∀ g,v'.ownBlock=some g→v.ownBlock=some g∨w.heap.size≤g)→K (a.put o.dst v') w'):o.wp P a w K Q:=by
 obtain ⟨E,hE,hP⟩:=hown
 obtain ⟨F,hF,hPF⟩:=hr
 obtain ⟨i,hi,hz,hsz,hby⟩:=ET.inf
 have h1:∀ u∈F.flatten,u.oneCell'=true:=fun u hu=>by
  cases F with
  | nil=>simp at hu
  | cons f F=>
   have h2:Pw size (fun c a=>T w (.agg c.toArray) a) F ([]:List α):=hPF.2
   cases F with
   | nil=>rw [List.flatten_cons,List.flatten_nil,List.append_nil] at hu;exact hT.one hPF.1.2 u hu
   | cons _ _=>exact h2.elim
 have hlen:F.flatten.length=1*size:=hF.1
 obtain ⟨v',w',hrun,h2,h3,-⟩:=run_append_own (P:=P) w B t o.type e i z size bytes ET.und hi hz hsz hby ET.cells ET.pos v l.length E.flatten hE ad 1 c F.flatten hlen (hF.news _ rfl) h1 hm hl hB
 have hw:=append_where (P:=P) w B t o.type e i z size bytes ET.und hi hz hsz hby v l.length E.flatten hE ad 1 c F.flatten hlen (hF.news _ rfl) h1 hm hl (by omega) hrun
 have hb:Below B w w':=(Below.refl B _).grown h3 hB (fun k hk=>(hE.lt k hk).1)
 unfold Oper.wp execOp
 simp only [ho,resolve,invoke,builtin,Sem.run_bind,Sem.run_pure,Result.andThen_ok,List.map_toArray,List.map_cons,List.map_nil,hs,hx,hrun]
 refine h v' w' ⟨E ++ F,?_,(hP.mono fun _ _ h=>hT.grown h hE h3).app (hPF.mono fun _ _ h=>hT.grown h hE h3)⟩ hb h3 hw
 rw [List.length_append,List.flatten_append]
 exact h2
theorem append_rowGL {α:Type} {P:Program} {w:World} {ops:Array Oper} {rest:List Oper} {o:Oper} {a:Act} {Q:Exit→Act→World→Prop} {t e:TypeId} {z:Value} {size bytes:Nat} (ET:ElemT P t e z size bytes) {T:World→Value→α→Prop} (hT:Kd e T)
  (hgd:Region.wanted o (yielded ops a.tmps)=true) (s x:Operand) (ho:o.op=.call { callee:=.builtin .append,args:=#[s,x],argTypes:=#[t,t] }) (B:Nat) {v:Value} {l:List α} {y:α} (hs:a.eval s=v)
  (hown:OwnRow size T e B w v l) {ad:Addr} {c:Nat} (hx:a.eval x=.slice (some ad) 1 c) (hr:RdRow size T w (.slice (some ad) 1 c) [y]) (hl:(l.length+1)*bytes≤140737488355328) (hm:l.length+1≤maxLen) (hB:B≤w.heap.size)
  (h:∀ v' w',OwnRow size T e B w' v' (l ++ [y])→Below B w w'→w.grownBy w' v.ownBlock→(∀ g,v'.ownBlock=some g→v.ownBlock=some g∨w.heap.size≤g)→wpList P ops Q rest (a.put o.dst v') w'):wpList P ops Q (o :: rest) a w:=
 wpList_want hgd fun _ hK=>append_rowG ET hT s x ho B hs hown hx hr hl hm hB fun v' w' a1 a2 a3 a4=>hK _ _ (h v' w' a1 a2 a3 a4)
theorem fill_s1 (a:Option Addr) (n k:Nat):Instr.fill (fun i=>some (i*1,1)) ((Array.range (1*1)).map ((Value.slice none 0 0).cells[· % (Value.slice none 0 0).cells.size]!)) [(0,.slice a n k)]=some #[.slice a n k]:=by kernel_rfl
theorem fill_d1 (s:Bool) (a:Option Addr) (n k:Nat) (a2:Option Addr) (n2 k2:Nat) (s3:Bool) (a4:Option Addr) (n4 k4:Nat) (a5:Option Addr) (n5 k5:Nat):
  Instr.fill (fun i=>some (i*6,6)) ((Array.range (1*6)).map ((Value.agg #[.bool false,.slice none 0 0,.slice none 0 0,.bool false,.slice none 0 0,.slice none 0 0]).cells[· % (Value.agg #[.bool false,.slice none 0 0,.slice none 0 0,.bool false,.slice none 0 0,.slice none 0 0]).cells.size]!)) [(0,.agg #[.bool s,.slice a n k,.slice a2 n2 k2,.bool s3,.slice a4 n4 k4,.slice a5 n5 k5])]=some #[.bool s,.slice a n k,.slice a2 n2 k2,.bool s3,.slice a4 n4 k4,.slice a5 n5 k5]:=by kernel_rfl
theorem build1K {α:Type} {P:Program} {o:Oper} {a:Act} {K:Act→World→Prop} {Q:Exit→Act→World→Prop} {w:World} {t e:TypeId} {z:Value} {size bytes:Nat} (ET:ElemT P t e z size bytes) {x:Operand} (ho:o.op=.buildSlice t 1 #[(0,x)])
  {T:World→Value→α→Prop} (hT:∀ {w w' v a},T w v a→Ext w w'→T w' v a) {u:Value} (hx:a.eval x=u) (cs:List Value) (hf:Instr.fill (fun i=>some (i*size,size)) ((Array.range (1*size)).map (z.cells[· % z.cells.size]!)) [(0,u)]=some cs.toArray) (hc:cs.length=size) (hs:0 < size∧size≤100) {y:α} (ha:T w (.agg cs.toArray) y)
  (h:∀ g w',Ext w w'→w.heap.size≤g→OwnRow size T e 0 w' (.slice (some ⟨g,0,none⟩) 1 1) [y]→K (a.put o.dst (.slice (some ⟨g,0,none⟩) 1 1)) w'):o.wp P a w K Q:=by
 obtain ⟨i,hi,hz,hsz,-⟩:=ET.inf
 refine wp_buildSlice t e 1 _ ho cs.toArray i _ ET.und hi hz (by rw [hsz];omega) (by rw [hsz];omega) ?_ ?_
 ·rw [hsz]
  have hp:(#[(0,x)].map fun (i,x)=>(i,a.eval x)).toList=[(0,a.eval x)]:=by simp
  rw [hp,hx]
  exact hf
 ·refine h _ _ (Ext.alloc _ _) (Nat.le_refl _) ⟨[cs],?_,⟨hc,hT ha (Ext.alloc _ _)⟩,trivial⟩
  have:=World.ownsRow_lit (w:=w) (base:=0) (e:=e) (size:=size) cs.toArray 1 (Nat.zero_le _) (by unfold maxLen;omega) (by simpa using hc)
  simpa using this
theorem build1W {α:Type} {P:Program} {ops:Array Oper} {rest:List Oper} {o:Oper} {a:Act} {Q:Exit→Act→World→Prop} {w:World} {t e:TypeId} {z:Value} {size bytes:Nat} (ET:ElemT P t e z size bytes) (hgd:Region.wanted o (yielded ops a.tmps)=true) {x:Operand} (ho:o.op=.buildSlice t 1 #[(0,x)])
  {T:World→Value→α→Prop} (hT:∀ {w w' v a},T w v a→Ext w w'→T w' v a) {u:Value} (hx:a.eval x=u) (cs:List Value) (hf:Instr.fill (fun i=>some (i*size,size)) ((Array.range (1*size)).map (z.cells[· % z.cells.size]!)) [(0,u)]=some cs.toArray) (hc:cs.length=size) (hs:0 < size∧size≤100) {y:α} (ha:T w (.agg cs.toArray) y)
  (h:∀ g w',Ext w w'→w.heap.size≤g→OwnRow size T e 0 w' (.slice (some ⟨g,0,none⟩) 1 1) [y]→wpList P ops Q rest (a.put o.dst (.slice (some ⟨g,0,none⟩) 1 1)) w'):wpList P ops Q (o :: rest) a w:=
 wpList_want hgd fun _ hK=>build1K ET ho (T:=T) hT hx cs hf hc hs ha fun g w' h1 h2 h3=>hK _ _ (h g w' h1 h2 h3)
end Go.Att
