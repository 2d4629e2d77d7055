/- A group of texts: PLitOrd, BuildS, EvL, Fm, Fm2 -/
import Derived.Test.YtdooldpgnjmpfaaGreatDoorPartAH
import Derived.Test.YtdooldpgnjmpfaaGreatDoorPartAA
import Derived.Test.YtdooldpgnjmpfaaGreatDoorProg
import Derived.WalkKit
import Derived.Test.YtdooldpgnjmpfaaGreatDoorPartAC
import Derived.Great.BuildSlice
import Derived.Test.YtdooldpgnjmpfaaGreatDoorPartAG
import Derived.Test.YtdooldpgnjmpfaaGreatDoorPartAD

namespace Go.Proofs.YtdooldpgnjmpfaaGreatDoor
open Go.RowKit Go.Att

def In64 (z:Int):Prop := -9223372036854775808≤z∧z < 9223372036854775808
set_option maxRecDepth 100000 in
set_option maxHeartbeats 2000000 in
theorem size_val {z:Int} (hz:In64 z) (W:World):
  Calls Tryz.prog 55 #[.int .i64 z] W (fun e w'=>e=.returned (.int .i64 (szl z))∧w'=W):=by
 refine via fun R hR=>?_
 obtain ⟨h1,h2⟩:=hz
 go_enter Tryz.func55,Tryz.ntmps55
 by_cases h:z < 0
 ·have hd:decide (z < 0)=true:=decide_eq_true h
  by_cases hm:z = -9223372036854775808
  ·obtain ⟨y,hy⟩:∃ y:Int,y = -9223372036854775808:=⟨_,rfl⟩
   have hw:IntKind.i64.wrap (-z)=y:=by rw [IntKind.wrap_i64];omega
   have hn:¬ 0≤y:=by omega
   have HM:=Lib.hid hm
   clear hm hy h1 h2
   go_wp2_with fail
   exact hR.out _ _ ⟨by simp [szl,HM.out] <;> omega,rfl⟩
  ·have hw:IntKind.i64.wrap (-z) = -z:=by rw [IntKind.wrap_i64];omega
   go_wp2_with fail
   exact hR.out _ _ ⟨by simp [szl,hm];omega,rfl⟩
 ·have hd:decide (z < 0)=false:=decide_eq_false h
  go_wp2_with fail
  exact hR.out _ _ ⟨by unfold szl;rw [if_neg (by omega)];simp;omega,rfl⟩
set_option maxRecDepth 100000 in
set_option maxHeartbeats 2000000 in
theorem order_val {x y:Int} (hx:In64 x) (hy:In64 y) (W:World):
  Calls Tryz.prog 58 #[.int .i64 x,.int .i64 y] W (fun e w'=>e=.returned (.int .i64 (ord x y))∧w'=W):=by
 refine via fun R hR=>?_
 have b1:0≤szl x∧szl x < 9223372036854775808:=by obtain ⟨h1,h2⟩:=hx;unfold szl;split <;> omega
 have b2:0≤szl y∧szl y < 9223372036854775808:=by obtain ⟨h1,h2⟩:=hy;unfold szl;split <;> omega
 have c1:=fun W=>size_val hx W
 have c2:=fun W=>size_val hy W
 have HO:Hid (ord x y=if szl x≠szl y then szl x - szl y else if y < x then -1 else if x < y then 1 else 0):=rfl
 generalize szl x=a at*
 generalize szl y=b at*
 generalize ord x y=o at*
 have HC1:=Lib.hid c1
 have HC2:=Lib.hid c2
 clear c1 c2 hx hy
 go_enter Tryz.func58,Tryz.ntmps58
 by_cases hab:a=b
 ·subst hab
  have hne:((a:Int) != a)=false:=bne_self_eq_false _
  have HO':=HO.out
  rw [if_neg (fun h=>h rfl)] at HO'
  have HP:=Lib.hid HO'
  clear HO'
  by_cases h1:y < x
  ·have hd:decide (x > y)=true:=decide_eq_true h1
   have HP':=HP.out
   rw [if_pos h1] at HP'
   subst HP'
   go_wp2_with (go_at_call 55;(first | with_reducible refine (HC1.out _).mono ?_ | with_reducible refine (HC2.out _).mono ?_);rintro e w' ⟨rfl,rfl⟩)
   exact hR.out _ _ ⟨rfl,rfl⟩
  ·have hd:decide (x > y)=false:=decide_eq_false h1
   have HP':=HP.out
   rw [if_neg h1] at HP'
   by_cases h2:x < y
   ·have hd2:decide (x < y)=true:=decide_eq_true h2
    rw [if_pos h2] at HP'
    subst HP'
    go_wp2_with (go_at_call 55;(first | with_reducible refine (HC1.out _).mono ?_ | with_reducible refine (HC2.out _).mono ?_);rintro e w' ⟨rfl,rfl⟩)
    exact hR.out _ _ ⟨rfl,rfl⟩
   ·have hd2:decide (x < y)=false:=decide_eq_false h2
    rw [if_neg h2] at HP'
    subst HP'
    go_wp2_with (go_at_call 55;(first | with_reducible refine (HC1.out _).mono ?_ | with_reducible refine (HC2.out _).mono ?_);rintro e w' ⟨rfl,rfl⟩)
    exact hR.out _ _ ⟨rfl,rfl⟩
 ·have hne:(a != b)=true:=by simp [hab]
  have HO':=HO.out
  rw [if_pos hab] at HO'
  have hw:IntKind.i64.wrap (a - b)=o:=by rw [IntKind.wrap_i64];omega
  have HX:=Lib.hid hR
  clear b1 b2 hab HO hR HO'
  go_wp2_with (go_at_call 55;(first | with_reducible refine (HC1.out _).mono ?_ | with_reducible refine (HC2.out _).mono ?_);rintro e w' ⟨rfl,rfl⟩)
  exact HX.out.out _ _ ⟨rfl,rfl⟩
end Go.Proofs.YtdooldpgnjmpfaaGreatDoor

namespace Go.Att
open Go.RowKit

theorem append_rowG {α:Type} {P:Program} {w:World} {o:Oper} {a:Act} {K:Act→World→Prop} {Q:Exit→Act→World→Prop} {t e:TypeId} {z:Value} {size bytes:Nat} (ET:ElemT P t e z size bytes) {T:World→Value→α→Prop} (hT:Kd e T)
  (s x:Operand) (ho:o.op=.call { callee:=.builtin .append,args:=#[s,x],argTypes:=#[t,t] }) (B:Nat) {v:Value} {l:List α} {y:α} (hs:a.eval s=v)
  (hown:OwnRow size T e B w v l) {ad:Addr} {c:Nat} (hx:a.eval x=.slice (some ad) 1 c) (hr:RdRow size T w (.slice (some ad) 1 c) [y]) (hl:(l.length+1)*bytes≤140737488355328) (hm:l.length+1≤maxLen) (hB:B≤w.heap.size)
  (h:∀ v' w',OwnRow size T e B w' v' (l ++ [y])→Below B w w'→w.grownBy w' v.ownBlock→(∀ g,v'.ownBlock=some g→v.ownBlock=some g∨w.heap.size≤g)→K (a.put o.dst v') w'):o.wp P a w K Q:=by
 obtain ⟨E,hE,hP⟩:=hown
 obtain ⟨F,hF,hPF⟩:=hr
 obtain ⟨i,hi,hz,hsz,hby⟩:=ET.inf
 have h1:∀ u∈F.flatten,u.oneCell'=true:=fun u hu=>by
  cases F with
  | nil=>simp at hu
  | cons f F=>
   have h2:Pw size (fun c a=>T w (.agg c.toArray) a) F ([]:List α):=hPF.2
   cases F with
   | nil=>rw [List.flatten_cons,List.flatten_nil,List.append_nil] at hu;exact hT.one hPF.1.2 u hu
   | cons _ _=>exact h2.elim
 have hlen:F.flatten.length=1*size:=hF.1
 obtain ⟨v',w',hrun,h2,h3,-⟩:=run_append_own (P:=P) w B t o.type e i z size bytes ET.und hi hz hsz hby ET.cells ET.pos v l.length E.flatten hE ad 1 c F.flatten hlen (hF.news _ rfl) h1 hm hl hB
 have hw:=append_where (P:=P) w B t o.type e i z size bytes ET.und hi hz hsz hby v l.length E.flatten hE ad 1 c F.flatten hlen (hF.news _ rfl) h1 hm hl (by omega) hrun
 have hb:Below B w w':=(Below.refl B _).grown h3 hB (fun k hk=>(hE.lt k hk).1)
 unfold Oper.wp execOp
 simp only [ho,resolve,invoke,builtin,Sem.run_bind,Sem.run_pure,Result.andThen_ok,List.map_toArray,List.map_cons,List.map_nil,hs,hx,hrun]
 refine h v' w' ⟨E ++ F,?_,(hP.mono fun _ _ h=>hT.grown h hE h3).app (hPF.mono fun _ _ h=>hT.grown h hE h3)⟩ hb h3 hw
 rw [List.length_append,List.flatten_append]
 exact h2
theorem append_rowGL {α:Type} {P:Program} {w:World} {ops:Array Oper} {rest:List Oper} {o:Oper} {a:Act} {Q:Exit→Act→World→Prop} {t e:TypeId} {z:Value} {size bytes:Nat} (ET:ElemT P t e z size bytes) {T:World→Value→α→Prop} (hT:Kd e T)
  (hgd:Region.wanted o (yielded ops a.tmps)=true) (s x:Operand) (ho:o.op=.call { callee:=.builtin .append,args:=#[s,x],argTypes:=#[t,t] }) (B:Nat) {v:Value} {l:List α} {y:α} (hs:a.eval s=v)
  (hown:OwnRow size T e B w v l) {ad:Addr} {c:Nat} (hx:a.eval x=.slice (some ad) 1 c) (hr:RdRow size T w (.slice (some ad) 1 c) [y]) (hl:(l.length+1)*bytes≤140737488355328) (hm:l.length+1≤maxLen) (hB:B≤w.heap.size)
  (h:∀ v' w',OwnRow size T e B w' v' (l ++ [y])→Below B w w'→w.grownBy w' v.ownBlock→(∀ g,v'.ownBlock=some g→v.ownBlock=some g∨w.heap.size≤g)→wpList P ops Q rest (a.put o.dst v') w'):wpList P ops Q (o :: rest) a w:=
 wpList_want hgd fun _ hK=>append_rowG ET hT s x ho B hs hown hx hr hl hm hB fun v' w' a1 a2 a3 a4=>hK _ _ (h v' w' a1 a2 a3 a4)
theorem fill_s1 (a:Option Addr) (n k:Nat):Instr.fill (fun i=>some (i*1,1)) ((Array.range (1*1)).map ((Value.slice none 0 0).cells[· % (Value.slice none 0 0).cells.size]!)) [(0,.slice a n k)]=some #[.slice a n k]:=by kernel_rfl
theorem fill_i1 (z:Int):Instr.fill (fun i=>some (i*1,1)) ((Array.range (1*1)).map ((Value.int .i64 0).cells[· % (Value.int .i64 0).cells.size]!)) [(0,.int .i64 z)]=some #[.int .i64 z]:=by kernel_rfl
theorem build1K {α:Type} {P:Program} {o:Oper} {a:Act} {K:Act→World→Prop} {Q:Exit→Act→World→Prop} {w:World} {t e:TypeId} {z:Value} {size bytes:Nat} (ET:ElemT P t e z size bytes) {x:Operand} (ho:o.op=.buildSlice t 1 #[(0,x)])
  {T:World→Value→α→Prop} (hT:∀ {w w' v a},T w v a→Ext w w'→T w' v a) {u:Value} (hx:a.eval x=u) (cs:List Value) (hf:Instr.fill (fun i=>some (i*size,size)) ((Array.range (1*size)).map (z.cells[· % z.cells.size]!)) [(0,u)]=some cs.toArray) (hc:cs.length=size) (hs:0 < size∧size≤100) {y:α} (ha:T w (.agg cs.toArray) y)
  (h:∀ g w',Ext w w'→w.heap.size≤g→OwnRow size T e 0 w' (.slice (some ⟨g,0,none⟩) 1 1) [y]→K (a.put o.dst (.slice (some ⟨g,0,none⟩) 1 1)) w'):o.wp P a w K Q:=by
 obtain ⟨i,hi,hz,hsz,-⟩:=ET.inf
 refine wp_buildSlice t e 1 _ ho cs.toArray i _ ET.und hi hz (by rw [hsz];omega) (by rw [hsz];omega) ?_ ?_
 ·rw [hsz]
  have hp:(#[(0,x)].map fun (i,x)=>(i,a.eval x)).toList=[(0,a.eval x)]:=by simp
  rw [hp,hx]
  exact hf
 ·refine h _ _ (Ext.alloc _ _) (Nat.le_refl _) ⟨[cs],?_,⟨hc,hT ha (Ext.alloc _ _)⟩,trivial⟩
  have:=World.ownsRow_lit (w:=w) (base:=0) (e:=e) (size:=size) cs.toArray 1 (Nat.zero_le _) (by unfold maxLen;omega) (by simpa using hc)
  simpa using this
theorem fill_a2 (x0 x1 x2 x3 x4 y0 y1 y2 y3 y4:Value):
  Instr.fill (fun i=>some (i*5,5)) ((Array.range (2*5)).map ((Value.agg #[.slice none 0 0,.bool false,.slice none 0 0,.slice none 0 0,.int .i64 0]).cells[· % (Value.agg #[.slice none 0 0,.bool false,.slice none 0 0,.slice none 0 0,.int .i64 0]).cells.size]!)) [(0,.agg #[x0,x1,x2,x3,x4]),(1,.agg #[y0,y1,y2,y3,y4])]=some #[x0,x1,x2,x3,x4,y0,y1,y2,y3,y4]:=by kernel_rfl
theorem fill_a1 (x0 x1 x2 x3 x4:Value):
  Instr.fill (fun i=>some (i*5,5)) ((Array.range (1*5)).map ((Value.agg #[.slice none 0 0,.bool false,.slice none 0 0,.slice none 0 0,.int .i64 0]).cells[· % (Value.agg #[.slice none 0 0,.bool false,.slice none 0 0,.slice none 0 0,.int .i64 0]).cells.size]!)) [(0,.agg #[x0,x1,x2,x3,x4])]=some #[x0,x1,x2,x3,x4]:=by kernel_rfl
theorem build1W {α:Type} {P:Program} {ops:Array Oper} {rest:List Oper} {o:Oper} {a:Act} {Q:Exit→Act→World→Prop} {w:World} {t e:TypeId} {z:Value} {size bytes:Nat} (ET:ElemT P t e z size bytes) (hgd:Region.wanted o (yielded ops a.tmps)=true) {x:Operand} (ho:o.op=.buildSlice t 1 #[(0,x)])
  {T:World→Value→α→Prop} (hT:∀ {w w' v a},T w v a→Ext w w'→T w' v a) {u:Value} (hx:a.eval x=u) (cs:List Value) (hf:Instr.fill (fun i=>some (i*size,size)) ((Array.range (1*size)).map (z.cells[· % z.cells.size]!)) [(0,u)]=some cs.toArray) (hc:cs.length=size) (hs:0 < size∧size≤100) {y:α} (ha:T w (.agg cs.toArray) y)
  (h:∀ g w',Ext w w'→w.heap.size≤g→OwnRow size T e 0 w' (.slice (some ⟨g,0,none⟩) 1 1) [y]→wpList P ops Q rest (a.put o.dst (.slice (some ⟨g,0,none⟩) 1 1)) w'):wpList P ops Q (o :: rest) a w:=
 wpList_want hgd fun _ hK=>build1K ET ho (T:=T) hT hx cs hf hc hs ha fun g w' h1 h2 h3=>hK _ _ (h g w' h1 h2 h3)
open Go.RowKit

theorem Bo.c3 {w:World} {b o:Nat} {x0 x1 x2:Value} {l:List Value} (h:Bo w b o (x0 :: x1 :: x2 :: l)):w.cell? ⟨b,o,none⟩=some x0∧w.cell? ⟨b,o+1,none⟩=some x1∧w.cell? ⟨b,o+2,none⟩=some x2:=
 ⟨h 0 _ rfl,h 1 _ rfl,h 2 _ rfl⟩
def tmv (P:List Rat) (t:Int × Rat):Rat:=if 0≤t.1∧t.1 < P.length then t.2*gt P t.1.toNat else 0
def tv (P:List Rat):TL→Rat
 | []=>0
 | t :: l=>tmv P t+tv P l
theorem tv_app (P:List Rat) (l m:TL):tv P (l ++ m)=tv P l+tv P m:=by
 induction l with
 | nil=>show tv P m=0+_;rw [Rat.zero_add]
 | cons t l ih=>show _+tv P (l ++ m)=(_+_)+_;rw [ih,Rat.add_assoc]
theorem tv_snoc (P:List Rat) {l:TL} {j:Nat} (hj:j < l.length):tv P (l.take (j+1))=tv P (l.take j)+tmv P (gt l j):=by
 rw [← List.take_append_getElem hj,tv_app,gt_lt hj]
 show _+(tmv P _+0)=_
 rw [Rat.add_zero]
def smv (F:Int→Rat):List Rat→Nat→Rat
 | [],_=>0
 | p :: P,k=>F k*p+smv F P (k+1)
theorem smv_add (F G:Int→Rat) (P:List Rat):∀ k,smv (fun x=>F x+G x) P k=smv F P k+smv G P k:=by
 induction P with
 | nil=>intro k;show (0:Rat)=0+0;rw [Rat.add_zero]
 | cons p P ih=>intro k;show (F k+G k)*p+smv _ P (k+1)=(F k*p+smv F P (k+1))+(G k*p+smv G P (k+1));rw [ih];grind
theorem smv_mul (F:Int→Rat) (r:Rat) (P:List Rat):∀ k,smv (fun x=>r*F x) P k=r*smv F P k:=by
 induction P with
 | nil=>intro k;show (0:Rat)=r*0;rw [Rat.mul_zero]
 | cons p P ih=>intro k;show (r*F k)*p+smv _ P (k+1)=r*(F k*p+smv F P (k+1));rw [ih];grind
theorem smv_zero (P:List Rat):∀ k,smv (fun _=>0) P k=0:=by
 induction P with
 | nil=>intro k;rfl
 | cons p P ih=>intro k;show 0*p+smv _ P (k+1)=0;rw [ih,Rat.zero_mul,Rat.add_zero]
theorem smv_one (x:Int) (q:Rat) (P:List Rat):∀ k:Nat,smv (fun y=>if x=y then q else 0) P k=if (k:Int)≤x∧x < k+P.length then q*gt P (x - k).toNat else 0:=by
 induction P with
 | nil=>intro k;rw [if_neg (fun h=>by have h1:=h.1;have h2:=h.2;simp at h2;omega)];rfl
 | cons p P ih=>
  intro k
  show (if x=(k:Int) then q else 0)*p+smv _ P (k+1)=_
  rw [ih]
  by_cases h:x=(k:Int)
  ·rw [if_pos h,if_neg (by omega),if_pos ⟨by omega,by simp;omega⟩,Rat.add_zero,show (x - (k:Int)).toNat=0 by omega]
   rfl
  ·rw [if_neg h,Rat.zero_mul,Rat.zero_add]
   by_cases h2:(k:Int)≤x∧x < k+(p :: P).length
   ·have h3:=h2.2
    simp at h3
    rw [if_pos (by omega),if_pos h2,show (x - (k:Int)).toNat=(x - ((k+1:Nat):Int)).toNat+1 by omega]
    rfl
   ·rw [if_neg h2,if_neg]
    intro h4
    apply h2
    simp
    omega
theorem tv_smv (P:List Rat) (l:TL):tv P l=smv (cf l) P 0:=by
 induction l with
 | nil=>exact (smv_zero P 0).symm
 | cons t l ih=>
  show tmv P t+tv P l=smv (fun v=>(if t.1=v then t.2 else 0)+cf l v) P 0
  rw [smv_add,smv_one,ih]
  congr 1
  unfold tmv
  simp
theorem smv_congr {F G:Int→Rat} (h:∀ x,F x=G x) (P:List Rat) (k:Nat):smv F P k=smv G P k:=by rw [funext h]
theorem gt_mem' {P:List Rat} {i:Nat} (h:i < P.length):gt P i∈P:=by rw [gt_lt h];exact List.getElem_mem h
theorem tmv_sz {L M:Nat} {P:List Rat} {t:Int × Rat} (ht:Sz L t.2) (hP:∀ p∈P,Sz M p):Sz (L+M+1) (tmv P t):=by
 unfold tmv
 split
 ·rename_i h
  exact (ht.mul (hP _ (gt_mem' (by omega)))).le (by omega)
 ·exact Sz.zero.le (by omega)
theorem tv_sz {L M:Nat} {P:List Rat} (c:Rat) {l:TL} (hc:Sz L c) (hl:∀ t∈l,Sz L t.2) (hP:∀ p∈P,Sz M p):∀ j,j≤l.length→Sz (j*(L+M+2)+L) (c+tv P (l.take j)):=by
 intro j
 induction j with
 | zero=>intro _;rw [List.take_zero];show Sz _ (c+0);rw [Rat.add_zero];exact hc.le (by omega)
 | succ j ih=>
  intro hj
  rw [tv_snoc P (show j < l.length by omega),← Rat.add_assoc]
  have h1:Sz L (gt l j).2:=by rw [gt_lt (show j < l.length by omega)];exact hl _ (List.getElem_mem _)
  refine ((ih (by omega)).add (tmv_sz h1 hP)).le ?_
  rw [Nat.succ_mul]
  omega
theorem smv_take (F:Int→Rat) {P:List Rat} {j:Nat} (hj:j < P.length):smv F (P.take (j+1)) 0=smv F (P.take j) 0+F j*gt P j:=by
 have key:∀ (P:List Rat) (q:Rat) (k:Nat),smv F (P ++ [q]) k=smv F P k+F (k+P.length:Nat)*q:=by
  intro P q
  induction P with
  | nil=>intro k;show F k*q+0=0+_;rw [Rat.add_zero,Rat.zero_add];rfl
  | cons p P ih=>
   intro k
   show F k*p+smv F (P ++ [q]) (k+1)=(F k*p+smv F P (k+1))+_
   rw [ih,Rat.add_assoc,show k+1+P.length=k+(p :: P).length by simp;omega]
 rw [← List.take_append_getElem hj,key,gt_lt hj,List.length_take,Nat.zero_add,Nat.min_eq_left (by omega)]
theorem smv_sz {L M N:Nat} {P:List Rat} {F:Int→Rat} (c:Rat) (hc:Sz N c) (hF:∀ x,Sz L (F x)) (hP:∀ p∈P,Sz M p):∀ j,j≤P.length→Sz (j*(L+M+1)+N) (c+smv F (P.take j) 0):=by
 intro j
 induction j with
 | zero=>intro _;rw [List.take_zero];show Sz _ (c+0);rw [Rat.add_zero];exact hc.le (by omega)
 | succ j ih=>
  intro hj
  rw [smv_take F (show j < P.length by omega),← Rat.add_assoc]
  refine ((ih (by omega)).add ((hF j).mul (hP _ (gt_mem' (show j < P.length by omega))))).le ?_
  rw [Nat.succ_mul]
  omega
theorem RdRow.oq {e:TypeId} {w:World} {a:Option Addr} {n c:Nat} {l:List Rat} (h:RdRow 3 (OwnQp e) w (.slice a n c) l) (i:Nat) (hi:i < l.length):
  ∃ b off s x k m y k' m',a=some ⟨b,off,none⟩∧Bo w b (off+i*3) [.bool s,.slice x k m,.slice y k' m']∧OwnQ e 0 w (.agg #[.bool s,.slice x k m,.slice y k' m']) (gt l i):=by
 obtain ⟨b1,o1,cs,he,hl,hT,hc⟩:=h.at (by decide) i hi
 obtain ⟨s,x,k,m,y,k',m',h1,h2⟩:=OwnQ.op hT
 have:cs=[.bool s,.slice x k m,.slice y k' m']:=by simpa using h1
 subst this
 exact ⟨b1,o1,s,x,k,m,y,k',m',he,Bo.of hc,by rw [gt_lt hi];exact h2.out⟩
theorem RdRow.op' {e:TypeId} {w:World} {a:Option Addr} {n c:Nat} {l:List Rat} (h:RdRow 3 (OwnPp e) w (.slice a n c) l) (i:Nat) (hi:i < l.length):
  ∃ b off s x k m y k' m',a=some ⟨b,off,none⟩∧Bo w b (off+i*3) [.bool s,.slice x k m,.slice y k' m']∧OwnP e 0 w (.agg #[.bool s,.slice x k m,.slice y k' m']) (gt l i):=by
 obtain ⟨b1,o1,cs,he,hl,hT,hc⟩:=h.at (by decide) i hi
 obtain ⟨s,x,k,m,y,k',m',h1,h2⟩:=OwnP.op hT
 have:cs=[.bool s,.slice x k m,.slice y k' m']:=by simpa using h1
 subst this
 exact ⟨b1,o1,s,x,k,m,y,k',m',he,Bo.of hc,by rw [gt_lt hi];exact h2.out⟩
open Go.RowKit

inductive Fm where
 | mk (k a:Int) (sub:List Fm)
def Fm.k:Fm→Int | .mk k _ _=>k
def Fm.a:Fm→Int | .mk _ a _=>a
def Fm.sub:Fm→List Fm | .mk _ _ l=>l
instance:Inhabited Fm:=⟨.mk 0 0 []⟩
def RdFn:Nat→World→Value→Fm→Prop
 | 0=>fun _ _ _=>False
 | n+1=>fun w v f=>∃ s,v=.agg #[.int .i64 f.k,.int .i64 f.a,s]∧RdRow 3 (RdFn n) w s f.sub
def RdFm (w:World) (v:Value) (f:Fm):Prop:=∃ n,RdFn n w v f
section
variable {w w':World} {v:Value} {f:Fm} {n:Nat}
theorem RdFn.ext:∀ {n:Nat} {v:Value} {f:Fm},RdFn n w v f→Ext w w'→RdFn n w' v f
 | 0,_,_,h,_=>h.elim
 | n+1,_,_,h,x=>by
  obtain ⟨s,rfl,h⟩:=h
  obtain ⟨E,h1,h2⟩:=h
  exact ⟨s,rfl,E,h1.ext x,h2.mono fun _ _ h=>RdFn.ext h x⟩
theorem RdFm.ext (h:RdFm w v f) (x:Ext w w'):RdFm w' v f:=by
 obtain ⟨n,h⟩:=h
 exact ⟨n,h.ext x⟩
theorem RdFn.succ:∀ {n:Nat} {v:Value} {f:Fm},RdFn n w v f→RdFn (n+1) w v f
 | 0,_,_,h=>h.elim
 | n+1,_,_,h=>by
  obtain ⟨s,rfl,h⟩:=h
  exact ⟨s,rfl,RdRow.mono h fun _ _ h=>RdFn.succ h⟩
theorem RdFn.le (h:RdFn n w v f) {m:Nat} (hm:n≤m):RdFn m w v f:=by
 induction hm with
 | refl=>exact h
 | step _ ih=>exact ih.succ
theorem RdFn.op (h:RdFn (n+1) w v f):∃ a c,v=.agg #[.int .i64 f.k,.int .i64 f.a,.slice a f.sub.length c]∧RdRow 3 (RdFn n) w (.slice a f.sub.length c) f.sub:=by
 obtain ⟨s,rfl,h⟩:=h
 obtain ⟨a,c,rfl,-,-⟩:=h.shape
 exact ⟨a,c,rfl,h⟩
theorem RdFm.op (h:RdFm w v f):∃ a c n,v=.agg #[.int .i64 f.k,.int .i64 f.a,.slice a f.sub.length c]∧RdRow 3 (RdFn n) w (.slice a f.sub.length c) f.sub:=by
 obtain ⟨n,h⟩:=h
 cases n with
 | zero=>exact h.elim
 | succ n=>
  obtain ⟨a,c,he,h⟩:=h.op
  exact ⟨a,c,n,he,h⟩
end


end Go.Att
