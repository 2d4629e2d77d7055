/- A group of texts: PLow16, PCut21, POnes15, POnes17, EvL, PDelta, PIs05, PDelta2 -/
import Derived.Test.YtmlhccajicmpfaaGreatSq
import Derived.Test.YtmlhccajicmpfaaGreatPartBC
import Derived.Test.YtmlhccajicmpfaaGreatPartAD
import Derived.Test.YtmlhccajicmpfaaGreatPartAF
import Derived.Test.YtmlhccajicmpfaaGreatPartBB
import Derived.Test.YtmlhccajicmpfaaGreatPartAC
import Derived.Test.YtmlhccajicmpfaaGreatPartAJ
import Derived.Test.YtmlhccajicmpfaaGreatPartBA
import Derived.Test.YtmlhccajicmpfaaGreatPartAB
import Derived.Test.YtmlhccajicmpfaaGreatPartAH
set_option maxHeartbeats 40000000
set_option maxRecDepth 100000
set_option linter.unusedSimpArgs false
namespace Go.Proofs.YtmlhccajicmpfaaGreat
open Go.RowKit Go.Att

def lowl (m:Nat):List Nat→List Nat
 | []=>[]
 | x :: _=>[x % m]
def oneN (n:NN):NN:=(n.1,lowl 65536 n.2.1,lowl 65536 n.2.2)
theorem low_any {w:World} {v:Value} {xs:List Nat} (hv:RdL w v xs):
  Calls Tryz.prog 52 #[v,.int .u32 65536] w (Gives w fun v' w'=>OwnL 156 0 w' v' (lowl 65536 xs)):=by
 refine via fun R hR=>?_
 have HV:=qH hv
 obtain ⟨a,k,rfl,h1,h2,h3,h5⟩:=hv.1.shape
 cases xs with
 | nil=>
  clear hv h5
  go_enter Tryz.func52,Tryz.ntmps52
  go_wp2_with fail
  exact hR.out _ _ (Gives.mk (Ext.refl _) ⟨OwnI.nil _ _ _ _,Fit.nil _⟩)
 | cons x xs=>
  obtain ⟨b,off,rfl,hc⟩:=h5 0 (by simp)
  rw [Nat.add_zero,nth_lt _ _ (by simp),List.getElem_cons_zero] at hc
  have hx:x < W32:=hv.2 x List.mem_cons_self
  have he:((((x :: xs).length:Nat):Int) == 0)=false:=beqF (by rw [List.length_cons];omega)
  have hm:Int.tmod (x:Int) 65536=((x % 65536:Nat):Int):=by rw [Int.tmod_eq_emod_of_nonneg oM];omega
  have hf:x % 65536 < W32:=Nat.lt_trans (Nat.mod_lt _ dC) dC
  clear hv h5
  go_enter Tryz.func52,Tryz.ntmps52
  go_wp2_with fail
  rw [show (x:Int) % 65536=((x % 65536:Nat):Int) by omega]
  exact hR.out _ _ (Gives.mk (Ext.alloc _ _) ⟨World.ownsRow_lit (base:=0) w #[.int .u32 ((x % 65536:Nat):Int)] 1 (Nat.zero_le _) dC rfl,Fit.one hf⟩)
theorem one16_own {w:World} {v:Value} {n:NN} (hv:RdNp w v n):
  Calls Tryz.prog 26 #[v] w (Gives w fun v' w'=>OwnN 156 w' v' (oneN n)):=by
 refine via fun R hR=>?_
 obtain ⟨s,xs,ys⟩:=n
 obtain ⟨y,z,rfl,h1,h2⟩:=hv
 have H1:=qH h1
 have H2:=qH h2
 obtain ⟨a,k,rfl,-,-,-,-⟩:=h1.1.shape
 obtain ⟨a',k',rfl,-,-,-,-⟩:=h2.1.shape
 have HL1:Hid (∀ w',Ext w w'→Calls Tryz.prog 52 #[.slice a xs.length k,.int .u32 65536] w' (Gives w' fun v' w'=>OwnL 156 0 w' v' (lowl 65536 xs))):=fun w' x=>low_any (H1.out.ext x)
 have HL2:Hid (∀ w',Ext w w'→Calls Tryz.prog 52 #[.slice a' ys.length k',.int .u32 65536] w' (Gives w' fun v' w'=>OwnL 156 0 w' v' (lowl 65536 ys))):=fun w' x=>low_any (H2.out.ext x)
 clear h1 h2 H1 H2
 obtain ⟨w1,hw1,b1,c1,-,-,-,-⟩:=bx2 w [.bool s,.slice a xs.length k,.slice a' ys.length k'] [.bool false,.slice none 0 0,.slice none 0 0] 102 102
 have HW:=qH hw1
 have C1:=qH c1
 have R2:Hid (Rt w1 (w.heap.size+1) 3 102):=by
  show Rt _ _ _ _
  rw [hw1]
  have:=Rt.new (w.alloc (.cells #[.bool s,.slice a xs.length k,.slice a' ys.length k'] 102)) [.bool false,.slice none 0 0,.slice none 0 0] 102
  simpa using this
 clear hw1 c1
 generalize xs.length=nx at*
 generalize ys.length=ny at*
 go_enter Tryz.func26,Tryz.ntmps26
 go_upto_region 1 with (fail)
 rw [← HW.out]
 clear HW
 have b2:=drew_ext w1
 have XE:=b2
 refine wp_region_noPanic ?_
 refine wp_region_last_drew (st:=9) (S:=fun w'=>w'.cell? ⟨w.heap.size,0,none⟩=some (.bool s)∧w'.cell? ⟨w.heap.size,1,none⟩=some (.slice a nx k)∧w'.cell? ⟨w.heap.size,2,none⟩=some (.slice a' ny k')) kR ((C1.out.ext XE).c3) (fun hHeld=>?_)
 refine tkL 0 hHeld ?_
 simp only [jP,jJ]
 refine tkL 1 hHeld ?_
 simp only [jP,jJ]
 refine tkL 2 hHeld ?_
 simp only [jP,jJ]
 refine tkL 3 hHeld ?_
 simp only [jP,jJ]
 refine tkL 5 hHeld ?_
 simp only [jP,jJ]
 refine tkL 6 hHeld ?_
 simp only [jP,jJ]
 refine rdL 4 kR rfl (fun K hK=>?_)
 go_simp
 go_at_call 52;refine (HL1.out _ (eT b1 XE)).mono ?_;rintro e w3 ⟨v3,rfl,b3,o3⟩;have O3:=qH o3;clear o3;(first | have XE:=eT XE b3 | have XE:=eT (eT XE (Ext.alloc _ _)) b3);obtain ⟨a3,k3,rfl,-,-,-,-⟩:=O3.out.rd.1.shape
 go_wp2_with fail
 refine hK.out _ _ ((C1.out.ext XE).c3) (fun hHeld=>?_)
 clear hK K
 try simp only [jP,jJ]
 refine rdL 7 kR rfl (fun K hK=>?_)
 go_simp
 go_at_call 52;refine (HL2.out _ (eT b1 XE)).mono ?_;rintro e w4 ⟨v4,rfl,b4,o4⟩;have O4:=qH o4;clear o4;(first | have XE:=eT XE b4 | have XE:=eT (eT XE (Ext.alloc _ _)) b4);obtain ⟨a4,k4,rfl,-,-,-,-⟩:=O4.out.rd.1.shape
 go_wp2_with fail
 refine hK.out _ _ ((C1.out.ext XE).c3) (fun hHeld=>?_)
 clear hK K
 try simp only [jP,jJ]
 refine tkL 8 hHeld ?_
 simp only [jP,jJ]
 obtain ⟨_,_,_,j0,j1,j2,i0,i1,i2⟩:=(R2.out.ext XE).rm.c3
 refine wpAnyL_ready (rs:=[9]) kR (by simp) ?_
 refine AllReadyL.last (o:=_) rfl (fun K hK=>?_)
 go_simp
 refine hK.out _ _ ?_
 clear hK K
 try simp only [jP,jJ]
 refine wpAnyL_done kR ?_ _
 refine NoPanic.normal ?_
 go_wp2_with fail
 refine bodyPost_ret (v:=.agg #[.bool s,.slice a3 (lowl 65536 xs).length k3,.slice a4 (lowl 65536 ys).length k4]) (by simp [results,Tryz.results26,go_sem,j0,j1,j2]) rfl ?_
 exact hR.out _ _ (Gives.mk (put3_below (eT b1 XE) oM _ _ _) ⟨_,_,rfl,(O3.out.ext b4).putT (R2.out.ext XE) dC 0 [_,_,_],O4.out.putT (R2.out.ext XE) dC 0 [_,_,_]⟩)
theorem lowl_nv (xs:List Nat):nv ((lowl 65536 xs).take 8) < 65536:=by
 cases xs with
 | nil=>show nv [] < 65536;rw [show nv []=0 from rfl];decide
 | cons x xs=>
  show nv [x % 65536] < 65536
  have:nv [x % 65536]=x % 65536:=by simp [nv,val]
  rw [this];exact Nat.mod_lt _ dC
theorem one_lo (n:NN):(qN (oneN n)).num.natAbs < 65536∧(qN (oneN n)).den < 65536:=by
 have h1:=lowl_nv n.2.1
 have h2:=lowl_nv n.2.2
 have h3:denOf (lowl 65536 n.2.2) < 65536:=by
  unfold denOf
  split
  ·decide
  exact h2
 have h4:=denOf_ne (lowl 65536 n.2.2)
 show (qOf n.1 (lowl 65536 n.2.1) (lowl 65536 n.2.2)).num.natAbs < 65536∧(qOf n.1 (lowl 65536 n.2.1) (lowl 65536 n.2.2)).den < 65536
 rw [qOf_eq]
 generalize nv ((lowl 65536 n.2.1).take 8)=a at*
 generalize denOf (lowl 65536 n.2.2)=b at*
 rw [mkQ_num' _ _ _ h4,mkQ_den _ _ _ h4,sg_abs]
 exact ⟨Nat.lt_of_le_of_lt (Nat.div_le_self _ _) h1,Nat.lt_of_le_of_lt (Nat.div_le_self _ _) h3⟩
end Go.Proofs.YtmlhccajicmpfaaGreat

namespace Go.Att
open Go.RowKit
def EvN (n:NN) (w:World) (v:Value):Prop:=∃ y z,v=.agg #[.slice none 0 0,.bool n.1,y,z]∧OwnN 156 w (.agg #[.bool n.1,y,z]) n
theorem EvN.ext {n:NN} {w w':World} {v:Value} (h:EvN n w v) (x:Ext w w'):EvN n w' v:=by
 obtain ⟨y,z,rfl,h⟩:=h
 exact ⟨y,z,rfl,h.ext x⟩
def AvN (n:NN) (op:Int) (w:World) (v:Value):Prop:=∃ a l c a' l' c',v=.agg #[.slice none 0 0,.bool n.1,.slice a l c,.slice a' l' c',.int .i64 op]∧OwnN 156 w (.agg #[.bool n.1,.slice a l c,.slice a' l' c']) n
theorem AvN.ext {n:NN} {op:Int} {w w':World} {v:Value} (h:AvN n op w v) (x:Ext w w'):AvN n op w' v:=by
 obtain ⟨a,l,c,a',l',c',rfl,h⟩:=h
 exact ⟨a,l,c,a',l',c',rfl,h.ext x⟩
theorem RdNp.sl {w:World} {x y z:Value} {n:NN} (h:RdNp w (.agg #[x,y,z]) n):∃ a l c a' l' c',y=.slice a l c∧z=.slice a' l' c':=by
 obtain ⟨y',z',he,h1,h2⟩:=h
 obtain ⟨-,rfl,rfl⟩:=agg3_inj he
 obtain ⟨a,c,rfl,-,-,-,-⟩:=h1.1.shape
 obtain ⟨a',c',rfl,-,-,-,-⟩:=h2.1.shape
 exact ⟨_,_,_,_,_,_,rfl,rfl⟩
theorem RdRow.nam {w:World} {a:Option Addr} {n c:Nat} {l:List NAT} (h:RdRow 5 RdNA w (.slice a n c) l) (i:Nat) (hi:i < l.length):
  ∃ b off x k y z,a=some ⟨b,off,none⟩∧Bo w b (off+i*5) [.slice x (gt l i).1.1.length k,.bool (gt l i).1.2.1,y,z,.int .i64 (gt l i).2]∧(gt l i).1.1.length≤k∧k≤maxLen∧Hid (RdRow 4 RdNT w (.slice x (gt l i).1.1.length k) (gt l i).1.1)∧Hid (RdNp w (.agg #[.bool (gt l i).1.2.1,y,z]) (gt l i).1.2):=by
 obtain ⟨b1,o1,cs,he,hl,hT,hc⟩:=h.at dC i hi
 rw [← gt_lt hi] at hT
 obtain ⟨s,x,y,z,he1,h1⟩:=hT
 obtain ⟨s',y',z',he2,hr,hn⟩:=h1
 simp only [Value.agg.injEq,Array.mk.injEq,List.cons.injEq,and_true] at he2
 obtain ⟨rfl,rfl,rfl,rfl⟩:=he2
 obtain ⟨a2,k2,rfl,h3,h4⟩:=hr.shape
 have:cs=[.slice a2 (gt l i).1.1.length k2,.bool (gt l i).1.2.1,y,z,.int .i64 (gt l i).2]:=by
  simp only [Value.agg.injEq] at he1
  have:=congrArg Array.toList he1
  simpa using this
 subst this
 exact ⟨b1,o1,a2,k2,y,z,he,Bo.of hc,h3,h4,hr,hn⟩
end Go.Att
namespace Go.Proofs.YtmlhccajicmpfaaGreat
open Go.RowKit Go.Att

def cutT (t:Int × NN):Int × NN:=(t.1,oneN t.2)
theorem cutt_snoc {l:List (Int × NN)} {i:Nat} (hi:i < l.length):(l.take (i+1)).map cutT=(l.take i).map cutT ++ [((gt l i).1,oneN (gt l i).2)]:=by
 rw [← List.take_append_getElem hi,List.map_append,gt_lt hi];rfl
abbrev OwnCt (w:World) (v:Value) (t:Int × NN):Prop:=OwnNT 156 w v t
abbrev OwnCa (w:World) (v:Value) (p:NAT):Prop:=OwnNA 156 111 w v p
theorem etCt:ElemT Tryz.prog 105 111 (.agg #[.int .i64 0,.bool false,.slice none 0 0,.slice none 0 0]) 4 64:=ElemT.mk' Tryz.underlying105 kR rfl dC
theorem etCa:ElemT Tryz.prog 26 109 (.agg #[.slice none 0 0,.bool false,.slice none 0 0,.slice none 0 0,.int .i64 0]) 5 88:=ElemT.mk' Tryz.underlying26 kR rfl dC
theorem meetN {w0 wv:World} {B:Nat} {n:NN} (rB:Rt wv B 5 109) (hx:Ext w0 wv) (hB:w0.heap.size≤B) {x0 y z x4:Value} (o:OwnN 156 wv (.agg #[.bool n.1,y,z]) n):
  ∃ W,W=((((wv.setCell ⟨B,0,none⟩ x0).setCell ⟨B,1,none⟩ (.bool n.1)).setCell ⟨B,2,none⟩ y).setCell ⟨B,3,none⟩ z).setCell ⟨B,4,none⟩ x4∧Ext w0 W∧Hid (Bx W B [x0,.bool n.1,y,z,x4])∧Hid (Rt W B 5 109)∧Hid (OwnN 156 W (.agg #[.bool n.1,y,z]) n):=
 ⟨Att.putL wv B 0 [x0,.bool n.1,y,z,x4],rfl,putL_below hB _ _ hx,qH (rB.putL_at [x0,.bool n.1,y,z,x4] rfl).1,qH (rB.putL_at [x0,.bool n.1,y,z,x4] rfl).2,qH (o.putT rB dC 0 _)⟩
end Go.Proofs.YtmlhccajicmpfaaGreat

namespace Go.Att
open Go.RowKit
theorem kdN {e e':TypeId} (hne:e≠e'):Kd e' (OwnN e):=⟨fun h X=>h.ext X,fun h hr hg=>h.grown hr hne hg,fun h u hu=>by
 obtain ⟨a,l,c,a',l',c',he,-⟩:=h.op
 simp only [Value.agg.injEq] at he
 have he:=congrArg Array.toList he
 simp at he
 rw [he] at hu
 simp at hu
 rcases hu with rfl | rfl | rfl <;> rfl⟩
end Go.Att
namespace Go.Proofs.YtmlhccajicmpfaaGreat
open Go.RowKit Go.Att

theorem etOnes:ElemT Tryz.prog 34 102 (.agg #[.bool false,.slice none 0 0,.slice none 0 0]) 3 56:=ElemT.mk' Tryz.underlying34 kR rfl dC
theorem ones15_any {w:World} {v:Value} {l:List NN} (hv:RdRow 3 RdNp w v l):
  Calls Tryz.prog 7 #[v] w (Gives w fun v' w'=>OwnRow 3 (OwnN 156) 102 w.heap.size w' v' ((l.take 40).map oneN)):=by
 refine via fun R hR=>?_
 obtain ⟨a,c,rfl,hlc,hcm⟩:=hv.shape
 have HV:=qH hv
 unfold maxLen at hcm
 clear hv
 go_enter Tryz.func7,Tryz.ntmps7
 go_wp2_with fail
 go_loopw [3,4] (fun o i wr=>∃ k:Nat,i=.int .i64 k∧k≤l.length∧k≤40∧Ext w wr∧Hid (OwnRow 3 (OwnN 156) 102 w.heap.size wr o ((l.take k).map oneN))) (fun _ i _=>40 - (intOf i).toNat)
 case atStart=>exact ⟨0,rfl,Nat.zero_le _,Nat.zero_le _,Ext.alloc _ _,by rw [List.take_zero];exact OwnRow.nilLit _ (Nat.le_refl _)⟩
 case round=>
  obtain ⟨k,rfl,hk,hk2,hx,hO⟩:=hrel
  have hsz:=hx.size
  by_cases hlt:k < l.length
  ·by_cases h34:k < 40
   ·obtain ⟨b,off,cs,rfl,hcl,hT,hc⟩:=HV.out.at dC k hlt
    obtain ⟨y,z,rfl⟩:=cells_N hT
    obtain ⟨ya,yl,yc,za,zl,zc,rfl,rfl⟩:=RdNp.sl hT
    have e0:=Ext.cell hx (hc 0 dC)
    have e1:=Ext.cell hx (hc 1 dC)
    have e2:=Ext.cell hx (hc 2 dC)
    have HSN:=qH (take_map_snoc oneN hlt)
    have HTT:=qH (RdNp.ext hT hx)
    simp only [List.getElem?_cons_zero,List.getElem?_cons_succ,Nat.add_zero] at e0 e1 e2
    generalize l[k]=p at*
    have HKL:Hid (((l.take k).map oneN).length≤40):=by show _≤_;simp;omega
    clear hT hc
    go_wp2_with fail
    refine (one16_own HTT.out).mono ?_
    rintro e w1 ⟨_,rfl,b1,o1⟩
    clear e0 e1 e2
    obtain ⟨a1,l1,c1,a1',l1',c1',rfl,O1⟩:=o1.op
    have hO1:=qH (hO.out.ext OwnN.ext b1)
    have b01:=hx.trans b1
    clear o1
    go_wp2_with (at_builtin;refine append_rowL (y:=oneN p) etOnes (kdN (e:=156) dC) rF _ _ rF w.heap.size rF _ rF hO1.out rfl O1.out (Below.size b01) (by have:=HKL.out;omega) (by unfold maxLen;have:=HKL.out;omega) ?_;intro v9 w9 o9 b9 g9)
    go_roundw
    case rel=>
     refine ⟨k+1,by go_num,by omega,by omega,Below.trans b01 b9,?_⟩
     rw [HSN.out]
     exact o9
    simp [intOf]<;>omega
   obtain rfl:k=40:=by omega
   go_wp2_with fail
   exact hR.out _ _ (Gives.mk hx hO.out)
  obtain rfl:k=l.length:=by omega
  have HX:Hid ((l.take l.length).map oneN=(l.take 40).map oneN):=by show _=_;rw [List.take_length,List.take_of_length_le hk2]
  go_wp2_with fail
  exact hR.out _ _ (Gives.mk hx (by rw [← HX.out];exact hO.out))
end Go.Proofs.YtmlhccajicmpfaaGreat

namespace Go.Att
open Go.RowKit
def OwnNPp (e:TypeId) (w:World) (v:Value) (p:NN × NN):Prop:=∃ x0 x1 x2 x3 x4 x5,v=.agg #[x0,x1,x2,x3,x4,x5]∧OwnN e w (.agg #[x0,x1,x2]) p.1∧OwnN e w (.agg #[x3,x4,x5]) p.2
theorem OwnNPp.ext {e:TypeId} {w w':World} {v:Value} {p:NN × NN} (h:OwnNPp e w v p) (x:Ext w w'):OwnNPp e w' v p:=by
 obtain ⟨_,_,_,_,_,_,rfl,h1,h2⟩:=h
 exact ⟨_,_,_,_,_,_,rfl,h1.ext x,h2.ext x⟩
theorem OwnNPp.rd {e:TypeId} {w:World} {v:Value} {p:NN × NN} (h:OwnNPp e w v p):RdNDp w v p:=by
 obtain ⟨_,_,_,_,_,_,rfl,h1,h2⟩:=h
 exact ⟨_,_,_,_,_,_,rfl,h1.rd,h2.rd⟩
theorem kdNP {e e':TypeId} (hne:e≠e'):Kd e' (OwnNPp e):=⟨fun h X=>h.ext X,fun h hr hg=>by
 obtain ⟨_,_,_,_,_,_,rfl,h1,h2⟩:=h
 exact ⟨_,_,_,_,_,_,rfl,h1.grown hr hne hg,h2.grown hr hne hg⟩,fun {w cs p} h u hu=>by
 obtain ⟨x0,x1,x2,x3,x4,x5,he,h1,h2⟩:=h
 obtain ⟨a,l,c,a',l',c',e1,-⟩:=h1.op
 obtain ⟨b,m,d,b',m',d',e2,-⟩:=h2.op
 obtain ⟨rfl,rfl,rfl⟩:=agg3_inj e1
 obtain ⟨rfl,rfl,rfl⟩:=agg3_inj e2
 have:cs=[.bool p.1.1,.slice a l c,.slice a' l' c',.bool p.2.1,.slice b m d,.slice b' m' d']:=by simpa using he
 rw [this] at hu
 simp at hu
 rcases hu with rfl | rfl | rfl | rfl | rfl | rfl <;> rfl⟩
end Go.Att
namespace Go.Proofs.YtmlhccajicmpfaaGreat
open Go.RowKit Go.Att

def oneND (p:NN × NN):NN × NN:=(oneN p.1,oneN p.2)
abbrev OnP (w:World) (v:Value) (p:NN × NN):Prop:=OwnNPp 156 w v p
theorem onp_ext {w w':World} {v:Value} {a:NN × NN} (h:OnP w v a) (x:Ext w w'):OnP w' v a:=OwnNPp.ext h x
end Go.Proofs.YtmlhccajicmpfaaGreat

namespace Go.Att
open Go.RowKit

theorem Bo.c3 {w:World} {b o:Nat} {x0 x1 x2:Value} {l:List Value} (h:Bo w b o (x0 :: x1 :: x2 :: l)):w.cell? ⟨b,o,none⟩=some x0∧w.cell? ⟨b,o+1,none⟩=some x1∧w.cell? ⟨b,o+2,none⟩=some x2:=
 ⟨h 0 _ rfl,h 1 _ rfl,h 2 _ rfl⟩
def tmv (P:List Rat) (t:Int × Rat):Rat:=if 0≤t.1∧t.1 < P.length then t.2*gt P t.1.toNat else 0
def tv (P:List Rat):TL→Rat
 | []=>0
 | t :: l=>tmv P t+tv P l
theorem tv_app (P:List Rat) (l m:TL):tv P (l ++ m)=tv P l+tv P m:=by
 induction l with
 | nil=>show tv P m=0+_;rw [Rat.zero_add]
 | cons t l ih=>show _+tv P (l ++ m)=(_+_)+_;rw [ih,Rat.add_assoc]
theorem tv_snoc (P:List Rat) {l:TL} {j:Nat} (hj:j < l.length):tv P (l.take (j+1))=tv P (l.take j)+tmv P (gt l j):=by
 rw [← List.take_append_getElem hj,tv_app,gt_lt hj]
 show _+(tmv P _+0)=_
 rw [Rat.add_zero]
def smv (F:Int→Rat):List Rat→Nat→Rat
 | [],_=>0
 | p :: P,k=>F k*p+smv F P (k+1)
theorem gt_mem' {P:List Rat} {i:Nat} (h:i < P.length):gt P i∈P:=by rw [gt_lt h];exact List.getElem_mem h
theorem tmv_sz {L M:Nat} {P:List Rat} {t:Int × Rat} (ht:Sz L t.2) (hP:∀ p∈P,Sz M p):Sz (L+M+1) (tmv P t):=by
 unfold tmv
 split
 ·rename_i h
  exact (ht.mul (hP _ (gt_mem' oM))).le oM
 exact Sz.zero.le oM
theorem tv_sz {L M:Nat} {P:List Rat} (c:Rat) {l:TL} (hc:Sz L c) (hl:∀ t∈l,Sz L t.2) (hP:∀ p∈P,Sz M p):∀ j,j≤l.length→Sz (j*(L+M+2)+L) (c+tv P (l.take j)):=by
 intro j
 induction j with
 | zero=>intro _;rw [List.take_zero];show Sz _ (c+0);rw [Rat.add_zero];exact hc.le oM
 | succ j ih=>
  intro hj
  rw [tv_snoc P (show j < l.length by omega),← Rat.add_assoc]
  have h1:Sz L (gt l j).2:=by rw [gt_lt (show j < l.length by omega)];exact hl _ (List.getElem_mem _)
  refine ((ih oM).add (tmv_sz h1 hP)).le ?_
  rw [Nat.succ_mul]
  omega
theorem RdRow.oq {e:TypeId} {w:World} {a:Option Addr} {n c:Nat} {l:List Rat} (h:RdRow 3 (OwnQp e) w (.slice a n c) l) (i:Nat) (hi:i < l.length):
  ∃ b off s x k m y k' m',a=some ⟨b,off,none⟩∧Bo w b (off+i*3) [.bool s,.slice x k m,.slice y k' m']∧OwnQ e 0 w (.agg #[.bool s,.slice x k m,.slice y k' m']) (gt l i):=by
 obtain ⟨b1,o1,cs,he,hl,hT,hc⟩:=h.at dC i hi
 obtain ⟨s,x,k,m,y,k',m',h1,h2⟩:=OwnQ.op hT
 have:cs=[.bool s,.slice x k m,.slice y k' m']:=by simpa using h1
 subst this
 exact ⟨b1,o1,s,x,k,m,y,k',m',he,Bo.of hc,by rw [gt_lt hi];exact h2.out⟩
theorem RdRow.op' {e:TypeId} {w:World} {a:Option Addr} {n c:Nat} {l:List Rat} (h:RdRow 3 (OwnPp e) w (.slice a n c) l) (i:Nat) (hi:i < l.length):
  ∃ b off s x k m y k' m',a=some ⟨b,off,none⟩∧Bo w b (off+i*3) [.bool s,.slice x k m,.slice y k' m']∧OwnP e 0 w (.agg #[.bool s,.slice x k m,.slice y k' m']) (gt l i):=by
 obtain ⟨b1,o1,cs,he,hl,hT,hc⟩:=h.at dC i hi
 obtain ⟨s,x,k,m,y,k',m',h1,h2⟩:=OwnP.op hT
 have:cs=[.bool s,.slice x k m,.slice y k' m']:=by simpa using h1
 subst this
 exact ⟨b1,o1,s,x,k,m,y,k',m',he,Bo.of hc,by rw [gt_lt hi];exact h2.out⟩
end Go.Att

namespace Go.Proofs.YtmlhccajicmpfaaGreat
open Go.RowKit Go.Att

open Go.RowKit Go.Att

open Go.RowKit Go.Att

end Go.Proofs.YtmlhccajicmpfaaGreat
