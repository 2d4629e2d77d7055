/- A group of texts: PLight, PRats15 -/
import Derived.Test.YtmlhccajicmpfaaGreatSq
import Derived.Test.YtmlhccajicmpfaaGreatPartBD
import Derived.Test.YtmlhccajicmpfaaGreatPartBH
import Derived.Test.YtmlhccajicmpfaaGreatPartBB
import Derived.Test.YtmlhccajicmpfaaGreatPartCC
import Derived.Test.YtmlhccajicmpfaaGreatPartBC
set_option maxHeartbeats 40000000
set_option maxRecDepth 100000
set_option linter.unusedSimpArgs false
namespace Go.Att
open Go.RowKit
theorem fill_l1 (x0 x1 x2 x3:Value):
  Instr.fill (fun i=>some (i*4,4)) ((Array.range (1*4)).map ((Value.agg #[.int .i64 0,.slice none 0 0,.slice none 0 0,.slice none 0 0]).cells[· % (Value.agg #[.int .i64 0,.slice none 0 0,.slice none 0 0,.slice none 0 0]).cells.size]!)) [(0,.agg #[x0,x1,x2,x3])]=some #[x0,x1,x2,x3]:=by kernel_rfl
theorem take_snoc {α β:Type} (f:α→β) {l:List α} {k:Nat} (h:k < l.length):(l.take (k+1)).map f=(l.take k).map f ++ [f l[k]]:=by
 rw [← List.take_append_getElem h,List.map_append]
 rfl
theorem take_all {α:Type} {R:α→Prop} {l:List α} {k:Nat} (h:∀ x∈l.take k,R x) (hk:k < l.length) (hx:R l[k]):∀ x∈l.take (k+1),R x:=by
 intro x hm
 rw [← List.take_append_getElem hk] at hm
 rcases List.mem_append.1 hm with hm | hm
 ·exact h x hm
 rw [List.mem_singleton.1 hm];exact hx
end Go.Att
namespace Go.Proofs.YtmlhccajicmpfaaGreat
open Go.RowKit Go.Att

abbrev OnN (w:World) (v:Value) (n:NN):Prop:=OwnN 156 w v n
abbrev OnW (w:World) (v:Value) (l:List NN):Prop:=RowO 3 OnN 102 w v l
abbrev OnG (w:World) (v:Value) (l:List Int):Prop:=RowO 1 IntT 3 w v l
abbrev OnL (w:World) (v:Value) (l:Lay NN):Prop:=OwnLay OnN 102 34 85 w v l
abbrev OnNet (w:World) (v:Value) (n:Nt NN):Prop:=OwnNet OnN 102 34 85 160 w v n
theorem onn_ext {w w':World} {v:Value} {a:NN} (h:OnN w v a) (x:Ext w w'):OnN w' v a:=OwnN.ext h x
theorem onw_ext {w w':World} {v:Value} {a:List NN} (h:OnW w v a) (x:Ext w w'):OnW w' v a:=RowO.ext h OwnN.ext x
theorem ong_ext {w w':World} {v:Value} {a:List Int} (h:OnG w v a) (x:Ext w w'):OnG w' v a:=RowO.ext h IntT.ext x
theorem onl_ext {w w':World} {v:Value} {a:Lay NN} (h:OnL w v a) (x:Ext w w'):OnL w' v a:=OwnLay.ext h OwnN.ext x
theorem etLr:ElemT Tryz.prog 158 34 (.slice none 0 0) 1 24:=ElemT.mk' Tryz.underlying158 kR rfl dC
theorem etLg:ElemT Tryz.prog 122 85 (.slice none 0 0) 1 24:=ElemT.mk' Tryz.underlying122 kR rfl dC
theorem etLi:ElemT Tryz.prog 85 3 (.int .i64 0) 1 8:=ElemT.mk' Tryz.underlying85 kR rfl dC
theorem etLl:ElemT Tryz.prog 22 160 (.agg #[.int .i64 0,.slice none 0 0,.slice none 0 0,.slice none 0 0]) 4 80:=ElemT.mk' Tryz.underlying22 kR rfl dC
theorem kdOn {e':TypeId} (h:156≠e'):Kd e' OnN:=kdN h
theorem kdOw {e':TypeId} (h:156≠e') (h2:102≠e'):Kd e' OnW:=kdO h2 (kdOn h)
theorem kdOg {e':TypeId} (h:3≠e'):Kd e' OnG:=kdO h (kdI _)
def LvN (K:Int) (bs:List NN) (w:World) (v:Value):Prop:=∃ a k,v=.agg #[.int .i64 K,.slice none 0 0,.slice a bs.length k,.slice none 0 0]∧OwnRow 3 OnN 102 0 w (.slice a bs.length k) bs
theorem LvN.ext {K:Int} {bs:List NN} {w w':World} {v:Value} (h:LvN K bs w v) (x:Ext w w'):LvN K bs w' v:=by
 obtain ⟨a,k,rfl,h⟩:=h
 exact ⟨a,k,rfl,h.ext onn_ext x⟩
def RnN (bs:List NN) (w:World) (v:Value):Prop:=OwnRow 3 OnN 102 0 w v bs
theorem RnN.ext {bs:List NN} {w w':World} {v:Value} (h:RnN bs w v) (x:Ext w w'):RnN bs w' v:=OwnRow.ext h onn_ext x
theorem RnN.op {bs:List NN} {w:World} {v:Value} (h:RnN bs w v):∃ a k,v=.slice a bs.length k∧RnN bs w (.slice a bs.length k):=by
 obtain ⟨a,c,rfl,-,-⟩:=(OwnRow.rd h).shape
 exact ⟨a,c,rfl,h⟩
theorem meetL {w0 wv:World} {B:Nat} {bs:List NN} (rB:Rt wv B 4 160) (hx:Ext w0 wv) (hB:w0.heap.size≤B) {x0 x1 y x3:Value} (o:OwnRow 3 OnN 102 0 wv y bs):
  ∃ W,W=(((wv.setCell ⟨B,0,none⟩ x0).setCell ⟨B,1,none⟩ x1).setCell ⟨B,2,none⟩ y).setCell ⟨B,3,none⟩ x3∧Ext w0 W∧Hid (Bx W B [x0,x1,y,x3])∧Hid (Rt W B 4 160)∧Hid (OwnRow 3 OnN 102 0 W y bs):=
 ⟨Att.putL wv B 0 [x0,x1,y,x3],rfl,putL_below hB _ _ hx,qH (rB.putL_at [x0,x1,y,x3] rfl).1,qH (rB.putL_at [x0,x1,y,x3] rfl).2,qH (o.putT rB dC 0 _ fun _ _ h=>OwnN.putT h rB dC 0 _)⟩
theorem lightK_any {w:World} {v:Value} {n:Nt NN} (hv:RdNet RdNp w v n):
  Calls Tryz.prog 25 #[v] w (Gives w fun v' w'=>∃ o b k,v'=.tuple #[o,.bool b]∧(b=true↔lit n)∧OnNet w' o (n.1,(n.2.take k).map (mapLay oneN))∧k≤3∧(∀ l∈n.2.take k,litL l)∧(b=true→n.2.take k=n.2)∧∃ z a m c,o=.agg #[.int .i64 z,.slice a m c]):=by
 refine via fun R hR=>?_
 obtain ⟨z,ls⟩:=n
 obtain ⟨a,c,rfl,hlc,hcm,hr⟩:=hv.op
 have HV:=qH hr
 dsimp only at hlc hcm HV
 unfold maxLen at hcm
 clear hv hr
 obtain ⟨w1,hw1,b1,c1,-,-,-,-⟩:=bx2 w [.int .i64 z,.slice a ls.length c] [.int .i64 0,.slice none 0 0] 24 24
 have HW:=qH hw1
 have C1:=qH c1
 have R1:Hid (Rt w1 (w.heap.size+1) 2 24):=by
  show Rt _ _ _ _
  rw [hw1]
  have:=Rt.new (w.alloc (.cells #[.int .i64 z,.slice a ls.length c] 24)) [.int .i64 0,.slice none 0 0] 24
  simpa using this
 obtain ⟨j0,j1⟩:=c1.c2
 clear hw1 c1
 go_enter Tryz.func25,Tryz.ntmps25
 go_upto_region 1 with (fail)
 rw [← HW.out]
 clear HW
 go_cut [4] (fun s4 wx=>∃ E:Nat,s4=.pointer (some ⟨E,0,none⟩)∧w1.heap.size≤E∧Ext w1 wx∧Hid (Bx wx E [.int .i64 z,.slice none 0 0])∧Hid (Rt wx E 2 24))
 case first=>
  go_wp2_with fail
  go_meet
  exact ⟨_,rfl,Nat.le_refl _,Ext.alloc _ _,Bx.new w1 [_,_] _,Rt.new w1 [_,_] _⟩
 case rest=>
  obtain ⟨E,rfl,hE1,hX2,hC2,hR2⟩:=hcut
  obtain ⟨w2,hw2⟩:∃ w0:World,w0=wc:=⟨_,rfl⟩
  subst hw2
  have HE:=qH hE1
  clear hE1 j0 j1
  obtain ⟨j0,j1⟩:=(C1.out.ext hX2).c2
  have HNIL:=qH (OwnRow.nil (T:=OnL) (k:=4) 160 0 w2)
  by_cases h4:4 < z
  ·have hd:decide ((4:Int) < z)=true:=decide_eq_true h4
   have hd':decide (z > (4:Int))=true:=decide_eq_true h4
   obtain ⟨q0,q1⟩:=hC2.out.c2
   obtain ⟨_,_,r0,r1,g0,g1⟩:=(R1.out.ext hX2).c2
   go_wp2_with fail
   refine bodyPost_ret (v:=.tuple #[.agg #[.int .i64 z,.slice none 0 0],.bool false]) (by simp [results,Tryz.results25,go_sem,r0,r1]) rfl ?_
   exact hR.out _ _ (Gives.mk (putL_below oM [_,_] 0 (eT b1 hX2)) ⟨_,_,0,rfl,⟨(fun h=>by cases h),fun h=>absurd h (fun h=>by have:=h.1;dsimp only at this;omega)⟩,⟨_,rfl,(OwnRow.mono HNIL.out (Nat.zero_le _)).putT (R1.out.ext hX2) dC 0 [_,_] (fun _ _ h=>OwnLay.putT h (R1.out.ext hX2) dC dC dC dC 0 [_,_] fun _ _ h=>OwnN.putT h (R1.out.ext hX2) dC 0 [_,_])⟩,dC,(fun l h=>by rw [List.take_zero] at h;cases h),(fun h=>by cases h),⟨_,_,_,_,rfl⟩⟩)
  by_cases h3:3 < ls.length
  ·have hd:decide ((4:Int) < z)=false:=decide_eq_false h4
   have hd3:=dT ((3:Int) < (ls.length:Int))
   obtain ⟨q0,q1⟩:=hC2.out.c2
   obtain ⟨_,_,r0,r1,g0,g1⟩:=(R1.out.ext hX2).c2
   go_wp2_with fail
   refine bodyPost_ret (v:=.tuple #[.agg #[.int .i64 z,.slice none 0 0],.bool false]) (by simp [results,Tryz.results25,go_sem,r0,r1]) rfl ?_
   exact hR.out _ _ (Gives.mk (putL_below oM [_,_] 0 (eT b1 hX2)) ⟨_,_,0,rfl,⟨(fun h=>by cases h),fun h=>absurd h (fun h=>by have:=h.2.1;dsimp only at this;omega)⟩,⟨_,rfl,(OwnRow.mono HNIL.out (Nat.zero_le _)).putT (R1.out.ext hX2) dC 0 [_,_] (fun _ _ h=>OwnLay.putT h (R1.out.ext hX2) dC dC dC dC 0 [_,_] fun _ _ h=>OwnN.putT h (R1.out.ext hX2) dC 0 [_,_])⟩,dC,(fun l h=>by rw [List.take_zero] at h;cases h),(fun h=>by cases h),⟨_,_,_,_,rfl⟩⟩)
  have hd:decide ((4:Int) < z)=false:=decide_eq_false h4
  have hd3:=dF ((3:Int) < (ls.length:Int))
  have HZ:Hid (z≤4∧ls.length≤3):=qH ⟨by omega,by omega⟩
  go_wp2_with fail
  clear hd hd3 h4 h3
  go_loopw [28] (fun t wr=>∃ (i:Nat) (ao:Option Addr) (ko:Nat),t=.int .i64 i∧i≤ls.length∧Hid (Ext w1 wr)∧Hid (Bx wr E [.int .i64 z,.slice ao i ko])∧Hid (Rt wr E 2 24)∧Hid (OwnRow 4 OnL 160 w1.heap.size wr (.slice ao i ko) ((ls.take i).map (mapLay oneN)))∧Hid (∀ l∈ls.take i,litL l)) (fun t _=>ls.length - (intOf t).toNat)
  case atStart=>exact ⟨0,none,0,rfl,Nat.zero_le _,hX2,hC2,hR2,by rw [List.take_zero];exact OwnRow.nil _ _ _,by rw [List.take_zero];exact qH fun l h=>by cases h⟩
  case round=>
   clear hC2 hR2 j0 j1 hX2
   obtain ⟨i,ao,ko,rfl,hi,hX,hC,hRt,hO,hL⟩:=hrel
   obtain ⟨wo,hwo⟩:∃ w0:World,w0=wr:=⟨_,rfl⟩
   subst hwo
   by_cases hlt:i < ls.length
   ·have hd:=dT ((i:Int) < (ls.length:Int))
    have HJ1:IntKind.i64.wrap ((i:Int)+1)=((i+1:Nat):Int):=by rw [IntKind.wrap_i64];omega
    have HI2:(0:Int)≤(i:Int)∧(i:Int) < (ls.length:Int):=⟨by omega,by omega⟩
    have hxw:=eT b1 hX.out
    obtain ⟨bL,oL,ax,mx',ay,my,az,mz,hae,hbo,hRW,hRB,hRG⟩:=(HV.out.ext (fun h x=>RdLay.ext h RdNp.ext x) hxw).lay i hlt
    subst hae
    have HSN:=qH (take_snoc (mapLay oneN) hlt)
    have HLL:Hid (litL ls[i]→∀ l∈ls.take (i+1),litL l):=fun h=>take_all hL.out hlt h
    have HMM:Hid (∀ h:lit (z,ls),litL ls[i]):=fun h=>h.2.2 _ (List.getElem_mem hlt)
    obtain ⟨l,hl⟩:∃ l,ls[i]=l:=⟨_,rfl⟩
    rw [hl] at hbo hRW hRB hRG HSN HLL HMM
    clear hl
    have HRW:=qH hRW
    have HRG:=qH hRG
    obtain ⟨u0,u1,u2,u3⟩:=hbo.c4
    obtain ⟨w4,hw4,b4,c4,-,-⟩:=bx1 wo [.int .i64 l.K,.slice ax l.W.length mx',.slice ay l.B.length my,.slice az l.G.length mz] 160
    have HW:=qH hw4
    have C4:=qH c4
    have HON:Hid (∀ w',Ext wo w'→Calls Tryz.prog 7 #[.slice ay l.B.length my] w' (Gives w' fun v' w'=>OwnRow 3 OnN 102 0 w' v' ((l.B.take 40).map oneN))):=fun w' x=>(ones15_any (hRB.ext RdNp.ext x)).mono fun _ _ ⟨v,e,b,o⟩=>⟨v,e,b,o.mono (Nat.zero_le _)⟩
    clear hw4 c4 hRW hRB hRG hbo
    go_upto_region 7 with (fail)
    rw [← HW.out]
    clear HW u0 u1 u2 u3
    have hX4:=eT hX.out b4
    have C4E:=qH (hC.out.ext b4)
    obtain ⟨u0,u1,u2,u3⟩:=C4.out.c4
    by_cases hW4:4 < l.W.length
    ·have hd1:=dT ((4:Int) < (l.W.length:Int))
     obtain ⟨q0,q1⟩:=C4E.out.c2
     obtain ⟨_,_,r0,r1,g0,g1⟩:=(R1.out.ext hX4).c2
     go_wp2_with fail
     refine bodyPost_ret (v:=.tuple #[.agg #[.int .i64 z,.slice ao i ko],.bool false]) (by simp [results,Tryz.results25,go_sem,r0,r1]) rfl ?_
     exact hR.out _ _ (Gives.mk (putL_below oM [_,_] 0 (eT b1 hX4)) ⟨_,_,i,rfl,⟨(fun h=>by cases h),fun h=>absurd h (fun h=>by have:=(HMM.out h).1.1;omega)⟩,⟨_,rfl,(OwnRow.mono (hO.out.ext onl_ext b4) (Nat.zero_le _)).putT (R1.out.ext hX4) dC 0 [_,_] (fun _ _ h=>OwnLay.putT h (R1.out.ext hX4) dC dC dC dC 0 [_,_] fun _ _ h=>OwnN.putT h (R1.out.ext hX4) dC 0 [_,_])⟩,(by have:=HZ.out.2;omega),hL.out,(fun h=>by cases h),⟨_,_,_,_,rfl⟩⟩)
    have hd1:=dF ((4:Int) < (l.W.length:Int))
    by_cases hB5:5 < l.B.length
    ·have hd2:=dT ((5:Int) < (l.B.length:Int))
     obtain ⟨q0,q1⟩:=C4E.out.c2
     obtain ⟨_,_,r0,r1,g0,g1⟩:=(R1.out.ext hX4).c2
     go_wp2_with fail
     refine bodyPost_ret (v:=.tuple #[.agg #[.int .i64 z,.slice ao i ko],.bool false]) (by simp [results,Tryz.results25,go_sem,r0,r1]) rfl ?_
     exact hR.out _ _ (Gives.mk (putL_below oM [_,_] 0 (eT b1 hX4)) ⟨_,_,i,rfl,⟨(fun h=>by cases h),fun h=>absurd h (fun h=>by have:=(HMM.out h).1.2.1;omega)⟩,⟨_,rfl,(OwnRow.mono (hO.out.ext onl_ext b4) (Nat.zero_le _)).putT (R1.out.ext hX4) dC 0 [_,_] (fun _ _ h=>OwnLay.putT h (R1.out.ext hX4) dC dC dC dC 0 [_,_] fun _ _ h=>OwnN.putT h (R1.out.ext hX4) dC 0 [_,_])⟩,(by have:=HZ.out.2;omega),hL.out,(fun h=>by cases h),⟨_,_,_,_,rfl⟩⟩)
    have hd2:=dF ((5:Int) < (l.B.length:Int))
    by_cases hG4:4 < l.G.length
    ·have hd3:=dT ((4:Int) < (l.G.length:Int))
     obtain ⟨q0,q1⟩:=C4E.out.c2
     obtain ⟨_,_,r0,r1,g0,g1⟩:=(R1.out.ext hX4).c2
     go_wp2_with fail
     refine bodyPost_ret (v:=.tuple #[.agg #[.int .i64 z,.slice ao i ko],.bool false]) (by simp [results,Tryz.results25,go_sem,r0,r1]) rfl ?_
     exact hR.out _ _ (Gives.mk (putL_below oM [_,_] 0 (eT b1 hX4)) ⟨_,_,i,rfl,⟨(fun h=>by cases h),fun h=>absurd h (fun h=>by have:=(HMM.out h).1.2.2;omega)⟩,⟨_,rfl,(OwnRow.mono (hO.out.ext onl_ext b4) (Nat.zero_le _)).putT (R1.out.ext hX4) dC 0 [_,_] (fun _ _ h=>OwnLay.putT h (R1.out.ext hX4) dC dC dC dC 0 [_,_] fun _ _ h=>OwnN.putT h (R1.out.ext hX4) dC 0 [_,_])⟩,(by have:=HZ.out.2;omega),hL.out,(fun h=>by cases h),⟨_,_,_,_,rfl⟩⟩)
    have hd3:=dF ((4:Int) < (l.G.length:Int))
    have HLE:Hid (l.W.length≤4∧l.B.length≤5∧l.G.length≤4):=qH ⟨by omega,by omega,by omega⟩
    go_upto_region 9 with (fail)
    clear hd1 hd2 hd3 hW4 hB5 hG4
    have HBS:Hid ((l.B.take 40).map oneN=l.B.map oneN):=by show _=_;rw [List.take_of_length_le (by have:=HLE.out.2.1;omega)]
    rw [HBS.out] at HON
    clear HBS
    obtain ⟨bs,hbs⟩:∃ bs,l.B.map oneN=bs:=⟨_,rfl⟩
    rw [hbs] at HON
    have HBS:=qH hbs
    clear hbs
    have SZ4:=qH C4.out.lt
    go_cut [7] (fun s7 wx=>∃ (X:Nat) (ab:Option Addr) (kb:Nat),s7=.pointer (some ⟨X,0,none⟩)∧w4.heap.size≤X∧Ext w4 wx∧Hid (Bx wx X [.int .i64 l.K,.slice none 0 0,.slice ab bs.length kb,.slice none 0 0])∧Hid (Rt wx X 4 160)∧Hid (OwnRow 3 OnN 102 0 wx (.slice ab bs.length kb) bs))
    case first=>
     as_aux_lemma=>
      clear u0 u1 u2 u3
      refine wp_region_noPanic ?_
      refine wp_region_held_drew (S:=fun w'=>w'.cell? ⟨wo.heap.size,0,none⟩=some (.int .i64 l.K)∧w'.cell? ⟨wo.heap.size,1,none⟩=some (.slice ax l.W.length mx')∧w'.cell? ⟨wo.heap.size,2,none⟩=some (.slice ay l.B.length my)∧w'.cell? ⟨wo.heap.size,3,none⟩=some (.slice az l.G.length mz)) kR ((C4.out.ext (drew_ext w4)).c4) (fun hHeld=>?_)
      refine tkH 0 hHeld ?_
      simp only [jP,jJ]
      refine tkH 2 hHeld ?_
      simp only [jP,jJ]
      refine tkH 1 hHeld ?_
      simp only [jP,jJ]
      refine tkH 3 hHeld ?_
      simp only [jP,jJ]
      refine anyH_cap fun O Q9 AA hO hQ hA=>?_
      obtain ⟨SS,hSS⟩:∃ SS:World→Prop,Hid (SS=fun w'=>w'.cell? ⟨wo.heap.size,0,none⟩=some (.int .i64 l.K)∧w'.cell? ⟨wo.heap.size,1,none⟩=some (.slice ax l.W.length mx')∧w'.cell? ⟨wo.heap.size,2,none⟩=some (.slice ay l.B.length my)∧w'.cell? ⟨wo.heap.size,3,none⟩=some (.slice az l.G.length mz)):=⟨_,rfl⟩
      have KP:Hid (∀ wv,Ext w4 wv→SS wv):=fun wv XE=>by rw [hSS.out];exact (C4.out.ext XE).c4
      have L2_6:∀ (wv:World) (v4 v5:Value) (B6:Nat),Hid (Ext w4 wv)→Hid (RnN bs wv v4)→Hid (LvN l.K bs wv v5)→Hid (Rt wv B6 4 160)→Hid (w4.heap.size≤B6)→wpAnyH Tryz.prog .any O Q9 SS 1 #[true,true,true,true,true,true,true,false] (((AA.put (some 53) v4).put (some 54) v5).put (some 7) (.pointer (some ⟨B6,0,none⟩))) wv:=by
       intro wv v4 v5 B6 hX p4 p5 r6 s6
       have hO1:=hO.out
       have hQ1:=hQ.out
       have hA1:=hA.out
       subst hO1
       subst hQ1
       subst hA1
       have XE:=hX.out
       have hHeld:=KP.out _ XE
       have hS1:=hSS.out
       subst hS1
       try simp only [jP,jJ]
       have k0_6:wo.heap.size≠B6:=by have h1:=s6.out;have hz0:=SZ4.out;omega
       obtain ⟨a9,k9,rfl,OO⟩:=p5.out
       obtain ⟨_,_,_,_,i6_0,i6_1,i6_2,i6_3,f6_0,f6_1,f6_2,f6_3⟩:=r6.out.c4
       refine rdH 7 kR rfl (fun K hK=>?_)
       go_simp
       refine hK.out _ _ ((((((C4.out.ext XE).set1 k0_6 _ _).set1 k0_6 _ _).set1 k0_6 _ _).set1 k0_6 _ _).c4) (fun hHeld=>?_)
       clear hK K
       try simp only [jP,jJ]
       refine dnH kR ?_
       go_wp2_with fail
       go_meet
       obtain ⟨W,hW,hM1,hM2,hM3,hM4⟩:=meetL r6.out hX.out s6.out OO
       rw [← hW]
       exact ⟨B6,_,_,rfl,s6.out,hM1,hM2,hM3,hM4⟩
      have L1_6:∀ (wv:World) (v4:Value) (B6:Nat),Hid (Ext w4 wv)→Hid (RnN bs wv v4)→Hid (Rt wv B6 4 160)→Hid (w4.heap.size≤B6)→wpAnyH Tryz.prog .any O Q9 SS 2 #[true,true,true,true,true,false,true,false] ((AA.put (some 53) v4).put (some 7) (.pointer (some ⟨B6,0,none⟩))) wv:=by
       intro wv v4 B6 hX p4 r6 s6
       have hO1:=hO.out
       have hQ1:=hQ.out
       have hA1:=hA.out
       subst hO1
       subst hQ1
       subst hA1
       have XE:=hX.out
       have hHeld:=KP.out _ XE
       have hS1:=hSS.out
       subst hS1
       try simp only [jP,jJ]
       obtain ⟨a5,k5,rfl,o5⟩:=p4.out.op
       refine tkH 5 hHeld ?_
       simp only [jP,jJ]
       exact wpAnyH_at (L2_6 wv _ _ B6 hX.out p4.out (⟨_,_,rfl,o5⟩) r6.out s6.out) kR kR kR
      have L2_:∀ (wv:World) (v4 v5:Value),Hid (Ext w4 wv)→Hid (RnN bs wv v4)→Hid (LvN l.K bs wv v5)→wpAnyH Tryz.prog .any O Q9 SS 2 #[true,true,true,true,true,true,false,false] ((AA.put (some 53) v4).put (some 54) v5) wv:=by
       intro wv v4 v5 hX p4 p5
       have hO1:=hO.out
       have hQ1:=hQ.out
       have hA1:=hA.out
       subst hO1
       subst hQ1
       subst hA1
       have XE:=hX.out
       try simp only [jP,jJ]
       refine rdH 6 kR rfl (fun K hK=>?_)
       go_simp
       refine hK.out _ _ (KP.out _ (eT XE (Ext.alloc _ _))) (fun _=>?_)
       clear hK K
       try simp only [jP,jJ]
       exact wpAnyH_at (L2_6 _ v4 v5 wv.heap.size (eT XE (Ext.alloc wv (.cells [.int .i64 0,.slice none 0 0,.slice none 0 0,.slice none 0 0].toArray 160))) (p4.out.ext (Ext.alloc wv (.cells [.int .i64 0,.slice none 0 0,.slice none 0 0,.slice none 0 0].toArray 160))) (p5.out.ext (Ext.alloc wv (.cells [.int .i64 0,.slice none 0 0,.slice none 0 0,.slice none 0 0].toArray 160))) (Rt.new wv [.int .i64 0,.slice none 0 0,.slice none 0 0,.slice none 0 0] 160) (Below.size XE)) kR kR kR
      have L0_6:∀ (wv:World) (B6:Nat),Hid (Ext w4 wv)→Hid (Rt wv B6 4 160)→Hid (w4.heap.size≤B6)→wpAnyH Tryz.prog .any O Q9 SS 3 #[true,true,true,true,false,false,true,false] (AA.put (some 7) (.pointer (some ⟨B6,0,none⟩))) wv:=by
       intro wv B6 hX r6 s6
       have hO1:=hO.out
       have hQ1:=hQ.out
       have hA1:=hA.out
       subst hO1
       subst hQ1
       subst hA1
       have XE:=hX.out
       try simp only [jP,jJ]
       refine rdH 4 kR rfl (fun K hK=>?_)
       go_simp
       go_at_call 7
       refine (HON.out _ (eT b4 XE)).mono ?_
       rintro e wn ⟨vn,rfl,bn,on⟩
       go_wp2_with fail
       refine hK.out _ _ (KP.out _ (eT XE bn)) (fun _=>?_)
       clear hK K
       try simp only [jP,jJ]
       exact wpAnyH_at (L1_6 wn vn B6 (eT XE bn) (on) (r6.out.ext bn) s6) kR kR kR
      have L1_:∀ (wv:World) (v4:Value),Hid (Ext w4 wv)→Hid (RnN bs wv v4)→wpAnyH Tryz.prog .any O Q9 SS 3 #[true,true,true,true,true,false,false,false] (AA.put (some 53) v4) wv:=by
       intro wv v4 hX p4
       have hO1:=hO.out
       have hQ1:=hQ.out
       have hA1:=hA.out
       subst hO1
       subst hQ1
       subst hA1
       have XE:=hX.out
       have hHeld:=KP.out _ XE
       have hS1:=hSS.out
       subst hS1
       try simp only [jP,jJ]
       obtain ⟨a5,k5,rfl,o5⟩:=p4.out.op
       refine tkH 5 hHeld ?_
       simp only [jP,jJ]
       exact wpAnyH_at (L2_ wv _ _ hX.out p4.out (⟨_,_,rfl,o5⟩)) kR kR kR
      have L0_:∀ (wv:World),Hid (Ext w4 wv)→wpAnyH Tryz.prog .any O Q9 SS 4 #[true,true,true,true,false,false,false,false] AA wv:=by
       intro wv hX
       have hO1:=hO.out
       have hQ1:=hQ.out
       have hA1:=hA.out
       subst hO1
       subst hQ1
       subst hA1
       have XE:=hX.out
       try simp only [jP,jJ]
       refine wpAnyH_ready (rs:=[4,6]) kR (by simp) ?_
       refine AllReadyH.cons (o:=_) rfl (fun K hK=>?_) (AllReadyH.cons (o:=_) rfl (fun K hK=>?_) AllReadyH.nil)
       ·skip
        go_simp
        go_at_call 7
        refine (HON.out _ (eT b4 XE)).mono ?_
        rintro e wn ⟨vn,rfl,bn,on⟩
        go_wp2_with fail
        refine hK.out _ _ (KP.out _ (eT XE bn)) (fun _=>?_)
        clear hK K
        try simp only [jP,jJ]
        exact wpAnyH_at (L1_ wn vn (eT XE bn) (on)) kR kR kR
       skip
       go_simp
       refine hK.out _ _ (KP.out _ (eT XE (Ext.alloc _ _))) (fun _=>?_)
       clear hK K
       try simp only [jP,jJ]
       exact wpAnyH_at (L0_6 _ wv.heap.size (eT XE (Ext.alloc wv (.cells [.int .i64 0,.slice none 0 0,.slice none 0 0,.slice none 0 0].toArray 160))) (Rt.new wv [.int .i64 0,.slice none 0 0,.slice none 0 0,.slice none 0 0] 160) (Below.size XE)) kR kR kR
      have hO1:=hO.out
      have hQ1:=hQ.out
      have hA1:=hA.out
      subst hO1
      subst hQ1
      subst hA1
      have hS1:=hSS.out
      subst hS1
      exact wpAnyH_at (L0_ w4.drew (drew_ext w4)) kR kR kR
    case rest=>
     as_aux_lemma=>
      obtain ⟨X,ab,kb,rfl,hXX,hX5,hC5,hR5,hB5⟩:=hcut
      obtain ⟨w5,hw5⟩:∃ w0:World,w0=wc:=⟨_,rfl⟩
      subst hw5
      have HXW:Hid (w4.heap.size≤X):=hXX
      clear hXX SZ4 u0 u1 u2 u3 C4E HON
      obtain ⟨u0,u1,u2,u3⟩:=(C4.out.ext hX5).c4
      go_wp2_with fail
      clear u0 u1 u2 u3
      go_loopw [58] (fun t wr=>∃ (j:Nat) (sa:Option Addr) (sk:Nat),t=.int .i64 j∧j≤l.W.length∧Hid (Ext w4 wr)∧Hid (Bx wr X [.int .i64 l.K,.slice sa j sk,.slice ab bs.length kb,.slice none 0 0])∧Hid (Rt wr X 4 160)∧Hid (OwnRow 3 OnN 102 0 wr (.slice ab bs.length kb) bs)∧Hid (OwnRow 1 OnW 34 w4.heap.size wr (.slice sa j sk) ((l.W.take j).map (·.map oneN)))∧Hid (∀ r∈l.W.take j,r.length≤5)) (fun t _=>l.W.length - (intOf t).toNat)
      case atStart=>exact ⟨0,none,0,rfl,Nat.zero_le _,hX5,hC5,hR5,hB5,by rw [List.take_zero];exact OwnRow.nil _ _ _,by rw [List.take_zero];exact qH fun r h=>by cases h⟩
      case round=>
       clear hC5 hR5 hB5 hX5
       obtain ⟨j,sa,sk,rfl,hj,hx6,hC6,hRt6,hB6,hS6,hL6⟩:=hrel
       obtain ⟨w6,hw6⟩:∃ w0:World,w0=wr:=⟨_,rfl⟩
       subst hw6
       have hsz6:w4.heap.size≤w6.heap.size:=Below.size hx6.out
       by_cases hjl:j < l.W.length
       ·have hd1:=dT ((j:Int) < (l.W.length:Int))
        have HK1:IntKind.i64.wrap ((j:Int)+1)=((j+1:Nat):Int):=by have:=HLE.out;rw [IntKind.wrap_i64];omega
        have HK2:(0:Int)≤(j:Int)∧(j:Int) < (l.W.length:Int):=⟨by omega,by omega⟩
        obtain ⟨bW,oW,xr,mr,hxe,hcell,hrr⟩:=(HRW.out.ext (fun h x=>RowT.ext h RdNp.ext x) (eT b4 hx6.out)).row j hjl
        subst hxe
        have HSTm:=qH (take_snoc (fun x:List NN=>x.map oneN) hjl)
        have HRM:Hid (l.W[j]∈l.W):=List.getElem_mem hjl
        have HLW:Hid (l.W[j].length≤5→∀ r∈l.W.take (j+1),r.length≤5):=fun h=>take_all hL6.out hjl h
        obtain ⟨r,hr⟩:∃ r,l.W[j]=r:=⟨_,rfl⟩
        rw [hr] at hcell hrr HSTm HRM HLW
        clear hr
        have HRR:=qH hrr
        clear hrr
        by_cases h5:5 < r.length
        ·have hd2:=dT ((5:Int) < (r.length:Int))
         obtain ⟨q0,q1⟩:=(hC.out.ext (eT b4 hx6.out)).c2
         obtain ⟨_,_,r0,r1,g0,g1⟩:=(R1.out.ext (eT hX4 hx6.out)).c2
         go_wp2_with fail
         refine bodyPost_ret (v:=.tuple #[.agg #[.int .i64 z,.slice ao i ko],.bool false]) (by simp [results,Tryz.results25,go_sem,r0,r1]) rfl ?_
         exact hR.out _ _ (Gives.mk (putL_below oM [_,_] 0 (eT b1 (eT hX4 hx6.out))) ⟨_,_,i,rfl,⟨(fun h=>by cases h),fun h=>absurd h (fun h=>by have:=(HMM.out h).2.1 r HRM.out;omega)⟩,⟨_,rfl,(OwnRow.mono (hO.out.ext onl_ext (eT b4 hx6.out)) (Nat.zero_le _)).putT (R1.out.ext (eT hX4 hx6.out)) dC 0 [_,_] (fun _ _ h=>OwnLay.putT h (R1.out.ext (eT hX4 hx6.out)) dC dC dC dC 0 [_,_] fun _ _ h=>OwnN.putT h (R1.out.ext (eT hX4 hx6.out)) dC 0 [_,_])⟩,(by have:=HZ.out.2;omega),hL.out,(fun h=>by cases h),⟨_,_,_,_,rfl⟩⟩)
        have hd2:=dF ((5:Int) < (r.length:Int))
        have HLW2:=qH (HLW.out oM)
        have HON2:Hid (∀ w',Ext w6 w'→Calls Tryz.prog 7 #[.slice xr r.length mr] w' (Gives w' fun v' w'=>OwnRow 3 OnN 102 0 w' v' ((r.take 40).map oneN))):=fun w' x=>(ones15_any (HRR.out.ext RdNp.ext x)).mono fun _ _ ⟨v,e,b,o⟩=>⟨v,e,b,o.mono (Nat.zero_le _)⟩
        have HRS:Hid ((r.take 40).map oneN=r.map oneN):=by show _=_;rw [List.take_of_length_le oM]
        rw [HRS.out] at HON2
        clear HRS
        obtain ⟨rr,hrr⟩:∃ rr,r.map oneN=rr:=⟨_,rfl⟩
        rw [hrr] at HON2 HSTm
        clear hrr
        obtain ⟨ws,hws⟩:∃ ws,(l.W.take j).map (·.map oneN)=ws:=⟨_,rfl⟩
        have HSL:Hid (ws.length=j∧j≤4):=by rw [← hws,List.length_map,List.length_take];exact ⟨by omega,by have:=HLE.out.1;omega⟩
        rw [hws] at hS6 HSTm
        clear hws
        obtain ⟨ws2,hws2⟩:∃ ws,(l.W.take (j+1)).map (·.map oneN)=ws:=⟨_,rfl⟩
        have HW2:Hid (ws2.length=j+1):=by show _=_;rw [← hws2,List.length_map,List.length_take];omega
        have HOE:=qH hws2
        rw [hws2] at HSTm
        have HST:=qH HSTm.out
        clear hws2 HSTm
        go_upto_region 15 with (fail)
        clear hd2 h5 hcell
        have neS:=hS6.out.ne_rt hRt6.out dC
        have b7:=drew_ext w6
        have XE:=b7
        refine wp_region_noPanic ?_
        refine wp_region_cut_drew (st:=7) (S:=fun w'=>w'.cell? ⟨X,0,none⟩=some (.int .i64 l.K)∧w'.cell? ⟨X,1,none⟩=some (.slice sa j sk)∧w'.cell? ⟨X,2,none⟩=some (.slice ab bs.length kb)∧w'.cell? ⟨X,3,none⟩=some (.slice none 0 0)) kR ((hC6.out.ext XE).c4) (fun hHeld=>?_)
        refine tkT 0 [7] hHeld ?_
        simp only [jP,jJ]
        refine tkT 1 [7] hHeld ?_
        simp only [jP,jJ]
        refine tkT 2 [7] hHeld ?_
        simp only [jP,jJ]
        refine rdT 3 kR rfl rF (fun K hK=>?_)
        go_simp
        go_at_call 7;refine (HON2.out _ XE).mono ?_;rintro e w8 ⟨v8,rfl,b8,o8⟩;have O8:=qH o8;clear o8;(first | have XE:=eT XE b8 | have XE:=eT (eT XE (Ext.alloc _ _)) b8);obtain ⟨ar,kr,rfl,hro⟩:=RowO.of O8.out
        go_wp2_with fail
        refine hK.out _ _ ((hC6.out.ext XE).c4) (fun hHeld=>?_)
        clear hK K
        try simp only [jP,jJ]
        refine rdT 4 kR rfl rF (fun K hK=>?_)
        refine if_wantedL rfl ?_
        refine build1K etLr rF (T:=OnW) onw_ext rF [.slice ar rr.length kr] (fill_s1 ..) rfl dC (y:=rr) hro ?_
        intro g20 w20 x20 _ l20
        have XE:=eT XE x20
        have L20:=qH l20.rd
        clear l20
        refine hK.out _ _ ((hC6.out.ext XE).c4) (fun hHeld=>?_)
        clear hK K
        try simp only [jP,jJ]
        refine rdT 5 kR rfl rF (fun K hK=>?_)
        refine if_wantedL rfl ?_
        refine append_rowG etLr (kdOw dC dC) _ _ rF w4.heap.size rF (hS6.out.ext onw_ext XE) rF L20.out (by have:=HSL.out;omega) (by have:=HSL.out;unfold maxLen;omega) (Nat.le_trans hsz6 (Below.size XE)) ?_
        intro v9 w9 o9 b9 g9 _
        have RO9:=qH ((hRt6.out.ext XE).grow g9 neS)
        have DO9:=qH ((hC6.out.ext XE).grow g9 neS)
        obtain ⟨nn,xs,hown⟩:=(hS6.out.ext onw_ext XE).own
        have HB9:=qH (OwnRow.grown (hB6.out.ext onn_ext XE) (fun _ _ h=>(kdOn dC).grown h hown g9) hown dC g9)
        have XW:=qH (Below.trans hx6.out (Below.trans (Below.mono XE hsz6) b9))
        have O9:Hid (OwnRow 1 OnW 34 w4.heap.size w9 v9 ws2):=(by rw [HST.out];exact o9)
        obtain ⟨a11,k11,he9,-,-⟩:=O9.out.rd.shape
        rw [HW2.out] at he9
        subst he9
        refine hK.out _ _ (DO9.out.c4) (fun hHeld=>?_)
        clear hK K o9 hown
        try simp only [jP,jJ]
        refine tkT 6 [7] hHeld ?_
        simp only [jP,jJ]
        obtain ⟨_,_,_,_,n0,n1,n2,n3,i0,i1,i2,i3⟩:=RO9.out.c4
        refine wpAnyT_ready (rs:=[7]) kR (by simp) ?_
        refine AllReadyT.cut (o:=_) rfl (fun K hK=>?_)
        go_simp
        refine hK.out _ _ ?_
        clear hK K
        try simp only [jP,jJ]
        refine wpAny_done kR ?_ _
        refine NoPanic.normal ?_
        go_wp2_with fail
        go_roundw
        case rel=>exact ⟨j+1,a11,k11,by go_num,by omega,putL_below HXW.out [_] 1 XW.out,DO9.out.setAt RO9.out 1 dC _,RO9.out.setAt 1 _,HB9.out.putT RO9.out dC 1 [_] (fun _ _ h=>OwnN.putT h RO9.out dC 1 [_]),by rw [HOE.out];exact O9.out.putT RO9.out dC 1 [_] (fun _ _ h=>RowO.putT h RO9.out dC 1 [_] fun _ _ h=>OwnN.putT h RO9.out dC 1 [_]),HLW2⟩
        simp [intOf]<;>omega
       obtain rfl:j=l.W.length:=by omega
       have hd1:=dF ((l.W.length:Int) < (l.W.length:Int))
       have HTW:Hid (l.W.take l.W.length=l.W):=by show _=_;rw [List.take_length]
       rw [HTW.out] at hS6 hL6
       clear HTW hj
       obtain ⟨u0,u1,u2,u3⟩:=(C4.out.ext hx6.out).c4
       go_wp2_with fail
       clear u0 u1 u2 u3 hd1
       obtain ⟨wl,hwl⟩:∃ wl,l.W.map (·.map oneN)=wl:=⟨_,rfl⟩
       rw [hwl] at hS6
       have HWL:=qH hwl
       clear hwl
       go_loopw [77] (fun t wr=>∃ (j:Nat) (sg:Option Addr) (kg:Nat),t=.int .i64 j∧j≤l.G.length∧Hid (Ext w4 wr)∧Hid (Bx wr X [.int .i64 l.K,.slice sa l.W.length sk,.slice ab bs.length kb,.slice sg j kg])∧Hid (Rt wr X 4 160)∧Hid (OwnRow 3 OnN 102 0 wr (.slice ab bs.length kb) bs)∧Hid (OwnRow 1 OnW 34 w4.heap.size wr (.slice sa l.W.length sk) wl)∧Hid (OwnRow 1 OnG 85 w4.heap.size wr (.slice sg j kg) (l.G.take j))∧Hid (∀ g∈l.G.take j,g.length≤4)) (fun t _=>l.G.length - (intOf t).toNat)
       case atStart=>exact ⟨0,none,0,rfl,Nat.zero_le _,hx6,hC6,hRt6,hB6,hS6,by rw [List.take_zero];exact OwnRow.nil _ _ _,by rw [List.take_zero];exact qH fun r h=>by cases h⟩
       case round=>
        clear hC6 hRt6 hB6 hS6 hx6 hsz6
        obtain ⟨j,sg,kg,rfl,hj,hx7,hC7,hRt7,hB7,hS7,hG7,hL7⟩:=hrel
        obtain ⟨w7,hw7⟩:∃ w0:World,w0=wr:=⟨_,rfl⟩
        subst hw7
        have hsz7:w4.heap.size≤w7.heap.size:=Below.size hx7.out
        by_cases hjl:j < l.G.length
        ·have hd1:=dT ((j:Int) < (l.G.length:Int))
         have HK1:IntKind.i64.wrap ((j:Int)+1)=((j+1:Nat):Int):=by have:=HLE.out;rw [IntKind.wrap_i64];omega
         have HK2:(0:Int)≤(j:Int)∧(j:Int) < (l.G.length:Int):=⟨by omega,by omega⟩
         obtain ⟨bG,oG,xr,mr,hxe,hcell,hrr⟩:=(HRG.out.ext (fun h x=>RowT.ext h IntT.ext x) (eT b4 hx7.out)).row j hjl
         subst hxe
         have HSTm:Hid (l.G.take (j+1)=l.G.take j ++ [l.G[j]]):=(List.take_append_getElem hjl).symm
         have HRM:Hid (l.G[j]∈l.G):=List.getElem_mem hjl
         have HLG:Hid (l.G[j].length≤4→∀ r∈l.G.take (j+1),r.length≤4):=fun h=>take_all hL7.out hjl h
         obtain ⟨gg,hgg⟩:∃ r,l.G[j]=r:=⟨_,rfl⟩
         rw [hgg] at hcell hrr HSTm HRM HLG
         clear hgg
         have HGR:=qH hrr
         clear hrr
         by_cases h5:4 < gg.length
         ·have hd2:=dT ((4:Int) < (gg.length:Int))
          obtain ⟨q0,q1⟩:=(hC.out.ext (eT b4 hx7.out)).c2
          obtain ⟨_,_,r0,r1,g0,g1⟩:=(R1.out.ext (eT hX4 hx7.out)).c2
          go_wp2_with fail
          refine bodyPost_ret (v:=.tuple #[.agg #[.int .i64 z,.slice ao i ko],.bool false]) (by simp [results,Tryz.results25,go_sem,r0,r1]) rfl ?_
          exact hR.out _ _ (Gives.mk (putL_below oM [_,_] 0 (eT b1 (eT hX4 hx7.out))) ⟨_,_,i,rfl,⟨(fun h=>by cases h),fun h=>absurd h (fun h=>by have:=(HMM.out h).2.2 gg HRM.out;omega)⟩,⟨_,rfl,(OwnRow.mono (hO.out.ext onl_ext (eT b4 hx7.out)) (Nat.zero_le _)).putT (R1.out.ext (eT hX4 hx7.out)) dC 0 [_,_] (fun _ _ h=>OwnLay.putT h (R1.out.ext (eT hX4 hx7.out)) dC dC dC dC 0 [_,_] fun _ _ h=>OwnN.putT h (R1.out.ext (eT hX4 hx7.out)) dC 0 [_,_])⟩,(by have:=HZ.out.2;omega),hL.out,(fun h=>by cases h),⟨_,_,_,_,rfl⟩⟩)
         have hd2:=dF ((4:Int) < (gg.length:Int))
         have HG4:Hid (gg.length≤4):=qH oM
         have HLG2:=qH (HLG.out HG4.out)
         obtain ⟨gs,hgs⟩:∃ gs,l.G.take j=gs:=⟨_,rfl⟩
         have HSL:Hid (gs.length=j∧j≤4):=by rw [← hgs,List.length_take];exact ⟨by omega,by have:=HLE.out.2.2;omega⟩
         rw [hgs] at hG7 HSTm
         clear hgs hL7 HLG
         obtain ⟨gs2,hgs2⟩:∃ gs,l.G.take (j+1)=gs:=⟨_,rfl⟩
         have HW2:Hid (gs2.length=j+1):=by show _=_;rw [← hgs2,List.length_take];omega
         have HOE:=qH hgs2
         rw [hgs2] at HSTm
         have HST:=qH HSTm.out
         clear hgs2 HSTm
         go_upto_region 22 with (fail)
         clear hd2 h5 hcell
         have neS:=hG7.out.ne_rt hRt7.out dC
         have b8:=drew_ext w7
         have XE:=b8
         refine wp_region_noPanic ?_
         refine wp_region_cut_drew (st:=8) (S:=fun w'=>w'.cell? ⟨X,0,none⟩=some (.int .i64 l.K)∧w'.cell? ⟨X,1,none⟩=some (.slice sa l.W.length sk)∧w'.cell? ⟨X,2,none⟩=some (.slice ab bs.length kb)∧w'.cell? ⟨X,3,none⟩=some (.slice sg j kg)) kR ((hC7.out.ext XE).c4) (fun hHeld=>?_)
         refine tkT 0 [8] hHeld ?_
         simp only [jP,jJ]
         refine tkT 1 [8] hHeld ?_
         simp only [jP,jJ]
         refine tkT 3 [8] hHeld ?_
         simp only [jP,jJ]
         refine rdT 2 kR rfl rF (fun K hK=>?_)
         go_simp
         refine hK.out _ _ ((hC7.out.ext (eT XE (Ext.alloc _ _))).c4) (fun hHeld=>?_)
         clear hK K
         try simp only [jP,jJ]
         refine rdT 4 kR rfl rF (fun K hK=>?_)
         refine if_wantedL rfl ?_
         refine append_rowA (l:=([]:List Int)) etLi (kdI _) _ _ rF w7.heap.size rF ((OwnRow.nilLit (w:=w7) 3 (Nat.le_refl _)).ext IntT.ext (drew_ext _)) rF (HGR.out.ext IntT.ext (eT (Ext.alloc _ _) (drew_ext _))) (by have:=HG4.out;show (0+gg.length)*8≤140737488355328;omega) (by have:=HG4.out;unfold maxLen;show 0+gg.length≤_;omega) (Below.size (eT (Ext.alloc _ _) (drew_ext _))) ?_
         intro v18 w18 o18 b18 _
         have XE:Ext w7 w18:=Below.trans (eT (Ext.alloc _ _) (drew_ext _)) b18
         rw [List.nil_append] at o18
         obtain ⟨ar,kr,rfl,hro⟩:=RowO.of (o18.mono (Nat.zero_le _))
         clear o18 b18
         refine hK.out _ _ ((hC7.out.ext XE).c4) (fun hHeld=>?_)
         clear hK K
         try simp only [jP,jJ]
         refine rdT 5 kR rfl rF (fun K hK=>?_)
         refine if_wantedL rfl ?_
         refine build1K etLg rF (T:=OnG) ong_ext rF [.slice ar gg.length kr] (fill_s1 ..) rfl dC (y:=gg) hro ?_
         intro g20 w20 x20 _ l20
         have XE:=eT XE x20
         have L20:=qH l20.rd
         clear l20
         refine hK.out _ _ ((hC7.out.ext XE).c4) (fun hHeld=>?_)
         clear hK K
         try simp only [jP,jJ]
         refine rdT 6 kR rfl rF (fun K hK=>?_)
         refine if_wantedL rfl ?_
         refine append_rowG etLg (kdOg dC) _ _ rF w4.heap.size rF (hG7.out.ext ong_ext XE) rF L20.out (by have:=HSL.out;omega) (by have:=HSL.out;unfold maxLen;omega) (Nat.le_trans hsz7 (Below.size XE)) ?_
         intro v9 w9 o9 b9 g9 _
         have RO9:=qH ((hRt7.out.ext XE).grow g9 neS)
         have DO9:=qH ((hC7.out.ext XE).grow g9 neS)
         obtain ⟨nn,xs,hown⟩:=(hG7.out.ext ong_ext XE).own
         have HB9:=qH (OwnRow.grown (hB7.out.ext onn_ext XE) (fun _ _ h=>(kdOn dC).grown h hown g9) hown dC g9)
         have HS9:=qH (OwnRow.grown (hS7.out.ext onw_ext XE) (fun _ _ h=>(kdOw dC dC).grown h hown g9) hown dC g9)
         have XW:=qH (Below.trans hx7.out (Below.trans (Below.mono XE hsz7) b9))
         have O9:Hid (OwnRow 1 OnG 85 w4.heap.size w9 v9 gs2):=(by rw [HST.out];exact o9)
         obtain ⟨a11,k11,he9,-,-⟩:=O9.out.rd.shape
         rw [HW2.out] at he9
         subst he9
         refine hK.out _ _ (DO9.out.c4) (fun hHeld=>?_)
         clear hK K o9 hown
         try simp only [jP,jJ]
         refine tkT 7 [8] hHeld ?_
         simp only [jP,jJ]
         obtain ⟨_,_,_,_,n0,n1,n2,n3,i0,i1,i2,i3⟩:=RO9.out.c4
         refine wpAnyT_ready (rs:=[8]) kR (by simp) ?_
         refine AllReadyT.cut (o:=_) rfl (fun K hK=>?_)
         go_simp
         refine hK.out _ _ ?_
         clear hK K
         try simp only [jP,jJ]
         refine wpAny_done kR ?_ _
         refine NoPanic.normal ?_
         go_wp2_with fail
         go_roundw
         case rel=>exact ⟨j+1,a11,k11,by go_num,by omega,putL_below HXW.out [_] 3 XW.out,DO9.out.setAt RO9.out 3 dC _,RO9.out.setAt 3 _,HB9.out.putT RO9.out dC 3 [_] (fun _ _ h=>OwnN.putT h RO9.out dC 3 [_]),HS9.out.putT RO9.out dC 3 [_] (fun _ _ h=>RowO.putT h RO9.out dC 3 [_] fun _ _ h=>OwnN.putT h RO9.out dC 3 [_]),by rw [HOE.out];exact O9.out.putT RO9.out dC 3 [_] (fun _ _ h=>RowO.putT h RO9.out dC 3 [_] fun _ _ h=>h),HLG2⟩
         simp [intOf]<;>omega
        obtain rfl:j=l.G.length:=by omega
        have hd1:=dF ((l.G.length:Int) < (l.G.length:Int))
        have HTG:Hid (l.G.take l.G.length=l.G):=by show _=_;rw [List.take_length]
        rw [HTG.out] at hG7 hL7
        have HL2:=qH (HLL.out ⟨HLE.out,hL6.out,hL7.out⟩)
        have HEL:Hid (OnL w7 (.agg #[.int .i64 l.K,.slice sa l.W.length sk,.slice ab bs.length kb,.slice sg l.G.length kg]) (mapLay oneN l)):=⟨_,_,_,rfl,by show OwnRow 1 OnW _ 0 _ _ (l.W.map (·.map oneN));rw [HWL.out];exact hS7.out.mono (Nat.zero_le _),by show OwnRow 3 OnN _ 0 _ _ (l.B.map oneN);rw [HBS.out];exact hB7.out,hG7.out.mono (Nat.zero_le _)⟩
        obtain ⟨ll,hll⟩:∃ ll,mapLay oneN l=ll:=⟨_,rfl⟩
        rw [hll] at HEL HSN
        clear hll HTG hS7 hB7 hG7 hL6 hL7 HWL HBS hj HLL
        obtain ⟨ol,hol⟩:∃ ol,(ls.take i).map (mapLay oneN)=ol:=⟨_,rfl⟩
        have HOL:Hid (ol.length=i∧i≤3):=by rw [← hol,List.length_map,List.length_take];exact ⟨by omega,by have:=HZ.out.2;omega⟩
        rw [hol] at HSN hO
        clear hol
        obtain ⟨ol2,hol2⟩:∃ ol,(ls.take (i+1)).map (mapLay oneN)=ol:=⟨_,rfl⟩
        have HO2:Hid (ol2.length=i+1):=by show _=_;rw [← hol2,List.length_map,List.length_take];omega
        have HOE:=qH hol2
        rw [hol2] at HSN
        clear hol2
        have h17:=eT hX4 hx7.out
        have hw7:Ext wo w7:=eT b4 hx7.out
        obtain ⟨x0,x1,x2,x3⟩:=hC7.out.c4
        obtain ⟨q0,q1⟩:=(hC.out.ext hw7).c2
        have neE:=hO.out.ne_rt hRt.out dC
        go_upto_region 24 with (fail)
        go_wp2_with (refine build1W etLl rF rF (T:=OnL) onl_ext rF [.int .i64 l.K,.slice sa l.W.length sk,.slice ab bs.length kb,.slice sg l.G.length kg] (fill_l1 ..) rfl dC HEL.out ?_;intro g8 w8 x8 _ l8;refine append_rowGL etLl (kdLay (kdOn dC) dC dC dC dC) rF _ _ rF w1.heap.size rF (hO.out.ext onl_ext (eT hw7 x8)) rF l8.rd (by have:=HOL.out;omega) (by unfold maxLen;have:=HOL.out;omega) (Below.size (eT h17 x8)) ?_;intro v9 w9 o9 b9 g9 _;have RE9:=qH ((hRt.out.ext (eT hw7 x8)).grow g9 neE);have CE9:=qH ((hC.out.ext (eT hw7 x8)).grow g9 neE);have O9:Hid (OwnRow 4 OnL 160 w1.heap.size w9 v9 ol2):=(by rw [HSN.out];exact o9);have XW:=qH (Below.trans (eT h17 x8) b9);obtain ⟨a11,k11,he9,-,-⟩:=O9.out.rd.shape;rw [HO2.out] at he9;subst he9;obtain ⟨_,_,e0,e1,f0,f1⟩:=RE9.out.c2)
        go_roundw
        case rel=>exact ⟨i+1,a11,k11,by go_num,by omega,putL_below HE.out [_] 1 XW.out,CE9.out.setAt RE9.out 1 dC _,RE9.out.setAt 1 _,by rw [HOE.out];exact O9.out.putT RE9.out dC 1 [_] (fun _ _ h=>OwnLay.putT h RE9.out dC dC dC dC 1 [_] fun _ _ h=>OwnN.putT h RE9.out dC 1 [_]),HL2⟩
        simp [intOf]<;>omega
   obtain rfl:i=ls.length:=by omega
   have hd:=dF ((ls.length:Int) < (ls.length:Int))
   obtain ⟨q0,q1⟩:=hC.out.c2
   obtain ⟨_,_,r0,r1,g0,g1⟩:=(R1.out.ext hX.out).c2
   have HT:Hid (ls.take ls.length=ls):=by show _=_;rw [List.take_length]
   have hO':=hO
   rw [HT.out] at hO hL
   go_wp2_with fail
   refine bodyPost_ret (v:=.tuple #[.agg #[.int .i64 z,.slice ao ls.length ko],.bool true]) (by simp [results,Tryz.results25,go_sem,r0,r1]) rfl ?_
   exact hR.out _ _ (Gives.mk (putL_below oM [_,_] 0 (eT b1 hX.out)) ⟨_,_,ls.length,rfl,⟨fun _=>⟨HZ.out.1,HZ.out.2,hL.out⟩,fun _=>rfl⟩,⟨_,rfl,(hO'.out.mono (Nat.zero_le _)).putT (R1.out.ext hX.out) dC 0 [_,_] (fun _ _ h=>OwnLay.putT h (R1.out.ext hX.out) dC dC dC dC 0 [_,_] fun _ _ h=>OwnN.putT h (R1.out.ext hX.out) dC 0 [_,_])⟩,HZ.out.2,(by rw [HT.out];exact hL.out),fun _=>HT.out,⟨_,_,_,_,rfl⟩⟩)
open Go.RowKit Go.Att

theorem rats15_any {w:World} {v:Value} {l:List NN} (hv:RdRow 3 RdNp w v l) (hs:∀ p∈l,Nlt 1000000000 p):
  Calls Tryz.prog 53 #[v] w (Gives w fun v' w'=>OwnRow 3 (OwnQp 156) 38 w.heap.size w' v' ((l.take 34).map qN)):=by
 refine via fun R hR=>?_
 have HS:=qH hs
 obtain ⟨a,c,rfl,hlc,hcm⟩:=hv.shape
 have HV:=qH hv
 unfold maxLen at hcm
 clear hv hs
 go_enter Tryz.func53,Tryz.ntmps53
 go_wp2_with fail
 go_loopw [3,4] (fun o i wr=>∃ k:Nat,i=.int .i64 k∧k≤l.length∧k≤34∧Ext w wr∧Hid (OwnRow 3 (OwnQp 156) 38 w.heap.size wr o ((l.take k).map qN))) (fun _ i _=>34 - (intOf i).toNat)
 case atStart=>exact ⟨0,rfl,Nat.zero_le _,Nat.zero_le _,Ext.alloc _ _,by rw [List.take_zero];exact OwnRow.nilLit _ (Nat.le_refl _)⟩
 case round=>
  obtain ⟨k,rfl,hk,hk2,hx,hO⟩:=hrel
  have hsz:=hx.size
  by_cases hlt:k < l.length
  ·by_cases h34:k < 34
   ·obtain ⟨b,off,cs,rfl,hcl,hT,hc⟩:=HV.out.at dC k hlt
    obtain ⟨y,z,rfl⟩:=cells_N hT
    have e0:=Ext.cell hx (hc 0 dC)
    have e1:=Ext.cell hx (hc 1 dC)
    have e2:=Ext.cell hx (hc 2 dC)
    have HSN:=qH (take_map_snoc qN hlt)
    have HTT:=qH (RdNp.ext hT hx)
    have HSS:=qH (HS.out l[k] (List.getElem_mem hlt))
    simp only [List.getElem?_cons_zero,List.getElem?_cons_succ,Nat.add_zero] at e0 e1 e2
    generalize l[k]=p at*
    have HKL:Hid (((l.take k).map qN).length≤34):=by show _≤_;simp;omega
    clear hT hc
    go_wp2_with fail
    refine (of8_any HTT.out HSS.out.1 HSS.out.2).mono ?_
    rintro e w1 ⟨_,rfl,b1,o1⟩
    clear e0 e1 e2
    obtain ⟨s1,a1,l1,c1,a1',l1',c1',rfl,O1⟩:=o1.op
    have hO1:=qH (hO.out.ext OwnQ.ext b1)
    have b01:=hx.trans b1
    clear o1
    go_wp2_with (at_builtin;refine append_rowL (y:=qN p) etRats (kdQ (e:=156) dC) rF _ _ rF w.heap.size rF _ rF hO1.out rfl (O1.out.mono (Nat.zero_le _)) (Below.size b01) (by have:=HKL.out;omega) (by unfold maxLen;have:=HKL.out;omega) ?_;intro v9 w9 o9 b9 g9)
    go_roundw
    case rel=>
     refine ⟨k+1,by go_num,by omega,by omega,Below.trans b01 b9,?_⟩
     rw [HSN.out]
     exact o9
    simp [intOf]<;>omega
   obtain rfl:k=34:=by omega
   go_wp2_with fail
   exact hR.out _ _ (Gives.mk hx hO.out)
  obtain rfl:k=l.length:=by omega
  have HX:Hid ((l.take l.length).map qN=(l.take 34).map qN):=by show _=_;rw [List.take_length,List.take_of_length_le hk2]
  go_wp2_with fail
  exact hR.out _ _ (Gives.mk hx (by rw [← HX.out];exact hO.out))
end Go.Proofs.YtmlhccajicmpfaaGreat
