/- simplex.build -/
import Derived.Test.YthpaifdfafjlcaaGreatSq
import Derived.Test.YthpaifdfafjlcaaGreatTabAll
import Derived.Test.YthpaifdfafjlcaaGreatLastT
import Derived.Test.YthpaifdfafjlcaaGreatPTabWhy
import Derived.Test.YthpaifdfafjlcaaGreatR8All
namespace Go.Att
open Go.RowKit
theorem OwnD.mkQ {e:TypeId} {B:Nat} {w:World} {x y z x' y' z':Value} {a b:Rat} (h1:OwnQ e B w (.agg #[x,y,z]) a) (h2:OwnQ e B w (.agg #[x',y',z']) b):OwnD e B w (.agg #[x,y,z,x',y',z']) a b:=by
 obtain ⟨n,d,e1,on,od⟩:=h1
 obtain ⟨m,c,e2,om,oc⟩:=h2
 obtain ⟨rfl,rfl,rfl⟩:=agg3_inj e1
 obtain ⟨rfl,rfl,rfl⟩:=agg3_inj e2
 exact ⟨_,_,_,_,rfl,on,od,om,oc⟩
end Go.Att
namespace Go.Proofs.YthpaifdfafjlcaaGreat
open Go.RowKit Go.Att Go.Sx

theorem etDb:ElemT Tryz.prog 116 122 (.agg #[.bool false,.slice none 0 0,.slice none 0 0,.bool false,.slice none 0 0,.slice none 0 0]) 6 112:=ElemT.mk' Tryz.underlying116 (by kernel_rfl) rfl (by decide)
theorem etRb:ElemT Tryz.prog 33 49 (.agg #[.bool false,.slice none 0 0,.slice none 0 0]) 3 56:=ElemT.mk' Tryz.underlying33 (by kernel_rfl) rfl (by decide)
theorem etHb:ElemT Tryz.prog 118 33 (.slice none 0 0) 1 24:=ElemT.mk' Tryz.underlying118 (by kernel_rfl) rfl (by decide)
theorem etIb:ElemT Tryz.prog 117 3 (.int .i64 0) 1 8:=ElemT.mk' Tryz.underlying117 (by kernel_rfl) rfl (by decide)
theorem ownd_nil (e:TypeId) (w:World):OwnD e 0 w (.agg #[.bool false,.slice none 0 0,.slice none 0 0,.bool false,.slice none 0 0,.slice none 0 0]) 0 0:=OwnD.mkQ (ownq_nil _ _) (ownq_nil _ _)
set_option linter.unusedSimpArgs false in
theorem dof_own {w:World} {x y z:Value} {q:Rat} (hq:OwnQ 115 0 w (.agg #[x,y,z]) q):
  Calls Tryz.prog 55 #[.agg #[x,y,z]] w (Gives w fun v' w'=>OwnD 115 0 w' v' q 0):=by
 refine via fun R hR=>?_
 obtain ⟨s,a,l,c,a',l',c',he,HQ⟩:=hq.op
 obtain ⟨rfl,rfl,rfl⟩:=agg3_inj he
 clear hq he
 obtain ⟨w1,hw1,b1,c1,-,-,r2,-⟩:=bx2 w [.bool s,.slice a l c,.slice a' l' c'] [.bool false,.slice none 0 0,.slice none 0 0,.bool false,.slice none 0 0,.slice none 0 0] 49 122
 obtain ⟨k0,k1,k2⟩:=c1.c3
 obtain ⟨_,_,_,_,_,_,j0,j1,j2,j3,j4,j5,g0,g1,g2,g3,g4,g5⟩:=r2.c6
 have HW:=Lib.hid hw1
 clear hw1 c1 r2
 go_enter Tryz.func55,Tryz.ntmps55
 go_upto_region 1 with (fail)
 rw [← HW.out]
 clear HW
 go_wp2_with fail
 refine bodyPost_ret (v:=.agg #[.bool s,.slice a l c,.slice a' l' c',.bool false,.slice none 0 0,.slice none 0 0]) (by simp [results,Tryz.results55,go_sem,j0,j1,j2,j3,j4,j5]) rfl ?_
 have xx:=put6_below b1 (show w.heap.size≤w.heap.size+1 by omega) (.bool s) (.slice a l c) (.slice a' l' c') (.bool false) (.slice none 0 0) (.slice none 0 0)
 exact hR.out _ _ (Gives.mk xx (OwnD.mkQ (HQ.out.ext xx) (ownq_nil _ _)))
theorem cf_set {l:TL} {N j:Nat} (hf:FormT l) (hj:j < l.length) {v:Nat} (hv:(gt l j).1=(v:Int)) (_hN:v < N):
  (tab N fun u=>cf (l.take j) (u:Int)).set v (gt l j).2=tab N fun u=>cf (l.take (j+1)) (u:Int):=by
 rw [tab_set]
 refine tab_congr fun u _=>?_
 have h1:l.take (j+1)=l.take j ++ [gt l j]:=by rw [gt_lt hj,List.take_append_getElem hj]
 have h2:cf (l.take j) (v:Int)=0:=by
  refine cf_none fun t ht e=>?_
  obtain ⟨i,hi,rfl⟩:=List.getElem_of_mem ht
  rw [List.length_take] at hi
  rw [List.getElem_take] at e
  have:=List.pairwise_iff_getElem.1 hf.1 i j (by omega) hj (by omega)
  rw [gt_lt hj] at hv
  omega
 rw [h1,cf_app,cf_one,hv]
 by_cases e:u=v
 ·rw [if_pos e,e,if_pos rfl,h2,Rat.zero_add]
 ·rw [if_neg e,if_neg (by omega),Rat.add_zero]
theorem apt_new {α:Type} {k B g n c:Nat} {T:World→Value→α→Prop} {e:TypeId} {w:World} {v:Value} {l:List α} (h:OwnRow k T e B w v l) (hg:w.heap.size≤g):Apt (.slice (some ⟨g,0,none⟩) n c) v:=fun g' h1 h2=>by
 simp only [Value.ownBlock,Option.some.injEq] at h1
 have:=(h.lt g' h2).2
 omega
def CanR (la:TL) (ca:Rat) (B:Nat) (w:World) (v:Value):Prop:=∃ l',(FormT l'∧∀ x,cf l' x=cf la x)∧l'.length≤1000∧OwnX B w v l' ca
def hiA (L:List AT) (i:Nat):Rat := -(gt L i).1.2
def hiB (L:List AT) (i:Nat):Rat:=if (gt L i).2=2 then -1 else 0
def cfN (L:List AT) (i u:Nat):Rat:=cf (gt L i).1.1 (u:Int)
theorem build_end {w0 w:World} {bt n0 N M:Nat} {L:List AT} {gs ks:Nat→Nat} {al ab ar aa av ah:Option Addr} {kl kb kr ka kv kh:Nat} (hN:n0+L.length=N) (hM:L.length=M) (hvars:∀ a∈L,∀ t∈a.1.1,0≤t.1∧t.1 < n0)
  (h:TabP w0 w bt n0 N (hiA L) (hiB L) (cfN L) gs ks (.slice ab M kb) (.slice ar N kr) (.slice aa M ka) (.slice av N kv) (.slice ah M kh) M N M M) (hl:RdRow 5 OwnA w0 (.slice al M kl) L)
  (hx:Bx w bt [.int .i64 n0,.slice al M kl,.slice ab M kb,.slice ar N kr,.slice aa M ka,.slice av N kv,.slice ah M kh]):
  TabO w0 w bt n0 L (fun i=>(std0 n0 L).D.A (n0+i)) (std0 n0 L).a (std0 n0 L).b (fun i=>n0+i) (row0 n0) gs ks al ab ar aa av ah kl kb kr ka kv kh:=by
 subst hN hM
 refine TabP.done ?_ hl hx
 have e1:hiA L=fun i=>(bnd n0 L).hA (n0+i):=funext fun i=>by show _ = -(gt L (n0+i - n0)).1.2;rw [Nat.add_sub_cancel_left];rfl
 have e2:hiB L=fun i=>(bnd n0 L).hB (n0+i):=funext fun i=>by show _=if (gt L (n0+i - n0)).2=2 then (-1:Rat) else 0;rw [Nat.add_sub_cancel_left];rfl
 rw [e1,e2] at h
 exact ⟨h.x0,h.rt,h.hb,h.ob,h.or,h.oa,fun i hi=>own_congr (h.os i hi) (tab_congr fun u _=>by
  show cf (gt L i).1.1 (u:Int)=if u < n0 then cf (gt L (n0+i - n0)).1.1 (u:Int) else 0
  rw [Nat.add_sub_cancel_left]
  by_cases hu:u < n0
  ·rw [if_pos hu]
  ·rw [if_neg hu]
   refine cf_none fun t ht e=>?_
   have:=(hvars _ (gt_lt hi ▸ List.getElem_mem hi) t ht).2
   omega),h.ov,h.oh,h.ds,h.db,h.dv,h.bs⟩
set_option linter.unusedSimpArgs false in
set_option maxHeartbeats 20000000 in
set_option maxRecDepth 100000 in
theorem build_any {w:World} {n0:Nat} {L:List AT} {al:Option Addr} {kl:Nat} (hl:RdRow 5 OwnA w (.slice al L.length kl) L) (hs:∀ a∈L,a.1.1.length≤1000∧∀ t∈a.1.1,Sz 5000 t.2) (hvars:∀ a∈L,∀ t∈a.1.1,0≤t.1∧t.1 < n0) (hn:n0+L.length≤100000):
  Calls Tryz.prog 34 #[.int .i64 n0,.slice al L.length kl] w (Gives w fun v' w'=>∃ bt gs ks ab ar aa gv ah kb kr ka kv kh,v'=.pointer (some ⟨bt,0,none⟩)∧TabO w w' bt n0 L (fun i=>(std0 n0 L).D.A (n0+i)) (std0 n0 L).a (std0 n0 L).b (fun i=>n0+i) (row0 n0) gs ks al ab ar aa (some ⟨gv,0,none⟩) ah kl kb kr ka kv kh):=by
 refine via fun R hR=>?_
 obtain ⟨N,hN⟩:∃ N,n0+L.length=N:=⟨_,rfl⟩
 obtain ⟨M,hM⟩:∃ M,L.length=M:=⟨_,rfl⟩
 have HN:=Lib.hid hN
 have HM:=Lib.hid hM
 have hNM:n0+M=N:=by omega
 have HCAN:Hid (∀ i w' v,i < M→Ext w w'→RdX w' v (gt L i).1.1 (gt L i).1.2→Calls Tryz.prog 48 #[v] w' (Gives w' fun v' w''=>CanR (gt L i).1.1 (gt L i).1.2 w'.heap.size w'' v')):=fun i w' v hi x hx=>by
  have hm:gt L i∈L:=by rw [gt_lt (by omega)];exact List.getElem_mem _
  obtain ⟨h1,h2⟩:=hs _ hm
  exact (canon_any 5000 hx h2 h1 (by decide)).mono fun _ _ ⟨v,e,b,l',hc,_,hl',o⟩=>⟨v,e,b,l',hc,by omega,o⟩
 have HVR:Hid (∀ i,i < M→∀ l',(FormT l'∧∀ x,cf l' x=cf (gt L i).1.1 x)→∀ j,j < l'.length→∃ v:Nat,(gt l' j).1=(v:Int)∧v < n0):=fun i hi l' hf j hj=>by
  have hm:gt L i∈L:=by rw [gt_lt (by omega)];exact List.getElem_mem _
  have h1:gt l' j∈l':=by rw [gt_lt hj];exact List.getElem_mem _
  have h2:=(hf.1.mem (gt l' j).1).1 ⟨_,h1,rfl⟩
  rw [hf.2] at h2
  have h3:¬ ∀ t∈(gt L i).1.1,t.1≠(gt l' j).1:=fun h=>h2 (cf_none h)
  obtain ⟨t,ht,he⟩:∃ t∈(gt L i).1.1,t.1=(gt l' j).1:=Classical.byContradiction fun h=>h3 fun t ht he=>h ⟨t,ht,he⟩
  have:=hvars _ hm t ht
  exact ⟨(gt l' j).1.toNat,by omega,by omega⟩
 have HEND:Hid (∀ w' bt gs ks ab ar aa av ah kb kr ka kv kh,TabP w w' bt n0 N (hiA L) (hiB L) (cfN L) gs ks (.slice ab M kb) (.slice ar N kr) (.slice aa M ka) (.slice av N kv) (.slice ah M kh) M N M M→Bx w' bt [.int .i64 n0,.slice al M kl,.slice ab M kb,.slice ar N kr,.slice aa M ka,.slice av N kv,.slice ah M kh]→
  TabO w w' bt n0 L (fun i=>(std0 n0 L).D.A (n0+i)) (std0 n0 L).a (std0 n0 L).b (fun i=>n0+i) (row0 n0) gs ks al ab ar aa av ah kl kb kr ka kv kh):=fun w' bt gs ks ab ar aa av ah kb kr ka kv kh h hx=>build_end hN hM hvars h (hM ▸ hl) hx
 have HCF:Hid (∀ i,tab N (cfN L i)=tab N fun u=>cf (gt L i).1.1 (u:Int)):=fun i=>rfl
 rw [hN] at hn
 rw [hM] at hl ⊢
 have HL:=Lib.hid hl
 have hNb:N≤100000:=hn
 have hMb:M≤N:=by omega
 have h0N:n0≤N:=by omega
 have hWN:IntKind.i64.wrap ((n0:Int)+(M:Int))=(N:Int):=by rw [IntKind.wrap_i64];omega
 clear hs hvars hl hN hn hM
 go_enter Tryz.func34,Tryz.ntmps34
 go_upto_region 3 with (at_make;refine make_full etDb rfl _ _ rfl _ _ N rfl rfl (by omega) (by unfold maxLen;omega) ?_;intro w1 o1 b1)
 have O1:Hid (OwnRow 6 (OwnDp 115) 122 w.heap.size w1 (.slice (some ⟨w.heap.size,0,none⟩) N N) (tab N fun _=>(0,0))):=by
  have:=made_row (T:=OwnDp 115) (q:=((0:Rat),(0:Rat))) rfl (by decide) (ownd_nil _ _) o1
  rw [show List.replicate N ((0:Rat),(0:Rat))=tab N fun _=>(0,0) from List.ext_getElem (by rw [List.length_replicate,tab_len]) fun i h1 h2=>by rw [List.getElem_replicate,tab_get]] at this
  exact this
 clear o1
 obtain ⟨gv,hgv⟩:∃ g,g=w.heap.size:=⟨_,rfl⟩
 obtain ⟨w2,hw2,b2,c2,-,-⟩:=bx1 w1 [.int .i64 n0,.slice al M kl,.slice none 0 0,.slice none 0 0,.slice none 0 0,.slice (some ⟨gv,0,none⟩) N N,.slice none 0 0] 120
 have HW:=Lib.hid hw2
 have CB:=Lib.hid c2
 have TP:Hid (TabP w w2 w1.heap.size n0 N (hiA L) (hiB L) (cfN L) (fun _=>0) (fun _=>0) (.slice none 0 0) (.slice none 0 0) (.slice none 0 0) (.slice (some ⟨gv,0,none⟩) N N) (.slice none 0 0) 0 0 0 0):=by
  have hr:Rt w2 w1.heap.size 7 120:=by
   rw [hw2]
   exact Rt.new w1 [.int .i64 n0,.slice al M kl,.slice none 0 0,.slice none 0 0,.slice none 0 0,.slice (some ⟨gv,0,none⟩) N N,.slice none 0 0] _
  refine ⟨Ext.trans b1 b2,hr,Below.size b1,OwnRow.nil _ _ _,OwnRow.nil _ _ _,OwnRow.nil _ _ _,fun i hi=>absurd hi (Nat.not_lt_zero _),?_,OwnRow.nil _ _ _,fun i j hi=>absurd hi (Nat.not_lt_zero _),Apt.of_none rfl,(Apt.of_none rfl).symm,fun i hi=>absurd hi (Nat.not_lt_zero _)⟩
  rw [hgv]
  exact O1.out.ext OwnD.ext b2
 rw [← hgv]
 rw [← HW.out]
 clear HW hw2 c2 O1 hgv
 obtain ⟨bt,hbt⟩:∃ bt,bt=w1.heap.size:=⟨_,rfl⟩
 rw [← hbt] at TP CB ⊢
 clear hbt b1 b2
 go_wp2_with fail
 go_loopw [25] (fun t wr=>∃ (j:Nat) (ar:Option Addr) (kr:Nat),t=.int .i64 j∧j≤n0∧Hid (Bx wr bt [.int .i64 n0,.slice al M kl,.slice none 0 0,.slice ar j kr,.slice none 0 0,.slice (some ⟨gv,0,none⟩) N N,.slice none 0 0])∧
  Hid (TabP w wr bt n0 N (hiA L) (hiB L) (cfN L) (fun _=>0) (fun _=>0) (.slice none 0 0) (.slice ar j kr) (.slice none 0 0) (.slice (some ⟨gv,0,none⟩) N N) (.slice none 0 0) 0 j 0 0)) (fun t _=>n0 - (intOf t).toNat)
 case atStart=>exact ⟨0,none,0,rfl,Nat.zero_le _,CB.out,TP.out⟩
 case round=>
  clear CB TP w1 w2
  obtain ⟨j,ar,kr,rfl,hj,hC,hT⟩:=hrel
  by_cases hjl:j < n0
  ·have hd:decide ((j:Int) < (n0:Int))=true:=decide_eq_true (by omega)
   have HJ1:IntKind.i64.wrap ((j:Int)+1)=((j+1:Nat):Int):=by rw [IntKind.wrap_i64];omega
   obtain ⟨c0,c1,c2,c3,c4,c5,c6⟩:=hC.out.c7
   clear c0 c1 c2 c4 c5 c6
   have HR1:Hid (row0 n0 j = -1):=if_pos hjl
   go_wp2_with (at_builtin;refine append_rowW (y:=(-1:Int)) etIb (kdI _) (by rfl) _ _ (by rfl) w.heap.size (by rfl) _ (by rfl) hT.out.or rfl (show IntT _ _ _ from rfl) (Below.size hT.out.x0) (by rw [tab_len];omega) (by rw [tab_len];unfold maxLen;omega) ?_;intro v9 w9 o9 b9 g9 h9;(have T9:=Lib.hid ((hT.out.ext (Ext.alloc wr _)).pushR (by rw [HR1.out];exact o9) g9 h9));(have C9:=Lib.hid ((hC.out.ext (Ext.alloc wr _)).grow g9 (hT.out.or.ne_rt hT.out.rt (by decide))));(obtain ⟨a9,k9,rfl⟩:=own_shape T9.out.or);clear o9 b9 g9 h9 c3;(obtain ⟨⟨_,j3⟩,i3⟩:=T9.out.rt.may 3 (by decide)))
   go_roundw
   case rel=>exact ⟨j+1,a9,k9,by go_num,by omega,C9.out.setI T9.out.rt (by decide:3 < 7) _,T9.out.put 3 [_]⟩
   case measure=>simp [intOf] <;> omega
  ·obtain rfl:n0=j:=by omega
   have hd:decide ((n0:Int) < (n0:Int))=false:=decide_eq_false (by omega)
   clear hj hjl
   go_wp2_with fail
   go_loopw [39] (fun t wr=>∃ (i:Nat) (gs ks:Nat→Nat) (ab:Option Addr) (kb:Nat) (ar:Option Addr) (kr:Nat) (aa:Option Addr) (ka:Nat) (ah:Option Addr) (kh:Nat),t=.int .i64 i∧i≤M∧Hid (Bx wr bt [.int .i64 n0,.slice al M kl,.slice ab i kb,.slice ar (n0+i) kr,.slice aa i ka,.slice (some ⟨gv,0,none⟩) N N,.slice ah i kh])∧
    Hid (TabP w wr bt n0 N (hiA L) (hiB L) (cfN L) gs ks (.slice ab i kb) (.slice ar (n0+i) kr) (.slice aa i ka) (.slice (some ⟨gv,0,none⟩) N N) (.slice ah i kh) i (n0+i) i i)) (fun t _=>M - (intOf t).toNat)
   case atStart=>exact ⟨0,_,_,none,0,ar,kr,none,0,none,0,rfl,Nat.zero_le _,hC.out,hT.out⟩
   case round=>
    clear hC hT hd
    obtain ⟨i,gs,ks,ab,kb,ar,kr,aa,ka,ah,kh,rfl,hi,hC,hT⟩:=hrel
    obtain ⟨wo,hwo⟩:∃ w0:World,w0=wr:=⟨_,rfl⟩
    subst hwo
    by_cases hil:i < M
    ·have hd:decide ((i:Int) < (M:Int))=true:=decide_eq_true (by omega)
     have HI1:IntKind.i64.wrap ((i:Int)+1)=((i+1:Nat):Int):=by rw [IntKind.wrap_i64];omega
     have HI2:(0:Int)≤(i:Int)∧(i:Int) < (M:Int):=⟨by omega,by omega⟩
     obtain ⟨bA,oA,xa,xk,xs,xb,xm,xd,xb',xm',xd',hae,hbo,hax⟩:=HL.out.atm i (by rw [HM.out];exact hil)
     subst hae
     have hgl:L[i]'(by rw [HM.out];exact hil)=gt L i:=(gt_lt (by rw [HM.out];exact hil)).symm
     rw [hgl] at hbo hax
     obtain ⟨u0,u1,u2,u3,u4⟩:=(hbo.ext hT.out.x0).c5
     obtain ⟨w4,hw4,b4,c4,-,-⟩:=bx1 wo [.slice xa (gt L i).1.1.length xk,.bool xs,.slice xb xm xd,.slice xb' xm' xd',.int .i64 (gt L i).2] 55
     have HW:=Lib.hid hw4
     have C4:=Lib.hid c4
     have HX:Hid (OwnX 0 w4 (.agg #[.slice xa (gt L i).1.1.length xk,.bool xs,.slice xb xm xd,.slice xb' xm' xd']) (gt L i).1.1 (gt L i).1.2):=hax.ext (Ext.trans hT.out.x0 b4)
     have HCN:Hid (∀ w',Ext w4 w'→Calls Tryz.prog 48 #[.agg #[.slice xa (gt L i).1.1.length xk,.bool xs,.slice xb xm xd,.slice xb' xm' xd']] w' (Gives w' fun v' w''=>CanR (gt L i).1.1 (gt L i).1.2 w'.heap.size w'' v')):=fun w' X=>HCAN.out i w' _ hil (Ext.trans hT.out.x0 (Ext.trans b4 X)) (OwnEx.rd (HX.out.ext X))
     have HVI:=Lib.hid (HVR.out i hil)
     have HAi:Hid (hiA L i = -(gt L i).1.2):=rfl
     have HBi:Hid (hiB L i=if (gt L i).2=2 then -1 else 0):=rfl
     have HCi:Hid (tab N (cfN L i)=tab N fun u=>cf (gt L i).1.1 (u:Int)):=rfl
     clear hgl hbo hax hw4 c4 HX
     generalize (gt L i).1.1.length=ln at*
     generalize (gt L i).1.1=la at*
     generalize (gt L i).1.2=ca at*
     generalize (gt L i).2=op at*
     go_upto_region 10 with (fail)
     rw [← HW.out]
     clear HW u0 u1 u2 u3 u4
     obtain ⟨k0,k1,k2,k3,-⟩:=C4.out.c5
     obtain ⟨e4,he4⟩:∃ e,e=wo.heap.size:=⟨_,rfl⟩
     have he4':wo.heap.size≤e4:=by omega
     rw [← he4] at C4 k0 k1 k2 k3 ⊢
     clear he4
     have hN0:0 < N:=by omega
     go_wp2_with (at_make;refine make_full etRb rfl _ _ rfl _ _ N rfl rfl (by omega) (by unfold maxLen;omega) ?_;intro w5 o5 b5;(obtain ⟨k0,k1,k2,k3,-⟩:=(C4.out.ext b5).c5))
     have O5:Hid (OwnRow 3 (OwnQp 115) 49 wo.heap.size w5 (.slice (some ⟨w4.heap.size,0,none⟩) N N) (tab N fun _=>(0:Rat))):=by
      have:=made_row (T:=OwnQp 115) (q:=0) rfl (by decide) (ownq_nil _ _) o5
      rw [rep_tab] at this
      exact this.mono (Below.size b4)
     obtain ⟨g9,hg9⟩:∃ g,g=w4.heap.size:=⟨_,rfl⟩
     rw [← hg9] at O5 ⊢
     have hg5:g9 < w5.heap.size:=by
      obtain ⟨g,h1,-,-,h2⟩:=O5.out.base (by rw [tab_len];omega) (by decide)
      simp only [Option.some.injEq,Addr.mk.injEq,and_true] at h1
      exact h1 ▸ h2.lt
     have he49:e4≠g9:=by
      have:=World.block_lt_of_cell? _ _ C4.out.c5.1
      dsimp only at this
      omega
     have hg9r:wo.heap.size≤g9:=by have:=Below.size b4;omega
     clear o5 hg9 k0 k1 k2 k3
     refine (HCN.out _ b5).mono ?_
     rintro e w6 ⟨_,rfl,b6,l',hf,hll,hox⟩
     obtain ⟨s6,y6,y7,y8,rfl,ho6,hq6⟩:=hox
     obtain ⟨a6,n6,rfl,-,hn6⟩:=ho6.rd.shape
     obtain ⟨t6,b6a,m6,d6,b7a,m7,d7,hq7,HQ6⟩:=hq6.op
     obtain ⟨rfl,rfl,rfl⟩:=agg3_inj hq7
     clear hq6 hq7 HCN
     obtain ⟨w7,hw7,b7,c7,-,z7⟩:=bx1 w6 [.slice a6 l'.length n6,.bool t6,.slice b6a m6 d6,.slice b7a m7 d7] 53
     have HW:=Lib.hid hw7
     have x47:=Ext.trans b5 (Ext.trans b6 b7)
     have C7:=Lib.hid c7
     have C4':=Lib.hid (C4.out.ext x47)
     have R7:=Lib.hid ((ho6.mono (Nat.zero_le _)).ext OwnTm.ext b7)
     have Q7:=Lib.hid ((HQ6.out.mono (Nat.zero_le 0)).ext b7)
     have O7:=Lib.hid (O5.out.ext OwnQ.ext (Ext.trans b6 b7))
     have X7:=Lib.hid (Ext.trans b4 x47)
     have he79:w6.heap.size≠g9:=by have:=Below.size b6;omega
     have HFS:=Lib.hid hf
     have HV2:=Lib.hid (HVI.out l' hf)
     clear hw7 c7 ho6 HQ6 C4 O5 x47 hf HVI
     go_upto_region 12 with (fail)
     rw [← HW.out]
     clear HW
     obtain ⟨e7,he7⟩:∃ e,e=w6.heap.size:=⟨_,rfl⟩
     rw [← he7] at C7 he79 ⊢
     clear he7 b4 b5 b6 b7 z7 hg5
     obtain ⟨k0,-,-,-⟩:=C7.out.c4
     go_wp2_with fail
     clear k0
     unfold maxLen at hn6
     go_loopw [52] (fun t wx=>∃ j:Nat,t=.int .i64 j∧j≤l'.length∧Hid (Ext wo wx)∧Hid (OwnRow 3 (OwnQp 115) 49 wo.heap.size wx (.slice (some ⟨g9,0,none⟩) N N) (tab N fun u=>cf (l'.take j) (u:Int)))∧Hid (Bx wx e4 [.slice xa ln xk,.bool xs,.slice xb xm xd,.slice xb' xm' xd',.int .i64 op])∧Hid (Bx wx e7 [.slice a6 l'.length n6,.bool t6,.slice b6a m6 d6,.slice b7a m7 d7])∧
      Hid (OwnRow 4 (OwnTm 115) 68 0 wx (.slice a6 l'.length n6) l')∧Hid (OwnQ 115 0 wx (.agg #[.bool t6,.slice b6a m6 d6,.slice b7a m7 d7]) ca)) (fun t _=>l'.length - (intOf t).toNat)
     case atStart=>exact ⟨0,rfl,Nat.zero_le _,X7.out,O7.out,C4'.out,C7.out,R7.out,Q7.out⟩
     case round=>
      clear X7 O7 C4' C7 R7 Q7
      obtain ⟨j,rfl,hj,hX,hO,h4,h7,hR7,hQ7⟩:=hrel
      by_cases hjl:j < l'.length
      ·have hd3:decide ((j:Int) < (l'.length:Int))=true:=decide_eq_true (by omega)
       have HJ1:IntKind.i64.wrap ((j:Int)+1)=((j+1:Nat):Int):=by rw [IntKind.wrap_i64];omega
       have HJ2:(0:Int)≤(j:Int)∧(j:Int) < (l'.length:Int):=⟨by omega,by omega⟩
       obtain ⟨bT,oT,rfl⟩:=hR7.out.rd.some_at hjl
       obtain ⟨ts,ta,tk,tm,ta',tk',tm',hbx,hqt⟩:=hR7.out.rd.tm j hjl
       obtain ⟨v,hv,hvn⟩:=HV2.out j hjl
       have HST:=Lib.hid (cf_set (N:=N) HFS.out.1 hjl hv (by omega))
       rw [hv] at hbx
       obtain ⟨t0,t1,t2,t3⟩:=hbx
       have HV3:(0:Int)≤(v:Int)∧(v:Int) < (N:Int):=⟨by omega,by omega⟩
       obtain ⟨w8,hw8,b8,c8,-,-⟩:=bx1 wr [.int .i64 v,.bool ts,.slice ta tk tm,.slice ta' tk' tm'] 68
       have HW:=Lib.hid hw8
       have C8:=Lib.hid c8
       have X8:=Lib.hid (Ext.trans hX.out b8)
       have O8:=Lib.hid (hO.out.ext OwnQ.ext b8)
       have h48:=Lib.hid (h4.out.ext b8)
       have h78:=Lib.hid (h7.out.ext b8)
       have R8:=Lib.hid (hR7.out.ext OwnTm.ext b8)
       have Q8:=Lib.hid (hQ7.out.ext b8)
       have HQ8:=Lib.hid (hqt.ext b8)
       obtain ⟨g,h1,-,-,hrt⟩:=O8.out.base (by rw [tab_len];omega) (by decide)
       simp only [Option.some.injEq,Addr.mk.injEq,and_true] at h1
       subst h1
       have RT:=Lib.hid hrt
       clear hw8 c8 hX hO h4 h7 hR7 hQ7 hqt hv hrt
       go_upto_region 15 with (fail)
       rw [← HW.out]
       clear HW t0 t1 t2 t3 b8
       obtain ⟨k0,k1,k2,k3⟩:=C8.out.c4
       obtain ⟨_,_,_,j0,j1,j2,i0,i1,i2⟩:=RT.out.may3 (v*3) (by omega)
       go_wp2_with fail
       go_roundw
       case rel=>exact ⟨j+1,by go_num,by omega,putL_below hg9r [.bool ts,.slice ta tk tm,.slice ta' tk' tm'] (v*3) X8.out,by
        rw [← HST.out]
        exact O8.out.setL v (by rw [tab_len];omega) (cs:=[.bool ts,.slice ta tk tm,.slice ta' tk' tm']) rfl (fun v' b h=>OwnQ.putT h RT.out (by decide) (v*3) [.bool ts,.slice ta tk tm,.slice ta' tk' tm']) (HQ8.out.putT RT.out (by decide) (v*3) [.bool ts,.slice ta tk tm,.slice ta' tk' tm']),h48.out.putL he49 (v*3) [.bool ts,.slice ta tk tm,.slice ta' tk' tm'],h78.out.putL he79 (v*3) [.bool ts,.slice ta tk tm,.slice ta' tk' tm'],R8.out.putT RT.out (by decide) (v*3) [.bool ts,.slice ta tk tm,.slice ta' tk' tm'] (fun _ _ h=>OwnTm.putT h RT.out (by decide) (v*3) [.bool ts,.slice ta tk tm,.slice ta' tk' tm']),Q8.out.putT RT.out (by decide) (v*3) [.bool ts,.slice ta tk tm,.slice ta' tk' tm']⟩
       case measure=>simp [intOf] <;> omega
      ·obtain rfl:j=l'.length:=by omega
       have hd3:decide ((l'.length:Int) < (l'.length:Int))=false:=decide_eq_false (by omega)
       rw [List.take_length] at hO
       obtain ⟨w8,hw8⟩:∃ w0:World,w0=wr:=⟨_,rfl⟩
       subst hw8
       have HRW:Hid (OwnRow 3 (OwnQp 115) 49 w.heap.size w8 (.slice (some ⟨g9,0,none⟩) N N) (tab N (cfN L i))):=by
        show OwnRow _ _ _ _ _ _ _
        rw [HCi.out]
        exact (own_congr hO.out (tab_congr fun u _=>HFS.out.2 u)).mono (Below.size hT.out.x0)
       have hg9l:Hid (g9 < w8.heap.size):=by
        obtain ⟨g,h1,-,-,h2⟩:=hO.out.base (by rw [tab_len];omega) (by decide)
        simp only [Option.some.injEq,Addr.mk.injEq,and_true] at h1
        exact h1 ▸ h2.lt
       have HZ1:Hid (∀ w,Calls Tryz.prog 20 #[.int .i64 (-1)] w (Gives w fun v' w'=>OwnQ 115 0 w' v' (-1))):=fun w=>by
        have h:=rint_any (w:=w) (u := -1) (by omega)
        have e:((-1:Int):Rat) = -1:=by decide +kernel
        rw [e] at h
        exact h.mono fun _ _ ⟨v,e,b,o⟩=>⟨v,e,b,o.mono (Nat.zero_le _)⟩
       clear hO hR7 HFS HV2 HCi hj hjl
       obtain ⟨-,k1,k2,k3⟩:=h7.out.c4
       go_wp2_with fail
       refine (rneg_own hQ7.out).mono ?_
       rintro e w9 ⟨_,rfl,b9,o9⟩
       obtain ⟨s9,a9,l9,c9,a10,l10,c10,rfl,O9⟩:=o9.op
       clear o9 k1 k2 k3 h7 hQ7
       go_wp2_with fail
       refine (dof_own O9.out).mono ?_
       rintro e w10 ⟨_,rfl,b10,o10⟩
       obtain ⟨s11,a11,l11,c11,a12,l12,c12,t11,m11,n11,d11,m12,n12,d12,rfl,O10⟩:=o10.op
       clear o10 O9
       obtain ⟨w11,hw11,b11,c11',r11,-⟩:=bx1 w10 [.bool s11,.slice a11 l11 c11,.slice a12 l12 c12,.bool t11,.slice m11 n11 d11,.slice m12 n12 d12] 122
       have R11:Hid (Rt w11 w10.heap.size 6 122):=by
        show Rt _ _ _ _
        rw [hw11]
        exact Rt.new w10 [.bool s11,.slice a11 l11 c11,.slice a12 l12 c12,.bool t11,.slice m11 n11 d11,.slice m12 n12 d12] _
       have HW:=Lib.hid hw11
       have C11:=Lib.hid c11'
       have O11:=Lib.hid (O10.out.ext b11)
       have x811:=Lib.hid (Ext.trans b9 (Ext.trans b10 b11))
       obtain ⟨e11,he11⟩:∃ e,e=w10.heap.size:=⟨_,rfl⟩
       have hE:Hid (w8.heap.size≤e11):=by show _≤_;rw [he11];exact Nat.le_trans (Below.size b9) (Below.size b10)
       clear hw11 c11' r11 O10 b9 b10 b11
       go_upto_region 18 with (fail)
       rw [← HW.out]
       clear HW
       rw [← he11] at C11 R11 ⊢
       clear he11
       obtain ⟨-,-,-,-,k4⟩:=(h4.out.ext x811.out).c5
       have hT8:=Lib.hid (hT.out.ext hX.out)
       have HNG:Hid (∀ j,j < i→g9≠gs j):=fun j hj e=>by have:=hT.out.bs j hj;omega
       have NHE:Hid ((Value.slice ah i kh).ownBlock≠some e11):=fun e=>by
        have h1:=(hT.out.oh.lt _ e).2
        have h2:=Below.size hX.out
        have h3:=hE.out
        omega
       have hXo:=Lib.hid hX.out
       clear hT hX h4
       go_upto_if 69 with (fail)
       go_cut [13] (fun s13 wx=>s13=.pointer (some ⟨e11,0,none⟩)∧Hid (Ext w8 wx)∧Hid (Rt wx e11 6 122)∧∃ x0 x1 x2 x3 x4 x5,Hid (Bx wx e11 [x0,x1,x2,x3,x4,x5])∧Hid (OwnD 115 0 wx (.agg #[x0,x1,x2,x3,x4,x5]) (hiA L i) (hiB L i)))
       case first=>
        as_aux_lemma=>
         by_cases h2:op=2
         ·have hb:(op == 2)=true:=beqT h2
          rw [if_pos h2] at HBi
          clear h2
          go_wp2_with fail
          refine (HZ1.out _).mono ?_
          rintro e w12 ⟨_,rfl,b12,o12⟩
          obtain ⟨s12,a13,l13,c13,a14,l14,c14,rfl,O12⟩:=o12.op
          have R12:=Lib.hid (R11.out.ext b12)
          have C12:=Lib.hid (C11.out.ext b12)
          have D12:=Lib.hid (O11.out.ext b12)
          obtain ⟨_,_,_,_,_,_,j0,j1,j2,j3,j4,j5,g0,g1,g2,g3,g4,g5⟩:=R12.out.rm.c6
          clear o12 j0 j1 j2 g0 g1 g2
          go_wp2_with fail
          go_meet
          exact ⟨rfl,putL_below hE.out [_,_,_] 3 (Ext.trans x811.out b12),Rt.putS [_,_,_] 3 R12.out,_,_,_,_,_,_,((C12.out.setI R12.out (by decide:3 < 6) _).setI (Rt.putS [_] 3 R12.out) (by decide:4 < 6) _).setI (Rt.putS [_] 4 (Rt.putS [_] 3 R12.out)) (by decide:5 < 6) _,by
           rw [HAi.out,HBi.out]
           exact OwnD.mkQ (D12.out.fstQ.putT R12.out (by decide) 3 [_,_,_]) (O12.out.putT R12.out (by decide) 3 [_,_,_])⟩
         ·have hb:(op == 2)=false:=beqF h2
          rw [if_neg h2] at HBi
          clear h2
          go_wp2_with fail
          go_meet
          exact ⟨rfl,x811.out,R11.out,_,_,_,_,_,_,C11.out,by rw [HAi.out,HBi.out];exact O11.out⟩
       case rest=>
        as_aux_lemma=>
         obtain ⟨rfl,hX,hR,x0,x1,x2,x3,x4,x5,hB,hD⟩:=hcut
         obtain ⟨s1,a1,l1,c1,a2,l2,c2,t1,m1,n1,d1,m2,n2,d2,he,-⟩:=hD.out.op
         obtain ⟨rfl,rfl,rfl,rfl,rfl,rfl⟩:x0=.bool s1∧x1=.slice a1 l1 c1∧x2=.slice a2 l2 c2∧x3=.bool t1∧x4=.slice m1 n1 d1∧x5=.slice m2 n2 d2:=by simpa using he
         clear he R11 C11 O11 x811 HAi HBi HZ1 hE
         obtain ⟨w9,hw9⟩:∃ w0:World,w0=wc:=⟨_,rfl⟩
         subst hw9
         have TP:=Lib.hid (hT8.out.ext hX.out)
         have CB:=Lib.hid ((hC.out.ext hXo.out).ext hX.out)
         have RE:=Lib.hid hR.out
         have CE:=Lib.hid hB.out
         have OD:=Lib.hid hD.out
         have RR:=Lib.hid (HRW.out.ext OwnQ.ext hX.out)
         clear hT8 hC hX hR hB hD HRW hXo hg9l
         go_upto_region 20 with (fail)
         go_cut [39] (fun s39 wx=>s39=.int .i64 i∧∃ gs' ks' aa' ka' ah' kh',Hid (Bx wx bt [.int .i64 n0,.slice (some ⟨bA,oA,none⟩) M kl,.slice ab i kb,.slice ar (n0+i) kr,.slice aa' (i+1) ka',.slice (some ⟨gv,0,none⟩) N N,.slice ah' (i+1) kh'])∧
          Hid (TabP w wx bt n0 N (hiA L) (hiB L) (cfN L) gs' ks' (.slice ab i kb) (.slice ar (n0+i) kr) (.slice aa' (i+1) ka') (.slice (some ⟨gv,0,none⟩) N N) (.slice ah' (i+1) kh') i (n0+i) (i+1) (i+1)))
         case first=>
          as_aux_lemma=>
           have b10:=drew_ext w9
           have XE:=b10
           refine wp_region_noPanic ?_
           refine wp_region_cut_drew (st:=18) (S:=fun w'=>(w'.cell? ⟨bt,0,none⟩=some (.int .i64 n0)∧w'.cell? ⟨bt,1,none⟩=some (.slice (some ⟨bA,oA,none⟩) M kl)∧w'.cell? ⟨bt,2,none⟩=some (.slice ab i kb)∧w'.cell? ⟨bt,3,none⟩=some (.slice ar (n0+i) kr)∧w'.cell? ⟨bt,4,none⟩=some (.slice aa i ka)∧w'.cell? ⟨bt,5,none⟩=some (.slice (some ⟨gv,0,none⟩) N N)∧w'.cell? ⟨bt,6,none⟩=some (.slice ah i kh))∧(w'.cell? ⟨e11,0,none⟩=some (.bool s1)∧w'.cell? ⟨e11,1,none⟩=some (.slice a1 l1 c1)∧w'.cell? ⟨e11,2,none⟩=some (.slice a2 l2 c2)∧w'.cell? ⟨e11,3,none⟩=some (.bool t1)∧w'.cell? ⟨e11,4,none⟩=some (.slice m1 n1 d1)∧w'.cell? ⟨e11,5,none⟩=some (.slice m2 n2 d2))) (by kernel_rfl) (⟨(CB.out.ext XE).c7,(CE.out.ext XE).c6⟩) (fun hHeld=>?_)
           have TP:=Lib.hid (TP.out.ext b10)
           have CB:=Lib.hid (CB.out.ext b10)
           have RE:=Lib.hid (RE.out.ext b10)
           have CE:=Lib.hid (CE.out.ext b10)
           have OD:=Lib.hid (OD.out.ext b10)
           (try have RR:=Lib.hid (RR.out.ext OwnQ.ext b10))
           (try have L7:=Lib.hid (L7.out.ext HdT.ext b10))
           (try have L14:=Lib.hid (L14.out.ext OwnD.ext b10))
           refine tkT 0 [18] hHeld ?_
           simp only [jP,jA,jB,jC,jD,jE,jF]
           refine wpAnyT_takeA (i:=1) (v:=?_) rfl (by kernel_rfl) (by kernel_rfl) (by kernel_rfl) (by rfl) (fun _ _ _ h=>h) (Or.inl ⟨by rfl,fun w0 hSw=>?_⟩) hHeld ?_
           rotate_left
           ·(try dsimp only at hSw);go_simp;try with_reducible rfl
           simp only [jP,jA,jB,jC,jD,jE,jF]
           refine tkT 2 [18] hHeld ?_
           simp only [jP,jA,jB,jC,jD,jE,jF]
           refine tkT 3 [18] hHeld ?_
           simp only [jP,jA,jB,jC,jD,jE,jF]
           refine tkT 4 [18] hHeld ?_
           simp only [jP,jA,jB,jC,jD,jE,jF]
           refine tkT 5 [18] hHeld ?_
           simp only [jP,jA,jB,jC,jD,jE,jF]
           refine tkT 6 [18] hHeld ?_
           simp only [jP,jA,jB,jC,jD,jE,jF]
           refine tkT 9 [10,11,12,18] hHeld ?_
           simp only [jP,jA,jB,jC,jD,jE,jF]
           refine tkT 10 [11,12,18] hHeld ?_
           simp only [jP,jA,jB,jC,jD,jE,jF]
           refine tkT 11 [12,18] hHeld ?_
           simp only [jP,jA,jB,jC,jD,jE,jF]
           refine tkT 12 [18] hHeld ?_
           simp only [jP,jA,jB,jC,jD,jE,jF]
           refine tkT 13 [14,15,18] hHeld ?_
           simp only [jP,jA,jB,jC,jD,jE,jF]
           refine wpAnyT_ready (rs:=[7,14]) (by kernel_rfl) (by simp) ?_
           refine AllReadyT.cons (o:=_) rfl (by rfl) (fun K hK=>?_) (AllReadyT.cons (o:=_) rfl (by rfl) (fun K hK=>?_) AllReadyT.nil)
           ·skip
            refine if_wantedL rfl ?_
            refine build1K etHb (by rfl) (T:=HdT N) HdT.ext (by rfl) [.slice (some ⟨g9,0,none⟩) N N] (fill_s1 _ _ _) rfl (by decide) (y:=(g9,N)) rfl ?_
            intro g7 w7 x7 _ l7
            have TP:=Lib.hid (TP.out.ext x7)
            have CB:=Lib.hid (CB.out.ext x7)
            have RE:=Lib.hid (RE.out.ext x7)
            have CE:=Lib.hid (CE.out.ext x7)
            have OD:=Lib.hid (OD.out.ext x7)
            (try have RR:=Lib.hid (RR.out.ext OwnQ.ext x7))
            (try have L7:=Lib.hid (L7.out.ext HdT.ext x7))
            (try have L14:=Lib.hid (L14.out.ext OwnD.ext x7))
            have L7:=Lib.hid l7
            clear l7
            refine hK.out _ _ ⟨CB.out.c7,CE.out.c6⟩ (fun hHeld=>?_)
            clear hK K
            try simp only [jP,jA,jB,jC,jD,jE,jF]
            refine wpAnyT_ready (rs:=[8,14]) (by kernel_rfl) (by simp) ?_
            refine AllReadyT.cons (o:=_) rfl (by rfl) (fun K hK=>?_) (AllReadyT.cons (o:=_) rfl (by rfl) (fun K hK=>?_) AllReadyT.nil)
            ·skip
             refine if_wantedL rfl ?_
             refine append_rowG etHb kdH _ _ (by rfl) w.heap.size (by rfl) TP.out.oa (by rfl) L7.out.rd (by rw [tab_len];omega) (by rw [tab_len];unfold maxLen;omega) (Below.size TP.out.x0) ?_
             intro v8 w8' o8 b8 g8 _
             (try have L14:=Lib.hid (L14.out.grow (kdD (by decide)) TP.out.oa (by decide) g8))
             have CB:=Lib.hid (CB.out.grow g8 (TP.out.oa.ne_rt TP.out.rt (by decide)))
             have CE:=Lib.hid (CE.out.grow g8 (TP.out.oa.ne_rt RE.out (by decide)))
             have RE:=Lib.hid (RE.out.grow g8 (TP.out.oa.ne_rt RE.out (by decide)))
             obtain ⟨nn,xs,hE⟩:=TP.out.oa.own
             have OD:=Lib.hid ((kdD (e:=115) (e':=33) (by decide)).grown (a:=(hiA L i,hiB L i)) OD.out hE g8)
             have TP:=Lib.hid (TP.out.pushA o8 g8 RR.out hN0 HNG.out)
             obtain ⟨a8,k8,rfl⟩:=own_shape TP.out.oa
             clear o8 b8 g8 RR hE
             refine hK.out _ _ ⟨CB.out.c7,CE.out.c6⟩ (fun hHeld=>?_)
             clear hK K
             try simp only [jP,jA,jB,jC,jD,jE,jF]
             refine wpAnyT_ready (rs:=[14]) (by kernel_rfl) (by simp) ?_
             refine AllReadyT.cons (o:=_) rfl (by rfl) (fun K hK=>?_) AllReadyT.nil
             refine if_wantedL rfl ?_
             refine build1K etDb (by rfl) (T:=OwnDp 115) OwnD.ext (by rfl) [.bool s1,.slice a1 l1 c1,.slice a2 l2 c2,.bool t1,.slice m1 n1 d1,.slice m2 n2 d2] (fill_d1 ..) rfl (by decide) (y:=(hiA L i,hiB L i)) OD.out ?_
             intro g14 w14 x14 _ l14
             have TP:=Lib.hid (TP.out.ext x14)
             have CB:=Lib.hid (CB.out.ext x14)
             have RE:=Lib.hid (RE.out.ext x14)
             have CE:=Lib.hid (CE.out.ext x14)
             have OD:=Lib.hid (OD.out.ext x14)
             (try have RR:=Lib.hid (RR.out.ext OwnQ.ext x14))
             (try have L7:=Lib.hid (L7.out.ext HdT.ext x14))
             (try have L14:=Lib.hid (L14.out.ext OwnD.ext x14))
             have L14:=Lib.hid l14
             clear l14
             refine hK.out _ _ ⟨CB.out.c7,CE.out.c6⟩ (fun hHeld=>?_)
             clear hK K
             try simp only [jP,jA,jB,jC,jD,jE,jF]
             refine wpAnyT_ready (rs:=[15]) (by kernel_rfl) (by simp) ?_
             refine AllReadyT.cons (o:=_) rfl (by rfl) (fun K hK=>?_) AllReadyT.nil
             refine if_wantedL rfl ?_
             refine append_rowG etDb (kdD (e:=115) (by decide)) _ _ (by rfl) w.heap.size (by rfl) TP.out.oh (by rfl) L14.out.rd (by rw [tab_len];omega) (by rw [tab_len];unfold maxLen;omega) (Below.size TP.out.x0) ?_
             intro v15 w15 o15 b15 g15 h15
             have CB:=Lib.hid (CB.out.grow g15 (TP.out.oh.ne_rt TP.out.rt (by decide)))
             have CE:=Lib.hid (CE.out.grow g15 NHE.out)
             have TP:=Lib.hid (TP.out.pushH o15 g15 h15)
             obtain ⟨a15,k15,rfl⟩:=own_shape TP.out.oh
             clear o15 b15 g15 h15
             refine hK.out _ _ ⟨CB.out.c7,CE.out.c6⟩ (fun hHeld=>?_)
             clear hK K
             try simp only [jP,jA,jB,jC,jD,jE,jF]
             refine tkT 16 [17,18] hHeld ?_
             simp only [jP,jA,jB,jC,jD,jE,jF]
             refine tkT 17 [18] hHeld ?_
             simp only [jP,jA,jB,jC,jD,jE,jF]
             refine wpAnyT_ready (rs:=[18]) (by kernel_rfl) (by simp) ?_
             refine AllReadyT.cut (o:=_) rfl (fun K hK=>?_)
             obtain ⟨⟨_,j4⟩,i4⟩:=TP.out.rt.may 4 (by decide)
             obtain ⟨⟨_,j6⟩,i6⟩:=TP.out.rt.may 6 (by decide)
             go_simp
             refine hK.out _ _ ?_
             clear hK K hHeld
             try simp only [jP,jA,jB,jC,jD,jE,jF]
             refine wpAny_take (i:=19) (v:=?_) rfl (by kernel_rfl) (by kernel_rfl) (by kernel_rfl) (fun _ _ _ h=>h) (Or.inl ⟨by rfl,fun w0=>?_⟩) ?_
             rotate_left
             ·go_simp
              try with_reducible rfl
             simp only [jP,jA,jB,jC,jD,jE,jF]
             refine wpAny_take (i:=20) (v:=?_) rfl (by kernel_rfl) (by kernel_rfl) (by kernel_rfl) (fun _ _ _ h=>h) (Or.inl ⟨by rfl,fun w0=>?_⟩) ?_
             rotate_left
             ·go_simp
              try with_reducible rfl
             simp only [jP,jA,jB,jC,jD,jE,jF]
             refine wpAny_of_last (st:=21) (S:=fun _=>True) _ _ _ _ ?_
             refine wpAnyL_ready (rs:=[21]) (by kernel_rfl) (by simp) ?_
             refine AllReadyL.last (o:=_) rfl (fun K hK=>?_)
             go_simp
             refine hK.out _ _ ?_
             clear hK K
             try simp only [jP,jA,jB,jC,jD,jE,jF]
             refine wpAnyL_done (by kernel_rfl) ?_ _
             refine NoPanic.normal ?_
             go_wp2_with fail
             go_meet
             exact ⟨rfl,_,_,_,_,_,_,((CB.out.setI TP.out.rt (by decide:4 < 7) _).setI (TP.out.put 4 [_]).rt (by decide:6 < 7) _),((TP.out.put 4 [_]).put 6 [_])⟩
            ·skip
             refine if_wantedL rfl ?_
             refine build1K etDb (by rfl) (T:=OwnDp 115) OwnD.ext (by rfl) [.bool s1,.slice a1 l1 c1,.slice a2 l2 c2,.bool t1,.slice m1 n1 d1,.slice m2 n2 d2] (fill_d1 ..) rfl (by decide) (y:=(hiA L i,hiB L i)) OD.out ?_
             intro g14 w14 x14 _ l14
             have TP:=Lib.hid (TP.out.ext x14)
             have CB:=Lib.hid (CB.out.ext x14)
             have RE:=Lib.hid (RE.out.ext x14)
             have CE:=Lib.hid (CE.out.ext x14)
             have OD:=Lib.hid (OD.out.ext x14)
             (try have RR:=Lib.hid (RR.out.ext OwnQ.ext x14))
             (try have L7:=Lib.hid (L7.out.ext HdT.ext x14))
             (try have L14:=Lib.hid (L14.out.ext OwnD.ext x14))
             have L14:=Lib.hid l14
             clear l14
             refine hK.out _ _ ⟨CB.out.c7,CE.out.c6⟩ (fun hHeld=>?_)
             clear hK K
             try simp only [jP,jA,jB,jC,jD,jE,jF]
             refine wpAnyT_ready (rs:=[8]) (by kernel_rfl) (by simp) ?_
             refine AllReadyT.cons (o:=_) rfl (by rfl) (fun K hK=>?_) AllReadyT.nil
             refine if_wantedL rfl ?_
             refine append_rowG etHb kdH _ _ (by rfl) w.heap.size (by rfl) TP.out.oa (by rfl) L7.out.rd (by rw [tab_len];omega) (by rw [tab_len];unfold maxLen;omega) (Below.size TP.out.x0) ?_
             intro v8 w8' o8 b8 g8 _
             (try have L14:=Lib.hid (L14.out.grow (kdD (by decide)) TP.out.oa (by decide) g8))
             have CB:=Lib.hid (CB.out.grow g8 (TP.out.oa.ne_rt TP.out.rt (by decide)))
             have CE:=Lib.hid (CE.out.grow g8 (TP.out.oa.ne_rt RE.out (by decide)))
             have RE:=Lib.hid (RE.out.grow g8 (TP.out.oa.ne_rt RE.out (by decide)))
             obtain ⟨nn,xs,hE⟩:=TP.out.oa.own
             have OD:=Lib.hid ((kdD (e:=115) (e':=33) (by decide)).grown (a:=(hiA L i,hiB L i)) OD.out hE g8)
             have TP:=Lib.hid (TP.out.pushA o8 g8 RR.out hN0 HNG.out)
             obtain ⟨a8,k8,rfl⟩:=own_shape TP.out.oa
             clear o8 b8 g8 RR hE
             refine hK.out _ _ ⟨CB.out.c7,CE.out.c6⟩ (fun hHeld=>?_)
             clear hK K
             try simp only [jP,jA,jB,jC,jD,jE,jF]
             refine wpAnyT_ready (rs:=[15]) (by kernel_rfl) (by simp) ?_
             refine AllReadyT.cons (o:=_) rfl (by rfl) (fun K hK=>?_) AllReadyT.nil
             refine if_wantedL rfl ?_
             refine append_rowG etDb (kdD (e:=115) (by decide)) _ _ (by rfl) w.heap.size (by rfl) TP.out.oh (by rfl) L14.out.rd (by rw [tab_len];omega) (by rw [tab_len];unfold maxLen;omega) (Below.size TP.out.x0) ?_
             intro v15 w15 o15 b15 g15 h15
             have CB:=Lib.hid (CB.out.grow g15 (TP.out.oh.ne_rt TP.out.rt (by decide)))
             have CE:=Lib.hid (CE.out.grow g15 NHE.out)
             have TP:=Lib.hid (TP.out.pushH o15 g15 h15)
             obtain ⟨a15,k15,rfl⟩:=own_shape TP.out.oh
             clear o15 b15 g15 h15
             refine hK.out _ _ ⟨CB.out.c7,CE.out.c6⟩ (fun hHeld=>?_)
             clear hK K
             try simp only [jP,jA,jB,jC,jD,jE,jF]
             refine tkT 16 [17,18] hHeld ?_
             simp only [jP,jA,jB,jC,jD,jE,jF]
             refine tkT 17 [18] hHeld ?_
             simp only [jP,jA,jB,jC,jD,jE,jF]
             refine wpAnyT_ready (rs:=[18]) (by kernel_rfl) (by simp) ?_
             refine AllReadyT.cut (o:=_) rfl (fun K hK=>?_)
             obtain ⟨⟨_,j4⟩,i4⟩:=TP.out.rt.may 4 (by decide)
             obtain ⟨⟨_,j6⟩,i6⟩:=TP.out.rt.may 6 (by decide)
             go_simp
             refine hK.out _ _ ?_
             clear hK K hHeld
             try simp only [jP,jA,jB,jC,jD,jE,jF]
             refine wpAny_take (i:=19) (v:=?_) rfl (by kernel_rfl) (by kernel_rfl) (by kernel_rfl) (fun _ _ _ h=>h) (Or.inl ⟨by rfl,fun w0=>?_⟩) ?_
             rotate_left
             ·go_simp
              try with_reducible rfl
             simp only [jP,jA,jB,jC,jD,jE,jF]
             refine wpAny_take (i:=20) (v:=?_) rfl (by kernel_rfl) (by kernel_rfl) (by kernel_rfl) (fun _ _ _ h=>h) (Or.inl ⟨by rfl,fun w0=>?_⟩) ?_
             rotate_left
             ·go_simp
              try with_reducible rfl
             simp only [jP,jA,jB,jC,jD,jE,jF]
             refine wpAny_of_last (st:=21) (S:=fun _=>True) _ _ _ _ ?_
             refine wpAnyL_ready (rs:=[21]) (by kernel_rfl) (by simp) ?_
             refine AllReadyL.last (o:=_) rfl (fun K hK=>?_)
             go_simp
             refine hK.out _ _ ?_
             clear hK K
             try simp only [jP,jA,jB,jC,jD,jE,jF]
             refine wpAnyL_done (by kernel_rfl) ?_ _
             refine NoPanic.normal ?_
             go_wp2_with fail
             go_meet
             exact ⟨rfl,_,_,_,_,_,_,((CB.out.setI TP.out.rt (by decide:4 < 7) _).setI (TP.out.put 4 [_]).rt (by decide:6 < 7) _),((TP.out.put 4 [_]).put 6 [_])⟩
           ·skip
            refine if_wantedL rfl ?_
            refine build1K etDb (by rfl) (T:=OwnDp 115) OwnD.ext (by rfl) [.bool s1,.slice a1 l1 c1,.slice a2 l2 c2,.bool t1,.slice m1 n1 d1,.slice m2 n2 d2] (fill_d1 ..) rfl (by decide) (y:=(hiA L i,hiB L i)) OD.out ?_
            intro g14 w14 x14 _ l14
            have TP:=Lib.hid (TP.out.ext x14)
            have CB:=Lib.hid (CB.out.ext x14)
            have RE:=Lib.hid (RE.out.ext x14)
            have CE:=Lib.hid (CE.out.ext x14)
            have OD:=Lib.hid (OD.out.ext x14)
            (try have RR:=Lib.hid (RR.out.ext OwnQ.ext x14))
            (try have L7:=Lib.hid (L7.out.ext HdT.ext x14))
            (try have L14:=Lib.hid (L14.out.ext OwnD.ext x14))
            have L14:=Lib.hid l14
            clear l14
            refine hK.out _ _ ⟨CB.out.c7,CE.out.c6⟩ (fun hHeld=>?_)
            clear hK K
            try simp only [jP,jA,jB,jC,jD,jE,jF]
            refine wpAnyT_ready (rs:=[7]) (by kernel_rfl) (by simp) ?_
            refine AllReadyT.cons (o:=_) rfl (by rfl) (fun K hK=>?_) AllReadyT.nil
            refine if_wantedL rfl ?_
            refine build1K etHb (by rfl) (T:=HdT N) HdT.ext (by rfl) [.slice (some ⟨g9,0,none⟩) N N] (fill_s1 _ _ _) rfl (by decide) (y:=(g9,N)) rfl ?_
            intro g7 w7 x7 _ l7
            have TP:=Lib.hid (TP.out.ext x7)
            have CB:=Lib.hid (CB.out.ext x7)
            have RE:=Lib.hid (RE.out.ext x7)
            have CE:=Lib.hid (CE.out.ext x7)
            have OD:=Lib.hid (OD.out.ext x7)
            (try have RR:=Lib.hid (RR.out.ext OwnQ.ext x7))
            (try have L7:=Lib.hid (L7.out.ext HdT.ext x7))
            (try have L14:=Lib.hid (L14.out.ext OwnD.ext x7))
            have L7:=Lib.hid l7
            clear l7
            refine hK.out _ _ ⟨CB.out.c7,CE.out.c6⟩ (fun hHeld=>?_)
            clear hK K
            try simp only [jP,jA,jB,jC,jD,jE,jF]
            refine wpAnyT_ready (rs:=[8]) (by kernel_rfl) (by simp) ?_
            refine AllReadyT.cons (o:=_) rfl (by rfl) (fun K hK=>?_) AllReadyT.nil
            refine if_wantedL rfl ?_
            refine append_rowG etHb kdH _ _ (by rfl) w.heap.size (by rfl) TP.out.oa (by rfl) L7.out.rd (by rw [tab_len];omega) (by rw [tab_len];unfold maxLen;omega) (Below.size TP.out.x0) ?_
            intro v8 w8' o8 b8 g8 _
            (try have L14:=Lib.hid (L14.out.grow (kdD (by decide)) TP.out.oa (by decide) g8))
            have CB:=Lib.hid (CB.out.grow g8 (TP.out.oa.ne_rt TP.out.rt (by decide)))
            have CE:=Lib.hid (CE.out.grow g8 (TP.out.oa.ne_rt RE.out (by decide)))
            have RE:=Lib.hid (RE.out.grow g8 (TP.out.oa.ne_rt RE.out (by decide)))
            obtain ⟨nn,xs,hE⟩:=TP.out.oa.own
            have OD:=Lib.hid ((kdD (e:=115) (e':=33) (by decide)).grown (a:=(hiA L i,hiB L i)) OD.out hE g8)
            have TP:=Lib.hid (TP.out.pushA o8 g8 RR.out hN0 HNG.out)
            obtain ⟨a8,k8,rfl⟩:=own_shape TP.out.oa
            clear o8 b8 g8 RR hE
            refine hK.out _ _ ⟨CB.out.c7,CE.out.c6⟩ (fun hHeld=>?_)
            clear hK K
            try simp only [jP,jA,jB,jC,jD,jE,jF]
            refine wpAnyT_ready (rs:=[15]) (by kernel_rfl) (by simp) ?_
            refine AllReadyT.cons (o:=_) rfl (by rfl) (fun K hK=>?_) AllReadyT.nil
            refine if_wantedL rfl ?_
            refine append_rowG etDb (kdD (e:=115) (by decide)) _ _ (by rfl) w.heap.size (by rfl) TP.out.oh (by rfl) L14.out.rd (by rw [tab_len];omega) (by rw [tab_len];unfold maxLen;omega) (Below.size TP.out.x0) ?_
            intro v15 w15 o15 b15 g15 h15
            have CB:=Lib.hid (CB.out.grow g15 (TP.out.oh.ne_rt TP.out.rt (by decide)))
            have CE:=Lib.hid (CE.out.grow g15 NHE.out)
            have TP:=Lib.hid (TP.out.pushH o15 g15 h15)
            obtain ⟨a15,k15,rfl⟩:=own_shape TP.out.oh
            clear o15 b15 g15 h15
            refine hK.out _ _ ⟨CB.out.c7,CE.out.c6⟩ (fun hHeld=>?_)
            clear hK K
            try simp only [jP,jA,jB,jC,jD,jE,jF]
            refine tkT 16 [17,18] hHeld ?_
            simp only [jP,jA,jB,jC,jD,jE,jF]
            refine tkT 17 [18] hHeld ?_
            simp only [jP,jA,jB,jC,jD,jE,jF]
            refine wpAnyT_ready (rs:=[18]) (by kernel_rfl) (by simp) ?_
            refine AllReadyT.cut (o:=_) rfl (fun K hK=>?_)
            obtain ⟨⟨_,j4⟩,i4⟩:=TP.out.rt.may 4 (by decide)
            obtain ⟨⟨_,j6⟩,i6⟩:=TP.out.rt.may 6 (by decide)
            go_simp
            refine hK.out _ _ ?_
            clear hK K hHeld
            try simp only [jP,jA,jB,jC,jD,jE,jF]
            refine wpAny_take (i:=19) (v:=?_) rfl (by kernel_rfl) (by kernel_rfl) (by kernel_rfl) (fun _ _ _ h=>h) (Or.inl ⟨by rfl,fun w0=>?_⟩) ?_
            rotate_left
            ·go_simp
             try with_reducible rfl
            simp only [jP,jA,jB,jC,jD,jE,jF]
            refine wpAny_take (i:=20) (v:=?_) rfl (by kernel_rfl) (by kernel_rfl) (by kernel_rfl) (fun _ _ _ h=>h) (Or.inl ⟨by rfl,fun w0=>?_⟩) ?_
            rotate_left
            ·go_simp
             try with_reducible rfl
            simp only [jP,jA,jB,jC,jD,jE,jF]
            refine wpAny_of_last (st:=21) (S:=fun _=>True) _ _ _ _ ?_
            refine wpAnyL_ready (rs:=[21]) (by kernel_rfl) (by simp) ?_
            refine AllReadyL.last (o:=_) rfl (fun K hK=>?_)
            go_simp
            refine hK.out _ _ ?_
            clear hK K
            try simp only [jP,jA,jB,jC,jD,jE,jF]
            refine wpAnyL_done (by kernel_rfl) ?_ _
            refine NoPanic.normal ?_
            go_wp2_with fail
            go_meet
            exact ⟨rfl,_,_,_,_,_,_,((CB.out.setI TP.out.rt (by decide:4 < 7) _).setI (TP.out.put 4 [_]).rt (by decide:6 < 7) _),((TP.out.put 4 [_]).put 6 [_])⟩
         case rest=>
          as_aux_lemma=>
           obtain ⟨rfl,gs',ks',aa',ka',ah',kh',hB,hT⟩:=hcut
           clear TP CB RE CE OD RR HNG NHE he49 he79 hg9r he4' hN0
           clear gs ks aa ka ah kh
           obtain ⟨w10,hw10⟩:∃ w0:World,w0=wc:=⟨_,rfl⟩
           subst hw10
           have TP:=Lib.hid hT.out
           have CB:=Lib.hid hB.out
           obtain ⟨q,hq⟩:∃ q:Nat,q=n0+i:=⟨_,rfl⟩
           have HQ:=Lib.hid hq
           have hWI:IntKind.i64.wrap ((n0:Int)+(i:Int))=(q:Int):=by rw [IntKind.wrap_i64];omega
           have HRI:Hid (row0 n0 (n0+i)=(i:Int)):=by show _=_;unfold row0;rw [if_neg (by omega),Nat.add_sub_cancel_left]
           clear hT hB hq
           go_upto_region 21 with (fail)
           have b11:=drew_ext w10
           have XE:=b11
           refine wp_region_noPanic ?_
           refine wp_region_cut_drew (st:=20) (S:=fun w'=>w'.cell? ⟨bt,0,none⟩=some (.int .i64 n0)∧w'.cell? ⟨bt,1,none⟩=some (.slice (some ⟨bA,oA,none⟩) M kl)∧w'.cell? ⟨bt,2,none⟩=some (.slice ab i kb)∧w'.cell? ⟨bt,3,none⟩=some (.slice ar (n0+i) kr)∧w'.cell? ⟨bt,4,none⟩=some (.slice aa' (i+1) ka')∧w'.cell? ⟨bt,5,none⟩=some (.slice (some ⟨gv,0,none⟩) N N)∧w'.cell? ⟨bt,6,none⟩=some (.slice ah' (i+1) kh')) (by kernel_rfl) ((CB.out.ext XE).c7) (fun hHeld=>?_)
           have TP:=Lib.hid (TP.out.ext b11)
           have CB:=Lib.hid (CB.out.ext b11)
           (try have L9:=Lib.hid (L9.out.ext IntT.ext b11))
           (try have L16:=Lib.hid (L16.out.ext IntT.ext b11))
           refine tkT 0 [20] hHeld ?_
           simp only [jP,jA,jB,jC,jD,jE,jF]
           refine wpAnyT_takeA (i:=1) (v:=?_) rfl (by kernel_rfl) (by kernel_rfl) (by kernel_rfl) (by rfl) (fun _ _ _ h=>h) (Or.inl ⟨by rfl,fun w0 hSw=>?_⟩) hHeld ?_
           rotate_left
           ·(try dsimp only at hSw);go_simp;try with_reducible rfl
           simp only [jP,jA,jB,jC,jD,jE,jF]
           refine tkT 2 [20] hHeld ?_
           simp only [jP,jA,jB,jC,jD,jE,jF]
           refine tkT 3 [20] hHeld ?_
           simp only [jP,jA,jB,jC,jD,jE,jF]
           refine tkT 4 [20] hHeld ?_
           simp only [jP,jA,jB,jC,jD,jE,jF]
           refine tkT 5 [20] hHeld ?_
           simp only [jP,jA,jB,jC,jD,jE,jF]
           refine tkT 6 [20] hHeld ?_
           simp only [jP,jA,jB,jC,jD,jE,jF]
           refine tkT 7 [20] hHeld ?_
           simp only [jP,jA,jB,jC,jD,jE,jF]
           refine tkT 8 [20] hHeld ?_
           simp only [jP,jA,jB,jC,jD,jE,jF]
           refine tkT 11 [12,13,14,20] hHeld ?_
           simp only [jP,jA,jB,jC,jD,jE,jF]
           refine tkT 12 [13,14,20] hHeld ?_
           simp only [jP,jA,jB,jC,jD,jE,jF]
           refine tkT 13 [14,20] hHeld ?_
           simp only [jP,jA,jB,jC,jD,jE,jF]
           refine tkT 14 [20] hHeld ?_
           simp only [jP,jA,jB,jC,jD,jE,jF]
           refine tkT 15 [16,17,20] hHeld ?_
           simp only [jP,jA,jB,jC,jD,jE,jF]
           refine wpAnyT_ready (rs:=[9,16]) (by kernel_rfl) (by simp) ?_
           refine AllReadyT.cons (o:=_) rfl (by rfl) (fun K hK=>?_) (AllReadyT.cons (o:=_) rfl (by rfl) (fun K hK=>?_) AllReadyT.nil)
           ·skip
            refine if_wantedL rfl ?_
            refine build1K etIb (by rfl) (T:=IntT) IntT.ext (by rfl) [.int .i64 (q:Int)] (fill_i1 _) rfl (by decide) (y:=(q:Int)) rfl ?_
            intro g7 w7 x7 _ l7
            have TP:=Lib.hid (TP.out.ext x7)
            have CB:=Lib.hid (CB.out.ext x7)
            (try have L9:=Lib.hid (L9.out.ext IntT.ext x7))
            (try have L16:=Lib.hid (L16.out.ext IntT.ext x7))
            have L9:=Lib.hid l7
            clear l7
            refine hK.out _ _ CB.out.c7 (fun hHeld=>?_)
            clear hK K
            try simp only [jP,jA,jB,jC,jD,jE,jF]
            refine wpAnyT_ready (rs:=[10,16]) (by kernel_rfl) (by simp) ?_
            refine AllReadyT.cons (o:=_) rfl (by rfl) (fun K hK=>?_) (AllReadyT.cons (o:=_) rfl (by rfl) (fun K hK=>?_) AllReadyT.nil)
            ·skip
             refine if_wantedL rfl ?_
             refine append_rowG etIb (kdI _) _ _ (by rfl) w.heap.size (by rfl) TP.out.ob (by rfl) L9.out.rd (by rw [tab_len];omega) (by rw [tab_len];unfold maxLen;omega) (Below.size TP.out.x0) ?_
             intro v12 w12 o12 b12 g12 h12
             (try have L16:=Lib.hid (L16.out.apart A16.out g12 (fun _ _ h=>h)))
             have CB:=Lib.hid (CB.out.grow g12 (TP.out.ob.ne_rt TP.out.rt (by decide)))
             have TP:=Lib.hid (TP.out.pushB (by rw [← HQ.out];exact o12) g12 h12)
             obtain ⟨a12,k12,rfl⟩:=own_shape TP.out.ob
             clear o12 b12 g12 h12
             refine hK.out _ _ CB.out.c7 (fun hHeld=>?_)
             clear hK K
             try simp only [jP,jA,jB,jC,jD,jE,jF]
             refine wpAnyT_ready (rs:=[16]) (by kernel_rfl) (by simp) ?_
             refine AllReadyT.cons (o:=_) rfl (by rfl) (fun K hK=>?_) AllReadyT.nil
             refine if_wantedL rfl ?_
             refine build1K etIb (by rfl) (T:=IntT) IntT.ext (by rfl) [.int .i64 (i:Int)] (fill_i1 _) rfl (by decide) (y:=(i:Int)) rfl ?_
             intro g14 w14 x14 hg14 l14
             have A16:=Lib.hid (apt_new (n:=1) (c:=1) TP.out.ob hg14)
             have TP:=Lib.hid (TP.out.ext x14)
             have CB:=Lib.hid (CB.out.ext x14)
             (try have L9:=Lib.hid (L9.out.ext IntT.ext x14))
             (try have L16:=Lib.hid (L16.out.ext IntT.ext x14))
             have L16:=Lib.hid l14
             clear l14
             refine hK.out _ _ CB.out.c7 (fun hHeld=>?_)
             clear hK K
             try simp only [jP,jA,jB,jC,jD,jE,jF]
             refine wpAnyT_ready (rs:=[17]) (by kernel_rfl) (by simp) ?_
             refine AllReadyT.cons (o:=_) rfl (by rfl) (fun K hK=>?_) AllReadyT.nil
             refine if_wantedL rfl ?_
             refine append_rowG etIb (kdI _) _ _ (by rfl) w.heap.size (by rfl) TP.out.or (by rfl) L16.out.rd (by rw [tab_len];omega) (by rw [tab_len];unfold maxLen;omega) (Below.size TP.out.x0) ?_
             intro v15 w15 o15 b15 g15 h15
             have CB:=Lib.hid (CB.out.grow g15 (TP.out.or.ne_rt TP.out.rt (by decide)))
             have TP:=Lib.hid (TP.out.pushR (by rw [HRI.out];exact o15) g15 h15)
             obtain ⟨a15,k15,rfl⟩:=own_shape TP.out.or
             clear o15 b15 g15 h15
             refine hK.out _ _ CB.out.c7 (fun hHeld=>?_)
             clear hK K
             try simp only [jP,jA,jB,jC,jD,jE,jF]
             refine tkT 18 [19,20] hHeld ?_
             simp only [jP,jA,jB,jC,jD,jE,jF]
             refine tkT 19 [20] hHeld ?_
             simp only [jP,jA,jB,jC,jD,jE,jF]
             refine wpAnyT_ready (rs:=[20]) (by kernel_rfl) (by simp) ?_
             refine AllReadyT.cut (o:=_) rfl (fun K hK=>?_)
             obtain ⟨⟨_,j4⟩,i4⟩:=TP.out.rt.may 2 (by decide)
             obtain ⟨⟨_,j6⟩,i6⟩:=TP.out.rt.may 3 (by decide)
             go_simp
             refine hK.out _ _ ?_
             clear hK K hHeld
             try simp only [jP,jA,jB,jC,jD,jE,jF]
             refine wpAny_take (i:=21) (v:=?_) rfl (by kernel_rfl) (by kernel_rfl) (by kernel_rfl) (fun _ _ _ h=>h) (Or.inl ⟨by rfl,fun w0=>?_⟩) ?_
             rotate_left
             ·go_simp
              try with_reducible rfl
             simp only [jP,jA,jB,jC,jD,jE,jF]
             refine wpAny_take (i:=22) (v:=?_) rfl (by kernel_rfl) (by kernel_rfl) (by kernel_rfl) (fun _ _ _ h=>h) (Or.inl ⟨by rfl,fun w0=>?_⟩) ?_
             rotate_left
             ·go_simp
              try with_reducible rfl
             simp only [jP,jA,jB,jC,jD,jE,jF]
             refine wpAny_of_last (st:=23) (S:=fun _=>True) _ _ _ _ ?_
             refine wpAnyL_ready (rs:=[23]) (by kernel_rfl) (by simp) ?_
             refine AllReadyL.last (o:=_) rfl (fun K hK=>?_)
             go_simp
             refine hK.out _ _ ?_
             clear hK K
             try simp only [jP,jA,jB,jC,jD,jE,jF]
             refine wpAnyL_done (by kernel_rfl) ?_ _
             refine NoPanic.normal ?_
             go_wp2_with fail
             go_roundw
             case rel=>exact ⟨i+1,_,_,_,_,_,_,_,_,_,_,by go_num,by omega,((CB.out.setI TP.out.rt (by decide:2 < 7) _).setI (TP.out.put 2 [_]).rt (by decide:3 < 7) _),((TP.out.put 2 [_]).put 3 [_])⟩
             case measure=>simp [intOf] <;> omega
            ·skip
             refine if_wantedL rfl ?_
             refine build1K etIb (by rfl) (T:=IntT) IntT.ext (by rfl) [.int .i64 (i:Int)] (fill_i1 _) rfl (by decide) (y:=(i:Int)) rfl ?_
             intro g14 w14 x14 hg14 l14
             have A16:=Lib.hid (apt_new (n:=1) (c:=1) TP.out.ob hg14)
             have TP:=Lib.hid (TP.out.ext x14)
             have CB:=Lib.hid (CB.out.ext x14)
             (try have L9:=Lib.hid (L9.out.ext IntT.ext x14))
             (try have L16:=Lib.hid (L16.out.ext IntT.ext x14))
             have L16:=Lib.hid l14
             clear l14
             refine hK.out _ _ CB.out.c7 (fun hHeld=>?_)
             clear hK K
             try simp only [jP,jA,jB,jC,jD,jE,jF]
             refine wpAnyT_ready (rs:=[10]) (by kernel_rfl) (by simp) ?_
             refine AllReadyT.cons (o:=_) rfl (by rfl) (fun K hK=>?_) AllReadyT.nil
             refine if_wantedL rfl ?_
             refine append_rowG etIb (kdI _) _ _ (by rfl) w.heap.size (by rfl) TP.out.ob (by rfl) L9.out.rd (by rw [tab_len];omega) (by rw [tab_len];unfold maxLen;omega) (Below.size TP.out.x0) ?_
             intro v12 w12 o12 b12 g12 h12
             (try have L16:=Lib.hid (L16.out.apart A16.out g12 (fun _ _ h=>h)))
             have CB:=Lib.hid (CB.out.grow g12 (TP.out.ob.ne_rt TP.out.rt (by decide)))
             have TP:=Lib.hid (TP.out.pushB (by rw [← HQ.out];exact o12) g12 h12)
             obtain ⟨a12,k12,rfl⟩:=own_shape TP.out.ob
             clear o12 b12 g12 h12
             refine hK.out _ _ CB.out.c7 (fun hHeld=>?_)
             clear hK K
             try simp only [jP,jA,jB,jC,jD,jE,jF]
             refine wpAnyT_ready (rs:=[17]) (by kernel_rfl) (by simp) ?_
             refine AllReadyT.cons (o:=_) rfl (by rfl) (fun K hK=>?_) AllReadyT.nil
             refine if_wantedL rfl ?_
             refine append_rowG etIb (kdI _) _ _ (by rfl) w.heap.size (by rfl) TP.out.or (by rfl) L16.out.rd (by rw [tab_len];omega) (by rw [tab_len];unfold maxLen;omega) (Below.size TP.out.x0) ?_
             intro v15 w15 o15 b15 g15 h15
             have CB:=Lib.hid (CB.out.grow g15 (TP.out.or.ne_rt TP.out.rt (by decide)))
             have TP:=Lib.hid (TP.out.pushR (by rw [HRI.out];exact o15) g15 h15)
             obtain ⟨a15,k15,rfl⟩:=own_shape TP.out.or
             clear o15 b15 g15 h15
             refine hK.out _ _ CB.out.c7 (fun hHeld=>?_)
             clear hK K
             try simp only [jP,jA,jB,jC,jD,jE,jF]
             refine tkT 18 [19,20] hHeld ?_
             simp only [jP,jA,jB,jC,jD,jE,jF]
             refine tkT 19 [20] hHeld ?_
             simp only [jP,jA,jB,jC,jD,jE,jF]
             refine wpAnyT_ready (rs:=[20]) (by kernel_rfl) (by simp) ?_
             refine AllReadyT.cut (o:=_) rfl (fun K hK=>?_)
             obtain ⟨⟨_,j4⟩,i4⟩:=TP.out.rt.may 2 (by decide)
             obtain ⟨⟨_,j6⟩,i6⟩:=TP.out.rt.may 3 (by decide)
             go_simp
             refine hK.out _ _ ?_
             clear hK K hHeld
             try simp only [jP,jA,jB,jC,jD,jE,jF]
             refine wpAny_take (i:=21) (v:=?_) rfl (by kernel_rfl) (by kernel_rfl) (by kernel_rfl) (fun _ _ _ h=>h) (Or.inl ⟨by rfl,fun w0=>?_⟩) ?_
             rotate_left
             ·go_simp
              try with_reducible rfl
             simp only [jP,jA,jB,jC,jD,jE,jF]
             refine wpAny_take (i:=22) (v:=?_) rfl (by kernel_rfl) (by kernel_rfl) (by kernel_rfl) (fun _ _ _ h=>h) (Or.inl ⟨by rfl,fun w0=>?_⟩) ?_
             rotate_left
             ·go_simp
              try with_reducible rfl
             simp only [jP,jA,jB,jC,jD,jE,jF]
             refine wpAny_of_last (st:=23) (S:=fun _=>True) _ _ _ _ ?_
             refine wpAnyL_ready (rs:=[23]) (by kernel_rfl) (by simp) ?_
             refine AllReadyL.last (o:=_) rfl (fun K hK=>?_)
             go_simp
             refine hK.out _ _ ?_
             clear hK K
             try simp only [jP,jA,jB,jC,jD,jE,jF]
             refine wpAnyL_done (by kernel_rfl) ?_ _
             refine NoPanic.normal ?_
             go_wp2_with fail
             go_roundw
             case rel=>exact ⟨i+1,_,_,_,_,_,_,_,_,_,_,by go_num,by omega,((CB.out.setI TP.out.rt (by decide:2 < 7) _).setI (TP.out.put 2 [_]).rt (by decide:3 < 7) _),((TP.out.put 2 [_]).put 3 [_])⟩
             case measure=>simp [intOf] <;> omega
           ·skip
            refine if_wantedL rfl ?_
            refine build1K etIb (by rfl) (T:=IntT) IntT.ext (by rfl) [.int .i64 (i:Int)] (fill_i1 _) rfl (by decide) (y:=(i:Int)) rfl ?_
            intro g14 w14 x14 hg14 l14
            have A16:=Lib.hid (apt_new (n:=1) (c:=1) TP.out.ob hg14)
            have TP:=Lib.hid (TP.out.ext x14)
            have CB:=Lib.hid (CB.out.ext x14)
            (try have L9:=Lib.hid (L9.out.ext IntT.ext x14))
            (try have L16:=Lib.hid (L16.out.ext IntT.ext x14))
            have L16:=Lib.hid l14
            clear l14
            refine hK.out _ _ CB.out.c7 (fun hHeld=>?_)
            clear hK K
            try simp only [jP,jA,jB,jC,jD,jE,jF]
            refine wpAnyT_ready (rs:=[9]) (by kernel_rfl) (by simp) ?_
            refine AllReadyT.cons (o:=_) rfl (by rfl) (fun K hK=>?_) AllReadyT.nil
            refine if_wantedL rfl ?_
            refine build1K etIb (by rfl) (T:=IntT) IntT.ext (by rfl) [.int .i64 (q:Int)] (fill_i1 _) rfl (by decide) (y:=(q:Int)) rfl ?_
            intro g7 w7 x7 _ l7
            have TP:=Lib.hid (TP.out.ext x7)
            have CB:=Lib.hid (CB.out.ext x7)
            (try have L9:=Lib.hid (L9.out.ext IntT.ext x7))
            (try have L16:=Lib.hid (L16.out.ext IntT.ext x7))
            have L9:=Lib.hid l7
            clear l7
            refine hK.out _ _ CB.out.c7 (fun hHeld=>?_)
            clear hK K
            try simp only [jP,jA,jB,jC,jD,jE,jF]
            refine wpAnyT_ready (rs:=[10]) (by kernel_rfl) (by simp) ?_
            refine AllReadyT.cons (o:=_) rfl (by rfl) (fun K hK=>?_) AllReadyT.nil
            refine if_wantedL rfl ?_
            refine append_rowG etIb (kdI _) _ _ (by rfl) w.heap.size (by rfl) TP.out.ob (by rfl) L9.out.rd (by rw [tab_len];omega) (by rw [tab_len];unfold maxLen;omega) (Below.size TP.out.x0) ?_
            intro v12 w12 o12 b12 g12 h12
            (try have L16:=Lib.hid (L16.out.apart A16.out g12 (fun _ _ h=>h)))
            have CB:=Lib.hid (CB.out.grow g12 (TP.out.ob.ne_rt TP.out.rt (by decide)))
            have TP:=Lib.hid (TP.out.pushB (by rw [← HQ.out];exact o12) g12 h12)
            obtain ⟨a12,k12,rfl⟩:=own_shape TP.out.ob
            clear o12 b12 g12 h12
            refine hK.out _ _ CB.out.c7 (fun hHeld=>?_)
            clear hK K
            try simp only [jP,jA,jB,jC,jD,jE,jF]
            refine wpAnyT_ready (rs:=[17]) (by kernel_rfl) (by simp) ?_
            refine AllReadyT.cons (o:=_) rfl (by rfl) (fun K hK=>?_) AllReadyT.nil
            refine if_wantedL rfl ?_
            refine append_rowG etIb (kdI _) _ _ (by rfl) w.heap.size (by rfl) TP.out.or (by rfl) L16.out.rd (by rw [tab_len];omega) (by rw [tab_len];unfold maxLen;omega) (Below.size TP.out.x0) ?_
            intro v15 w15 o15 b15 g15 h15
            have CB:=Lib.hid (CB.out.grow g15 (TP.out.or.ne_rt TP.out.rt (by decide)))
            have TP:=Lib.hid (TP.out.pushR (by rw [HRI.out];exact o15) g15 h15)
            obtain ⟨a15,k15,rfl⟩:=own_shape TP.out.or
            clear o15 b15 g15 h15
            refine hK.out _ _ CB.out.c7 (fun hHeld=>?_)
            clear hK K
            try simp only [jP,jA,jB,jC,jD,jE,jF]
            refine tkT 18 [19,20] hHeld ?_
            simp only [jP,jA,jB,jC,jD,jE,jF]
            refine tkT 19 [20] hHeld ?_
            simp only [jP,jA,jB,jC,jD,jE,jF]
            refine wpAnyT_ready (rs:=[20]) (by kernel_rfl) (by simp) ?_
            refine AllReadyT.cut (o:=_) rfl (fun K hK=>?_)
            obtain ⟨⟨_,j4⟩,i4⟩:=TP.out.rt.may 2 (by decide)
            obtain ⟨⟨_,j6⟩,i6⟩:=TP.out.rt.may 3 (by decide)
            go_simp
            refine hK.out _ _ ?_
            clear hK K hHeld
            try simp only [jP,jA,jB,jC,jD,jE,jF]
            refine wpAny_take (i:=21) (v:=?_) rfl (by kernel_rfl) (by kernel_rfl) (by kernel_rfl) (fun _ _ _ h=>h) (Or.inl ⟨by rfl,fun w0=>?_⟩) ?_
            rotate_left
            ·go_simp
             try with_reducible rfl
            simp only [jP,jA,jB,jC,jD,jE,jF]
            refine wpAny_take (i:=22) (v:=?_) rfl (by kernel_rfl) (by kernel_rfl) (by kernel_rfl) (fun _ _ _ h=>h) (Or.inl ⟨by rfl,fun w0=>?_⟩) ?_
            rotate_left
            ·go_simp
             try with_reducible rfl
            simp only [jP,jA,jB,jC,jD,jE,jF]
            refine wpAny_of_last (st:=23) (S:=fun _=>True) _ _ _ _ ?_
            refine wpAnyL_ready (rs:=[23]) (by kernel_rfl) (by simp) ?_
            refine AllReadyL.last (o:=_) rfl (fun K hK=>?_)
            go_simp
            refine hK.out _ _ ?_
            clear hK K
            try simp only [jP,jA,jB,jC,jD,jE,jF]
            refine wpAnyL_done (by kernel_rfl) ?_ _
            refine NoPanic.normal ?_
            go_wp2_with fail
            go_roundw
            case rel=>exact ⟨i+1,_,_,_,_,_,_,_,_,_,_,by go_num,by omega,((CB.out.setI TP.out.rt (by decide:2 < 7) _).setI (TP.out.put 2 [_]).rt (by decide:3 < 7) _),((TP.out.put 2 [_]).put 3 [_])⟩
            case measure=>simp [intOf] <;> omega
    ·obtain rfl:M=i:=by omega
     have hd:decide ((M:Int) < (M:Int))=false:=decide_eq_false (by omega)
     rw [hNM] at hC hT
     clear hil hi
     go_wp2_with fail
     exact hR.out _ _ (Gives.mk hT.out.x0 ⟨bt,gs,ks,ab,ar,aa,gv,ah,kb,kr,ka,N,kh,rfl,HEND.out _ _ _ _ _ _ _ _ _ _ _ _ _ _ hT.out hC.out⟩)
end Go.Proofs.YthpaifdfafjlcaaGreat
