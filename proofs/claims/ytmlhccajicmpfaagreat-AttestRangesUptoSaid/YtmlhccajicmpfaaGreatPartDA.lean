/- A group of texts: PContains, PWidths, PWidths15 -/
import Derived.Test.YtmlhccajicmpfaaGreatSq
import Derived.Test.YtmlhccajicmpfaaGreatPartCD
import Derived.Test.YtmlhccajicmpfaaGreatPartBH
set_option maxHeartbeats 40000000
set_option maxRecDepth 100000
set_option linter.unusedSimpArgs false
namespace Go.Att
open Go.RowKit
theorem RdRow.cast1 {α:Type} {k:Nat} {T:World→Value→α→Prop} {w w':World} {v:Value} {l:List (List α)} (h:RdRow 1 (RowT k T) w v l) (x:Ext w w'):RdRow 1 (RowT k (fun _ _ (_:α)=>True)) w' v l:=
 (RdRow.mono h fun _ _ h=>h.mono fun _ _ _=>trivial).ext (fun h x=>RowT.ext h (fun _ _=>trivial) x) x
theorem OwnRow.litOne {α:Type} {k:Nat} {T:World→Value→α→Prop} (hT:∀ {w w' v a},T w v a→Ext w w'→T w' v a) (e:TypeId) {w:World} {cs:List Value} {y:α} {B:Nat} (hB:B≤w.heap.size) (hc:cs.length=k) (ha:T w (.agg cs.toArray) y):
  OwnRow k T e B (w.alloc (.cells cs.toArray e)) (.slice (some ⟨w.heap.size,0,none⟩) 1 1) [y]:=by
 refine ⟨[cs],?_,⟨hc,hT ha (Ext.alloc _ _)⟩,trivial⟩
 have:=World.ownsRow_lit (w:=w) (base:=B) (e:=e) (size:=k) cs.toArray 1 hB (by unfold maxLen;omega) (by simp;omega)
 simpa using this
end Go.Att
namespace Go.Proofs.YtmlhccajicmpfaaGreat
open Go.RowKit Go.Att

def gt32 (m:Nat):Bool:=decide ((32:Int) < (m:Int))
def neW (n:Int) (m:Nat):Bool:=(m:Int) != n
def outI (n z:Int):Bool:=decide (z < 0) || decide (n≤z)
theorem great1_any {w:World} {a:Option Addr} {m c:Nat}:
  Calls Tryz.prog 96 #[.slice a m c] w (Gives w fun v' _=>v'=.bool (gt32 m)):=by
 refine via fun R hR=>?_
 go_enter Tryz.func96,Tryz.ntmps96
 go_wp2_with fail
 exact hR.out _ _ (Gives.mk (Ext.refl _) rfl)
theorem great2_any {w:World} {a:Option Addr} {m c:Nat}:
  Calls Tryz.prog 98 #[.slice a m c] w (Gives w fun v' _=>v'=.bool (gt32 m)):=by
 refine via fun R hR=>?_
 go_enter Tryz.func98,Tryz.ntmps98
 go_wp2_with fail
 exact hR.out _ _ (Gives.mk (Ext.refl _) rfl)
theorem width1_any {w:World} {a:Option Addr} {m c b:Nat} {n:Int} (hn:w.cell? ⟨b,0,none⟩=some (.int .i64 n)):
  Calls Tryz.prog 99 #[.slice a m c,.pointer (some ⟨b,0,none⟩)] w (Gives w fun v' _=>v'=.bool (neW n m)):=by
 refine via fun R hR=>?_
 go_enter Tryz.func99,Tryz.ntmps99
 go_wp2_with fail
 exact hR.out _ _ (Gives.mk (Ext.refl _) rfl)
theorem width2_any {w:World} {b:Nat} {n z:Int} (hn:w.cell? ⟨b,0,none⟩=some (.int .i64 n)):
  Calls Tryz.prog 101 #[.int .i64 z,.pointer (some ⟨b,0,none⟩)] w (Gives w fun v' _=>v'=.bool (outI n z)):=by
 refine via fun R hR=>?_
 unfold outI at hR
 by_cases h1:z < 0
 ·have hd:decide (z < 0)=true:=decide_eq_true h1
  rw [hd] at hR
  clear h1
  go_enter Tryz.func101,Tryz.ntmps101
  go_wp2_with fail
  exact hR.out _ _ (Gives.mk (Ext.refl _) rfl)
 have hd:decide (z < 0)=false:=decide_eq_false h1
 rw [hd] at hR
 clear h1
 go_enter Tryz.func101,Tryz.ntmps101
 go_wp2_with fail
 exact hR.out _ _ (Gives.mk (Ext.refl _) rfl)

theorem idx_great1 {α:Type} {k:Nat} {T:World→Value→α→Prop} {w:World} {a:Option Addr} {c:Nat} {l:List (List α)} (hv:RdRow 1 (RowT k T) w (.slice a l.length c) l) (hl:l.length≤100000):
  Calls Tryz.prog 125 #[.slice a l.length c,.func (.func 96) #[] #[]] w (Gives w fun v' _=>∃ z:Int,v'=.int .i64 z∧(0≤z↔l.any (fun r=>gt32 r.length)=true)):=by
 refine via fun R hR=>?_
 have HV:=qH hv
 obtain ⟨_,_,he,hlk,hkm⟩:=hv.shape
 clear hv he
 go_enter Tryz.func125,Tryz.ntmps125
 go_wp2_with fail
 go_loopw [8] (fun t wr=>∃ j:Nat,t=.int .i64 j∧j≤l.length∧Ext w wr∧Hid ((l.take j).any (fun r=>gt32 r.length)=false)) (fun t _=>l.length - (intOf t).toNat)
 case atStart=>exact ⟨0,rfl,Nat.zero_le _,Ext.refl _,by rw [List.take_zero];rfl⟩
 case round=>
  obtain ⟨j,rfl,hj,hxr,hO⟩:=hrel
  by_cases hjl:j < l.length
  ·have hd:=dT ((j:Int) < (l.length:Int))
   have HJ1:IntKind.i64.wrap ((j:Int)+1)=((j+1:Nat):Int):=by rw [IntKind.wrap_i64];omega
   have hJ2:(0:Int)≤(j:Int)∧(j:Int) < (l.length:Int):=⟨by omega,by omega⟩
   obtain ⟨b1,o1,x,m,he,hcell,-⟩:=HV.out.row j hjl
   subst he
   replace hcell:=Ext.cell hxr hcell
   have HTK:Hid ((l.take (j+1)).any (fun r=>gt32 r.length)=gt32 l[j].length):=by
    show _=_
    rw [← List.take_append_getElem hjl,List.any_append,hO.out]
    simp
   have HMM:Hid (l[j]∈l):=List.getElem_mem hjl
   have HCL:Hid (Calls Tryz.prog 96 #[.slice x l[j].length m] wr (Gives wr fun v' _=>v'=.bool (gt32 l[j].length))):=great1_any
   have HPT:Hid (gt32 l[j].length=true→l.any (fun r=>gt32 r.length)=true):=fun h=>List.any_eq_true.2 ⟨_,HMM.out,h⟩
   generalize gt32 l[j].length=bb at*
   generalize l[j].length=q at*
   go_wp2_with fail
   refine HCL.out.mono ?_
   rintro e w4 ⟨_,rfl,b4,rfl⟩
   clear HCL hcell
   cases bb with
   | true=>
    go_wp2_with fail
    exact hR.out _ _ (Gives.mk (eT hxr b4) ⟨j,rfl,fun _=>(by first | exact HPT.out rfl | exact HPT.out trivial),fun _=>by omega⟩)
   | false=>
    go_wp2_with fail
    go_roundw
    case rel=>exact ⟨j+1,by go_num,by omega,eT hxr b4,HTK.out⟩
    simp [intOf]<;>omega
  obtain rfl:j=l.length:=by omega
  have hd:=dF ((l.length:Int) < (l.length:Int))
  rw [List.take_length] at hO
  go_wp2_with fail
  exact hR.out _ _ (Gives.mk hxr ⟨-1,rfl,fun h=>absurd h dC,fun h=>by rw [hO.out] at h;cases h⟩)
theorem cont_great1 {α:Type} {k:Nat} {T:World→Value→α→Prop} {w:World} {a:Option Addr} {c:Nat} {l:List (List α)} (hv:RdRow 1 (RowT k T) w (.slice a l.length c) l) (hl:l.length≤100000):
  Calls Tryz.prog 95 #[.slice a l.length c,.func (.func 96) #[] #[]] w (Gives w fun v' _=>v'=.bool (l.any (fun r=>gt32 r.length))):=by
 refine via fun R hR=>?_
 have HC:=qH (idx_great1 hv hl)
 clear hv
 go_enter Tryz.func95,Tryz.ntmps95
 go_wp2_with fail
 refine HC.out.mono ?_
 rintro e w1 ⟨_,rfl,b1,z,rfl,hz⟩
 cases ho:l.any (fun r=>gt32 r.length) with
 | true=>
  have hd:decide (0≤z)=true:=decide_eq_true (hz.2 ho)
  rw [ho] at hR
  clear hz ho
  go_wp2_with fail
  exact hR.out _ _ (Gives.mk b1 rfl)
 | false=>
  have hd:decide (0≤z)=false:=decide_eq_false fun h=>by rw [hz.1 h] at ho;cases ho
  rw [ho] at hR
  clear hz ho
  go_wp2_with fail
  exact hR.out _ _ (Gives.mk b1 rfl)

theorem idx_great2 {α:Type} {k:Nat} {T:World→Value→α→Prop} {w:World} {a:Option Addr} {c:Nat} {l:List (List α)} (hv:RdRow 1 (RowT k T) w (.slice a l.length c) l) (hl:l.length≤100000):
  Calls Tryz.prog 126 #[.slice a l.length c,.func (.func 98) #[] #[]] w (Gives w fun v' _=>∃ z:Int,v'=.int .i64 z∧(0≤z↔l.any (fun r=>gt32 r.length)=true)):=by
 refine via fun R hR=>?_
 have HV:=qH hv
 obtain ⟨_,_,he,hlk,hkm⟩:=hv.shape
 clear hv he
 go_enter Tryz.func126,Tryz.ntmps126
 go_wp2_with fail
 go_loopw [8] (fun t wr=>∃ j:Nat,t=.int .i64 j∧j≤l.length∧Ext w wr∧Hid ((l.take j).any (fun r=>gt32 r.length)=false)) (fun t _=>l.length - (intOf t).toNat)
 case atStart=>exact ⟨0,rfl,Nat.zero_le _,Ext.refl _,by rw [List.take_zero];rfl⟩
 case round=>
  obtain ⟨j,rfl,hj,hxr,hO⟩:=hrel
  by_cases hjl:j < l.length
  ·have hd:=dT ((j:Int) < (l.length:Int))
   have HJ1:IntKind.i64.wrap ((j:Int)+1)=((j+1:Nat):Int):=by rw [IntKind.wrap_i64];omega
   have hJ2:(0:Int)≤(j:Int)∧(j:Int) < (l.length:Int):=⟨by omega,by omega⟩
   obtain ⟨b1,o1,x,m,he,hcell,-⟩:=HV.out.row j hjl
   subst he
   replace hcell:=Ext.cell hxr hcell
   have HTK:Hid ((l.take (j+1)).any (fun r=>gt32 r.length)=gt32 l[j].length):=by
    show _=_
    rw [← List.take_append_getElem hjl,List.any_append,hO.out]
    simp
   have HMM:Hid (l[j]∈l):=List.getElem_mem hjl
   have HCL:Hid (Calls Tryz.prog 98 #[.slice x l[j].length m] wr (Gives wr fun v' _=>v'=.bool (gt32 l[j].length))):=great2_any
   have HPT:Hid (gt32 l[j].length=true→l.any (fun r=>gt32 r.length)=true):=fun h=>List.any_eq_true.2 ⟨_,HMM.out,h⟩
   generalize gt32 l[j].length=bb at*
   generalize l[j].length=q at*
   go_wp2_with fail
   refine HCL.out.mono ?_
   rintro e w4 ⟨_,rfl,b4,rfl⟩
   clear HCL hcell
   cases bb with
   | true=>
    go_wp2_with fail
    exact hR.out _ _ (Gives.mk (eT hxr b4) ⟨j,rfl,fun _=>(by first | exact HPT.out rfl | exact HPT.out trivial),fun _=>by omega⟩)
   | false=>
    go_wp2_with fail
    go_roundw
    case rel=>exact ⟨j+1,by go_num,by omega,eT hxr b4,HTK.out⟩
    simp [intOf]<;>omega
  obtain rfl:j=l.length:=by omega
  have hd:=dF ((l.length:Int) < (l.length:Int))
  rw [List.take_length] at hO
  go_wp2_with fail
  exact hR.out _ _ (Gives.mk hxr ⟨-1,rfl,fun h=>absurd h dC,fun h=>by rw [hO.out] at h;cases h⟩)
theorem cont_great2 {α:Type} {k:Nat} {T:World→Value→α→Prop} {w:World} {a:Option Addr} {c:Nat} {l:List (List α)} (hv:RdRow 1 (RowT k T) w (.slice a l.length c) l) (hl:l.length≤100000):
  Calls Tryz.prog 97 #[.slice a l.length c,.func (.func 98) #[] #[]] w (Gives w fun v' _=>v'=.bool (l.any (fun r=>gt32 r.length))):=by
 refine via fun R hR=>?_
 have HC:=qH (idx_great2 hv hl)
 clear hv
 go_enter Tryz.func97,Tryz.ntmps97
 go_wp2_with fail
 refine HC.out.mono ?_
 rintro e w1 ⟨_,rfl,b1,z,rfl,hz⟩
 cases ho:l.any (fun r=>gt32 r.length) with
 | true=>
  have hd:decide (0≤z)=true:=decide_eq_true (hz.2 ho)
  rw [ho] at hR
  clear hz ho
  go_wp2_with fail
  exact hR.out _ _ (Gives.mk b1 rfl)
 | false=>
  have hd:decide (0≤z)=false:=decide_eq_false fun h=>by rw [hz.1 h] at ho;cases ho
  rw [ho] at hR
  clear hz ho
  go_wp2_with fail
  exact hR.out _ _ (Gives.mk b1 rfl)

theorem idx_width1 {α:Type} {k:Nat} {T:World→Value→α→Prop} {w:World} {a:Option Addr} {c:Nat} {l:List (List α)} {b:Nat} {n:Int} (hv:RdRow 1 (RowT k T) w (.slice a l.length c) l) (hn:w.cell? ⟨b,0,none⟩=some (.int .i64 n)) (hl:l.length≤100000):
  Calls Tryz.prog 125 #[.slice a l.length c,.func (.func 99) #[] #[.pointer (some ⟨b,0,none⟩)]] w (Gives w fun v' _=>∃ z:Int,v'=.int .i64 z∧(0≤z↔l.any (fun r=>neW n r.length)=true)):=by
 refine via fun R hR=>?_
 have HV:=qH hv
 obtain ⟨_,_,he,hlk,hkm⟩:=hv.shape
 clear hv he
 go_enter Tryz.func125,Tryz.ntmps125
 go_wp2_with fail
 go_loopw [8] (fun t wr=>∃ j:Nat,t=.int .i64 j∧j≤l.length∧Ext w wr∧Hid ((l.take j).any (fun r=>neW n r.length)=false)) (fun t _=>l.length - (intOf t).toNat)
 case atStart=>exact ⟨0,rfl,Nat.zero_le _,Ext.refl _,by rw [List.take_zero];rfl⟩
 case round=>
  obtain ⟨j,rfl,hj,hxr,hO⟩:=hrel
  by_cases hjl:j < l.length
  ·have hd:=dT ((j:Int) < (l.length:Int))
   have HJ1:IntKind.i64.wrap ((j:Int)+1)=((j+1:Nat):Int):=by rw [IntKind.wrap_i64];omega
   have hJ2:(0:Int)≤(j:Int)∧(j:Int) < (l.length:Int):=⟨by omega,by omega⟩
   obtain ⟨b1,o1,x,m,he,hcell,-⟩:=HV.out.row j hjl
   subst he
   replace hcell:=Ext.cell hxr hcell
   have HTK:Hid ((l.take (j+1)).any (fun r=>neW n r.length)=neW n l[j].length):=by
    show _=_
    rw [← List.take_append_getElem hjl,List.any_append,hO.out]
    simp
   have HMM:Hid (l[j]∈l):=List.getElem_mem hjl
   have HCL:Hid (Calls Tryz.prog 99 #[.slice x l[j].length m,.pointer (some ⟨b,0,none⟩)] wr (Gives wr fun v' _=>v'=.bool (neW n l[j].length))):=width1_any (Ext.cell hxr hn)
   have HPT:Hid (neW n l[j].length=true→l.any (fun r=>neW n r.length)=true):=fun h=>List.any_eq_true.2 ⟨_,HMM.out,h⟩
   generalize neW n l[j].length=bb at*
   generalize l[j].length=q at*
   go_wp2_with fail
   refine HCL.out.mono ?_
   rintro e w4 ⟨_,rfl,b4,rfl⟩
   clear HCL hcell
   cases bb with
   | true=>
    go_wp2_with fail
    exact hR.out _ _ (Gives.mk (eT hxr b4) ⟨j,rfl,fun _=>(by first | exact HPT.out rfl | exact HPT.out trivial),fun _=>by omega⟩)
   | false=>
    go_wp2_with fail
    go_roundw
    case rel=>exact ⟨j+1,by go_num,by omega,eT hxr b4,HTK.out⟩
    simp [intOf]<;>omega
  obtain rfl:j=l.length:=by omega
  have hd:=dF ((l.length:Int) < (l.length:Int))
  rw [List.take_length] at hO
  go_wp2_with fail
  exact hR.out _ _ (Gives.mk hxr ⟨-1,rfl,fun h=>absurd h dC,fun h=>by rw [hO.out] at h;cases h⟩)
theorem cont_width1 {α:Type} {k:Nat} {T:World→Value→α→Prop} {w:World} {a:Option Addr} {c:Nat} {l:List (List α)} {b:Nat} {n:Int} (hv:RdRow 1 (RowT k T) w (.slice a l.length c) l) (hn:w.cell? ⟨b,0,none⟩=some (.int .i64 n)) (hl:l.length≤100000):
  Calls Tryz.prog 95 #[.slice a l.length c,.func (.func 99) #[] #[.pointer (some ⟨b,0,none⟩)]] w (Gives w fun v' _=>v'=.bool (l.any (fun r=>neW n r.length))):=by
 refine via fun R hR=>?_
 have HC:=qH (idx_width1 hv hn hl)
 clear hv hn
 go_enter Tryz.func95,Tryz.ntmps95
 go_wp2_with fail
 refine HC.out.mono ?_
 rintro e w1 ⟨_,rfl,b1,z,rfl,hz⟩
 cases ho:l.any (fun r=>neW n r.length) with
 | true=>
  have hd:decide (0≤z)=true:=decide_eq_true (hz.2 ho)
  rw [ho] at hR
  clear hz ho
  go_wp2_with fail
  exact hR.out _ _ (Gives.mk b1 rfl)
 | false=>
  have hd:decide (0≤z)=false:=decide_eq_false fun h=>by rw [hz.1 h] at ho;cases ho
  rw [ho] at hR
  clear hz ho
  go_wp2_with fail
  exact hR.out _ _ (Gives.mk b1 rfl)

theorem idx_width2 {w:World} {a:Option Addr} {c:Nat} {l:List Int} {b:Nat} {n:Int} (hv:RdRow 1 IntT w (.slice a l.length c) l) (hn:w.cell? ⟨b,0,none⟩=some (.int .i64 n)) (hl:l.length≤100000):
  Calls Tryz.prog 127 #[.slice a l.length c,.func (.func 101) #[] #[.pointer (some ⟨b,0,none⟩)]] w (Gives w fun v' _=>∃ z:Int,v'=.int .i64 z∧(0≤z↔l.any (fun r=>outI n r)=true)):=by
 refine via fun R hR=>?_
 have HV:=qH hv
 obtain ⟨_,_,he,hlk,hkm⟩:=hv.shape
 clear hv he
 go_enter Tryz.func127,Tryz.ntmps127
 go_wp2_with fail
 go_loopw [8] (fun t wr=>∃ j:Nat,t=.int .i64 j∧j≤l.length∧Ext w wr∧Hid ((l.take j).any (fun r=>outI n r)=false)) (fun t _=>l.length - (intOf t).toNat)
 case atStart=>exact ⟨0,rfl,Nat.zero_le _,Ext.refl _,by rw [List.take_zero];rfl⟩
 case round=>
  obtain ⟨j,rfl,hj,hxr,hO⟩:=hrel
  by_cases hjl:j < l.length
  ·have hd:=dT ((j:Int) < (l.length:Int))
   have HJ1:IntKind.i64.wrap ((j:Int)+1)=((j+1:Nat):Int):=by rw [IntKind.wrap_i64];omega
   have hJ2:(0:Int)≤(j:Int)∧(j:Int) < (l.length:Int):=⟨by omega,by omega⟩
   obtain ⟨b1,o1,rfl⟩:=HV.out.some_atI hjl
   have hcell:=HV.out.int j hjl
   replace hcell:=Ext.cell hxr hcell
   have HTK:Hid ((l.take (j+1)).any (fun r=>outI n r)=outI n l[j]):=by
    show _=_
    rw [← List.take_append_getElem hjl,List.any_append,hO.out]
    simp
   have HMM:Hid (l[j]∈l):=List.getElem_mem hjl
   have HCL:Hid (Calls Tryz.prog 101 #[.int .i64 l[j],.pointer (some ⟨b,0,none⟩)] wr (Gives wr fun v' _=>v'=.bool (outI n l[j]))):=width2_any (Ext.cell hxr hn)
   have HPT:Hid (outI n l[j]=true→l.any (fun r=>outI n r)=true):=fun h=>List.any_eq_true.2 ⟨_,HMM.out,h⟩
   generalize outI n l[j]=bb at*
   generalize l[j]=q at*
   go_wp2_with fail
   refine HCL.out.mono ?_
   rintro e w4 ⟨_,rfl,b4,rfl⟩
   clear HCL hcell
   cases bb with
   | true=>
    go_wp2_with fail
    exact hR.out _ _ (Gives.mk (eT hxr b4) ⟨j,rfl,fun _=>(by first | exact HPT.out rfl | exact HPT.out trivial),fun _=>by omega⟩)
   | false=>
    go_wp2_with fail
    go_roundw
    case rel=>exact ⟨j+1,by go_num,by omega,eT hxr b4,HTK.out⟩
    simp [intOf]<;>omega
  obtain rfl:j=l.length:=by omega
  have hd:=dF ((l.length:Int) < (l.length:Int))
  rw [List.take_length] at hO
  go_wp2_with fail
  exact hR.out _ _ (Gives.mk hxr ⟨-1,rfl,fun h=>absurd h dC,fun h=>by rw [hO.out] at h;cases h⟩)
theorem cont_width2 {w:World} {a:Option Addr} {c:Nat} {l:List Int} {b:Nat} {n:Int} (hv:RdRow 1 IntT w (.slice a l.length c) l) (hn:w.cell? ⟨b,0,none⟩=some (.int .i64 n)) (hl:l.length≤100000):
  Calls Tryz.prog 100 #[.slice a l.length c,.func (.func 101) #[] #[.pointer (some ⟨b,0,none⟩)]] w (Gives w fun v' _=>v'=.bool (l.any (fun r=>outI n r))):=by
 refine via fun R hR=>?_
 have HC:=qH (idx_width2 hv hn hl)
 clear hv hn
 go_enter Tryz.func100,Tryz.ntmps100
 go_wp2_with fail
 refine HC.out.mono ?_
 rintro e w1 ⟨_,rfl,b1,z,rfl,hz⟩
 cases ho:l.any (fun r=>outI n r) with
 | true=>
  have hd:decide (0≤z)=true:=decide_eq_true (hz.2 ho)
  rw [ho] at hR
  clear hz ho
  go_wp2_with fail
  exact hR.out _ _ (Gives.mk b1 rfl)
 | false=>
  have hd:decide (0≤z)=false:=decide_eq_false fun h=>by rw [hz.1 h] at ho;cases ho
  rw [ho] at hR
  clear hz ho
  go_wp2_with fail
  exact hR.out _ _ (Gives.mk b1 rfl)
open Go.RowKit Go.Att

theorem any_gt32 {α:Type} {l:List (List α)} {C:Nat} (h:∀ r∈l,r.length≤C) (hC:C≤32):l.any (fun r=>gt32 r.length)=false:=by
 rw [List.any_eq_false]
 intro r hr
 have:=h r hr
 unfold gt32
 simp only [decide_eq_true_eq]
 omega
theorem great_any {ν:Type} {T:World→Value→ν→Prop} {w:World} {v:Value} {n:Nt ν} (hv:RdNet T w v n) (hl:lit n):
  Calls Tryz.prog 60 #[v] w (Gives w fun v' _=>v'=.bool false):=by
 refine via fun R hR=>?_
 obtain ⟨z,ls⟩:=n
 obtain ⟨a,c,rfl,hlc,hcm,hr⟩:=hv.op
 have HV:=qH hr
 have HZ:Hid (ls.length≤3):=hl.2.1
 have HLT:Hid (∀ l∈ls,litL l):=hl.2.2
 have hz4:z≤4:=hl.1
 dsimp only at hlc hcm HV
 unfold maxLen at hcm
 clear hv hr hl
 obtain ⟨w1,hw1,b1,c1,-,-⟩:=bx1 w [.int .i64 z,.slice a ls.length c] 47
 have HW:=qH hw1
 have C1:=qH c1
 obtain ⟨j0,j1⟩:=c1.c2
 have hi3:=HZ.out
 have hd1:=dF ((32:Int) < z)
 have hd2:=dF ((16:Int) < (ls.length:Int))
 clear hw1 c1
 go_enter Tryz.func60,Tryz.ntmps60
 go_upto_region 1 with (fail)
 rw [← HW.out]
 clear HW
 go_upto_region 3 with (fail)
 clear hd1 hd2
 go_wp2_with fail
 clear j0 j1
 go_loopw [17] (fun t wr=>∃ i:Nat,t=.int .i64 i∧i≤ls.length∧Hid (Ext w1 wr)) (fun t _=>ls.length - (intOf t).toNat)
 case atStart=>exact ⟨0,rfl,Nat.zero_le _,Ext.refl _⟩
 case round=>
  obtain ⟨i,rfl,hi,hX⟩:=hrel
  obtain ⟨wo,hwo⟩:∃ w0:World,w0=wr:=⟨_,rfl⟩
  subst hwo
  by_cases hlt:i < ls.length
  ·have hd:=dT ((i:Int) < (ls.length:Int))
   have HJ1:IntKind.i64.wrap ((i:Int)+1)=((i+1:Nat):Int):=by rw [IntKind.wrap_i64];omega
   have HI2:(0:Int)≤(i:Int)∧(i:Int) < (ls.length:Int):=⟨by omega,by omega⟩
   obtain ⟨bL,oL,ax,mx',ay,my,az,mz,hae,hbo0,hRW,hRB,hRG⟩:=HV.out.lay i hlt
   subst hae
   have hbo:=hbo0.ext (eT b1 hX.out)
   have HLL:Hid (litL ls[i]):=HLT.out _ (List.getElem_mem hlt)
   obtain ⟨l,hl⟩:∃ l,ls[i]=l:=⟨_,rfl⟩
   rw [hl] at hbo hRW hRB hRG HLL
   clear hl hbo0
   obtain ⟨u0,u1,u2,u3⟩:=hbo.c4
   obtain ⟨w4,hw4,b4,c4,-,-⟩:=bx1 wo [.int .i64 l.K,.slice ax l.W.length mx',.slice ay l.B.length my,.slice az l.G.length mz] 129
   have HW:=qH hw4
   have C4:=qH c4
   have HRW:=qH hRW
   have HRG:=qH hRG
   have hb04:=eT b1 (eT hX.out b4)
   have HCW:Hid (∀ w',Ext w4 w'→Calls Tryz.prog 95 #[.slice ax l.W.length mx',.func (.func 96) #[] #[]] w' (Gives w' fun v' _=>v'=.bool false)):=fun w' x=>by
    have h:=cont_great1 (RdRow.cast1 HRW.out (eT hb04 x)) (by have:=HLL.out.1;omega)
    rw [any_gt32 HLL.out.2.1 dC] at h
    exact h
   have HCG:Hid (∀ w',Ext w4 w'→Calls Tryz.prog 97 #[.slice az l.G.length mz,.func (.func 98) #[] #[]] w' (Gives w' fun v' _=>v'=.bool false)):=fun w' x=>by
    have h:=cont_great2 (RdRow.cast1 HRG.out (eT hb04 x)) (by have:=HLL.out.1;omega)
    rw [any_gt32 HLL.out.2.2 dC] at h
    exact h
   clear hw4 c4 hRW hRB hRG hbo
   go_upto_region 6 with (fail)
   rw [← HW.out]
   clear HW u0 u1 u2 u3
   obtain ⟨u0,u1,u2,u3⟩:=C4.out.c4
   have hw32:decide ((32:Int) < (l.W.length:Int))=false:=decide_eq_false (by have:=HLL.out.1;omega)
   have hg32:decide ((32:Int) < (l.G.length:Int))=false:=decide_eq_false (by have:=HLL.out.1;omega)
   obtain ⟨K,hK⟩:∃ K,l.K=K:=⟨_,rfl⟩
   rw [hK] at u0
   clear hK
   by_cases h1:K=1
   ·have he1:(K == 1)=true:=by rw [h1];rfl
    clear h1 hg32
    go_wp2_with fail
    refine (HCW.out _ (Ext.refl _)).mono ?_
    rintro e w5 ⟨_,rfl,b5,rfl⟩
    go_wp2_with fail
    go_roundw
    case rel=>exact ⟨i+1,by go_num,by omega,eT hX.out (eT b4 b5)⟩
    simp [intOf]<;>omega
   have he1:(K == 1)=false:=beq_false_of_ne h1
   by_cases h3:K=3
   ·have he3:(K == 3)=true:=by rw [h3];rfl
    clear h1 h3 hw32
    go_wp2_with fail
    refine (HCG.out _ (Ext.refl _)).mono ?_
    rintro e w5 ⟨_,rfl,b5,rfl⟩
    go_wp2_with fail
    go_roundw
    case rel=>exact ⟨i+1,by go_num,by omega,eT hX.out (eT b4 b5)⟩
    simp [intOf]<;>omega
   have he3:(K == 3)=false:=beq_false_of_ne h3
   clear h1 h3
   go_wp2_with fail
   go_roundw
   case rel=>exact ⟨i+1,by go_num,by omega,eT hX.out b4⟩
   simp [intOf]<;>omega
  obtain rfl:i=ls.length:=by omega
  have hd:=dF ((ls.length:Int) < (ls.length:Int))
  go_wp2_with fail
  exact hR.out _ _ (Gives.mk (eT b1 hX.out) rfl)

theorem wdt_one {ν:Type} {l:Lay ν} {n:Int} (hK:l.K=1):wdt l n=if ((l.B.length:Int) != (l.W.length:Int))=false∧l.W.any (fun r=>neW n r.length)=false then (l.W.length:Int) else 0:=by
 unfold wdt
 rw [if_pos hK]
 by_cases h:l.B.length=l.W.length∧∀ r∈l.W,(r.length:Int)=n
 ·rw [if_pos h,if_pos]
  refine ⟨by rw [h.1];exact bne_self_eq_false _,?_⟩
  rw [List.any_eq_false]
  intro r hr
  have:=h.2 r hr
  unfold neW
  rw [this]
  simp
 rw [if_neg h,if_neg]
 rintro ⟨h1,h2⟩
 refine h ⟨by simp at h1;omega,fun r hr=>?_⟩
 rw [List.any_eq_false] at h2
 have:=h2 r hr
 unfold neW at this
 simpa using this
def badG (n:Int) (g:List Int):Bool:=decide (g.length=0) || g.any (outI n)
theorem wdt_three {ν:Type} {l:Lay ν} {n:Int} (hK:l.K=3):wdt l n=if l.G.any (badG n)=false then (l.G.length:Int) else 0:=by
 unfold wdt
 rw [if_neg oM,if_neg oM,if_pos hK]
 have key:∀ g:List Int,(g≠[]∧∀ i∈g,0≤i∧i < n)↔badG n g=false:=fun g=>by
  unfold badG
  rw [Bool.or_eq_false_iff,List.any_eq_false,decide_eq_false_iff_not]
  refine and_congr ?_ ?_
  ·rw [not_congr List.length_eq_zero_iff]
  refine forall_congr' fun i=>imp_congr_right fun _=>?_
  unfold outI
  simp only [Bool.or_eq_true,decide_eq_true_eq]
  omega
 by_cases h:∀ g∈l.G,g≠[]∧∀ i∈g,0≤i∧i < n
 ·rw [if_pos h,if_pos]
  rw [List.any_eq_false]
  intro g hg
  rw [(key g).1 (h g hg)]
  decide
 rw [if_neg h,if_neg]
 intro h2
 rw [List.any_eq_false] at h2
 exact h fun g hg=>(key g).2 (by simpa using h2 g hg)
theorem width_any {ν:Type} {T:World→Value→ν→Prop} {w:World} {v:Value} {l:Lay ν} {n:Int} (hv:RdLay T w v l) (hW:l.W.length≤100000) (hG:l.G.length≤100000) (hg:∀ g∈l.G,g.length≤100000):
  Calls Tryz.prog 61 #[v,.int .i64 n] w (Gives w fun v' _=>v'=.int .i64 (wdt l n)):=by
 refine via fun R hR=>?_
 obtain ⟨ax,mx',ay,my,az,mz,rfl,hRW,hRB,hRG⟩:=hv.op
 have HRW:=qH hRW
 have HRG:=qH hRG
 have HG:=qH hg
 clear hv hRW hRB hRG hg
 obtain ⟨w1,hw1,b1,c1,c2,-,-,-⟩:=bx2 w [.int .i64 l.K,.slice ax l.W.length mx',.slice ay l.B.length my,.slice az l.G.length mz] [.int .i64 n] 129 3
 have HW:=qH hw1
 have C1:=qH c1
 have C2:=qH c2
 obtain ⟨u0,u1,u2,u3⟩:=c1.c4
 have u4:=c2.c1
 have HCW:=qH (cont_width1 (RdRow.cast1 HRW.out b1) u4 hW)
 clear hw1 c1 c2
 go_enter Tryz.func61,Tryz.ntmps61
 go_upto_region 1 with (fail)
 rw [← HW.out]
 clear HW
 by_cases h1:l.K=1
 ·have he1:(l.K == 1)=true:=by rw [h1];rfl
  have HE:=qH (wdt_one (n:=n) h1)
  clear h1
  generalize wdt l n=r at*
  generalize l.K=K at*
  cases hb:((l.B.length:Int) != (l.W.length:Int)) with
  | true=>
   rw [hb,if_neg (by simp)] at HE
   rw [HE.out] at hR
   clear HE HCW
   go_wp2_with fail
   exact hR.out _ _ (Gives.mk b1 rfl)
  | false=>
   rw [hb] at HE
   cases ha:l.W.any (fun r=>neW n r.length) with
   | true=>
    rw [ha] at HCW
    rw [ha,if_neg (by simp)] at HE
    rw [HE.out] at hR
    clear HE ha
    go_wp2_with fail
    refine HCW.out.mono ?_
    rintro e w2 ⟨_,rfl,b2,rfl⟩
    go_wp2_with fail
    exact hR.out _ _ (Gives.mk (eT b1 b2) rfl)
   | false=>
    rw [ha] at HCW
    rw [ha,if_pos ⟨rfl,rfl⟩] at HE
    rw [HE.out] at hR
    clear HE ha
    go_wp2_with fail
    refine HCW.out.mono ?_
    rintro e w2 ⟨_,rfl,b2,rfl⟩
    obtain ⟨v0,v1,v2,v3⟩:=(C1.out.ext b2).c4
    go_wp2_with fail
    exact hR.out _ _ (Gives.mk (eT b1 b2) rfl)
 have he1:(l.K == 1)=false:=beq_false_of_ne h1
 clear HCW
 by_cases h2:l.K=2
 ·have he2:(l.K == 2)=true:=by rw [h2];rfl
  have HE:Hid (wdt l n=n):=by show _=_;unfold wdt;rw [if_neg h1,if_pos h2]
  rw [HE.out] at hR
  clear h1 h2 HE
  generalize l.K=K at*
  go_wp2_with fail
  exact hR.out _ _ (Gives.mk b1 rfl)
 have he2:(l.K == 2)=false:=beq_false_of_ne h2
 by_cases h3:l.K=3
 ·have he3:(l.K == 3)=true:=by rw [h3];rfl
  have HE:=qH (wdt_three (n:=n) h3)
  clear h1 h2 h3
  generalize wdt l n=r at*
  generalize l.K=K at*
  go_wp2_with fail
  go_loopw [35] (fun t wr=>∃ i:Nat,t=.int .i64 i∧i≤l.G.length∧Hid (Ext w1 wr)∧Hid ((l.G.take i).any (badG n)=false)) (fun t _=>l.G.length - (intOf t).toNat)
  case atStart=>exact ⟨0,rfl,Nat.zero_le _,Ext.refl _,by rw [List.take_zero];rfl⟩
  case round=>
   obtain ⟨i,rfl,hi,hX,hA⟩:=hrel
   obtain ⟨wo,hwo⟩:∃ w0:World,w0=wr:=⟨_,rfl⟩
   subst hwo
   obtain ⟨m0,m1,m2,m3⟩:=(C1.out.ext hX.out).c4
   have m4:=(C2.out.ext hX.out).c1
   by_cases hlt:i < l.G.length
   ·have hd:=dT ((i:Int) < (l.G.length:Int))
    have HJ1:IntKind.i64.wrap ((i:Int)+1)=((i+1:Nat):Int):=by rw [IntKind.wrap_i64];omega
    have HI2:(0:Int)≤(i:Int)∧(i:Int) < (l.G.length:Int):=⟨by omega,by omega⟩
    obtain ⟨bG,oG,x,m,he,hcell,hgr⟩:=HRG.out.row i hlt
    subst he
    have hb0:=eT b1 hX.out
    replace hcell:=Ext.cell hb0 hcell
    have HCI:=qH (cont_width2 (hgr.ext IntT.ext hb0) m4 (HG.out _ (List.getElem_mem hlt)))
    have HTK:Hid ((l.G.take (i+1)).any (badG n)=badG n l.G[i]):=by
     show _=_
     rw [← List.take_append_getElem hlt,List.any_append,hA.out]
     simp
    have HPT:Hid (badG n l.G[i]=true→l.G.any (badG n)=true):=fun h=>List.any_eq_true.2 ⟨_,List.getElem_mem hlt,h⟩
    have HBG:Hid (badG n l.G[i]=(((l.G[i].length:Int) == 0) || l.G[i].any (outI n))):=by
     show _=_
     unfold badG
     congr 1
     by_cases h:l.G[i].length=0
     ·rw [h];rfl
     rw [decide_eq_false h,beq_false_of_ne oM]
    clear hgr
    generalize badG n l.G[i]=bb at*
    generalize l.G[i]=g at*
    by_cases h0:(g.length:Int)=0
    ·have he0:((g.length:Int) == 0)=true:=by rw [h0];rfl
     rw [he0,Bool.true_or] at HBG
     rw [HPT.out HBG.out,if_neg (by simp)] at HE
     rw [HE.out] at hR
     clear HE HCI h0 HPT HTK HBG
     go_wp2_with fail
     exact hR.out _ _ (Gives.mk (eT b1 hX.out) rfl)
    have he0:((g.length:Int) == 0)=false:=beq_false_of_ne h0
    rw [he0,Bool.false_or] at HBG
    clear h0
    cases ha:g.any (outI n) with
    | true=>
     rw [ha] at HCI HBG
     rw [HPT.out HBG.out,if_neg (by simp)] at HE
     rw [HE.out] at hR
     clear HE HPT HTK HBG ha
     go_wp2_with fail
     refine HCI.out.mono ?_
     rintro e w2 ⟨_,rfl,b2,rfl⟩
     clear hcell
     go_wp2_with fail
     exact hR.out _ _ (Gives.mk (eT (eT b1 hX.out) b2) rfl)
    | false=>
     rw [ha] at HCI HBG
     rw [HBG.out] at HTK
     clear HPT HBG ha
     go_wp2_with fail
     refine HCI.out.mono ?_
     rintro e w2 ⟨_,rfl,b2,rfl⟩
     clear hcell
     go_wp2_with fail
     go_roundw
     case rel=>exact ⟨i+1,by go_num,by omega,eT hX.out b2,HTK.out⟩
     simp [intOf]<;>omega
   obtain rfl:i=l.G.length:=by omega
   have hd:=dF ((l.G.length:Int) < (l.G.length:Int))
   rw [List.take_length] at hA
   rw [if_pos hA.out] at HE
   rw [HE.out] at hR
   clear HE hA
   go_wp2_with fail
   exact hR.out _ _ (Gives.mk (eT b1 hX.out) rfl)
 have he3:(l.K == 3)=false:=beq_false_of_ne h3
 have HE:Hid (wdt l n=0):=by show _=_;unfold wdt;rw [if_neg h1,if_neg h2,if_neg h3]
 rw [HE.out] at hR
 clear h1 h2 h3 HE
 generalize l.K=K at*
 go_wp2_with fail
 exact hR.out _ _ (Gives.mk b1 rfl)
theorem widths_any {ν:Type} {T:World→Value→ν→Prop} {w:World} {v:Value} {n:Nt ν} (hv0:RdNet T w v n) (hl:lit n):
  Calls Tryz.prog 36 #[v] w (Gives w fun v' _=>∃ a m c,v'=.tuple #[.slice a m c,.int .i64 (if 0 < wds n.2 n.1 then 0 else 4)]):=by
 refine via fun R hR=>?_
 have hv:=hv0.mono (S:=fun _ _ _=>True) fun _ _ _=>trivial
 obtain ⟨z,ls⟩:=n
 have HGR:Hid (∀ w',Ext w w'→Calls Tryz.prog 60 #[v] w' (Gives w' fun v' _=>v'=.bool false)):=fun w' x=>great_any (hv.ext (fun _ _=>trivial) x) hl
 obtain ⟨a,c,rfl,hlc,hcm,hr⟩:=hv.op
 have HV:=qH hr
 have HZ:Hid (ls.length≤3):=hl.2.1
 have HLT:Hid (∀ l∈ls,litL l):=hl.2.2
 dsimp only at hlc hcm HV HGR
 unfold maxLen at hcm
 clear hv hv0 hr hl
 obtain ⟨w1,hw1,b1,c1,-,-⟩:=bx1 w [.int .i64 z,.slice a ls.length c] 47
 have HW:=qH hw1
 have C1:=qH c1
 obtain ⟨j0,j1⟩:=c1.c2
 clear hw1 c1
 go_enter Tryz.func36,Tryz.ntmps36
 go_upto_region 1 with (fail)
 rw [← HW.out]
 clear HW
 go_wp2_with fail
 refine (HGR.out _ b1).mono ?_
 rintro e w2 ⟨_,rfl,b2,rfl⟩
 clear j0 j1
 obtain ⟨j0,j1⟩:=(C1.out.ext b2).c2
 go_upto_region 4 with (fail)
 go_cut [5] (fun s5 wx=>Ext w2 wx∧Hid (OwnRow 1 IntT 3 w2.heap.size wx s5 [z]))
 case first=>
  go_wp2_with fail
  go_meet
  exact ⟨Ext.alloc _ _,qH (OwnRow.litOne (T:=IntT) IntT.ext _ (w:=w2) (cs:=[.int .i64 z]) (y:=z) (Nat.le_refl _) rfl rfl)⟩
 case rest=>
  obtain ⟨hX3,hO3⟩:=hcut
  obtain ⟨w3,hw3⟩:∃ w0:World,w0=wc:=⟨_,rfl⟩
  subst hw3
  clear j0 j1
  obtain ⟨j0,j1⟩:=(C1.out.ext (eT b2 hX3)).c2
  go_wp2_with fail
  clear j0 j1
  go_loopw [4,5,17] (fun s4 s5 t wr=>∃ (i:Nat) (o:List Int),s4=.int .i64 (wds (ls.take i) z)∧t=.int .i64 i∧i≤ls.length∧Hid (o.length=i+1)∧Hid (Ext w2 wr)∧Hid (OwnRow 1 IntT 3 w2.heap.size wr s5 o)) (fun _ _ t _=>ls.length - (intOf t).toNat)
  case atStart=>exact ⟨0,[z],rfl,rfl,Nat.zero_le _,rfl,hX3,hO3⟩
  case round=>
   clear hX3 hO3
   obtain ⟨i,o,rfl,rfl,hi,hol,hX,hO⟩:=hrel
   obtain ⟨wo,hwo⟩:∃ w0:World,w0=wr:=⟨_,rfl⟩
   subst hwo
   have hi3:=HZ.out
   by_cases hlt:i < ls.length
   ·have hd:=dT ((i:Int) < (ls.length:Int))
    have HJ1:IntKind.i64.wrap ((i:Int)+1)=((i+1:Nat):Int):=by rw [IntKind.wrap_i64];omega
    have HI2:(0:Int)≤(i:Int)∧(i:Int) < (ls.length:Int):=⟨by omega,by omega⟩
    have hxw:=eT b1 (eT b2 hX.out)
    obtain ⟨bL,oL,ax,mx',ay,my,az,mz,hae,hbo,hRW,hRB,hRG⟩:=(HV.out.ext (fun h x=>RdLay.ext h (fun _ _=>trivial) x) hxw).lay i hlt
    subst hae
    have HLL:Hid (litL ls[i]):=HLT.out _ (List.getElem_mem hlt)
    have HWT:=qH (wds_take ls z i hlt)
    obtain ⟨l,hl⟩:∃ l,ls[i]=l:=⟨_,rfl⟩
    rw [hl] at hbo hRW hRB hRG HLL HWT
    clear hl
    obtain ⟨u0,u1,u2,u3⟩:=hbo.c4
    obtain ⟨w4,hw4,b4,c4,-,-⟩:=bx1 wo [.int .i64 l.K,.slice ax l.W.length mx',.slice ay l.B.length my,.slice az l.G.length mz] 129
    have HW:=qH hw4
    have C4:=qH c4
    have HWD:Hid (∀ n:Int,Calls Tryz.prog 61 #[.agg #[.int .i64 l.K,.slice ax l.W.length mx',.slice ay l.B.length my,.slice az l.G.length mz],.int .i64 n] w4 (Gives w4 fun v' _=>v'=.int .i64 (wdt l n))):=fun n=>width_any (RdLay.ext (T:=fun _ _ _=>True) ⟨_,_,_,rfl,hRW,hRB,hRG⟩ (fun _ _=>trivial) b4) (by have:=HLL.out.1;omega) (by have:=HLL.out.1;omega) (fun g hg=>by have:=HLL.out.2.2 g hg;omega)
    clear hw4 c4 hRW hRB hRG hbo
    go_upto_region 8 with (fail)
    rw [← HW.out]
    clear HW u0 u1 u2 u3
    obtain ⟨u0,u1,u2,u3⟩:=C4.out.c4
    have hX4:=eT hX.out b4
    obtain ⟨a5,k5,rfl,-,-⟩:=hO.out.rd.shape
    generalize wds (ls.take i) z=s at*
    generalize hs2:wds (ls.take (i+1)) z=s2 at HWT
    have HS2:=qH hs2
    clear hs2
    by_cases hs:0 < s
    ·have hd1:decide (0 < s)=true:=decide_eq_true hs
     rw [if_pos hs] at HWT
     clear hs
     have HCW:=qH (HWD.out s)
     rw [← HWT.out] at HCW
     clear HWD
     go_wp2_with fail
     refine HCW.out.mono ?_
     rintro e w5 ⟨_,rfl,b5,rfl⟩
     have hO5:=qH (hO.out.ext IntT.ext (eT b4 b5))
     have hX5:=eT hX4 b5
     clear HCW u0 u1 u2 u3
     go_wp2_with (at_builtin;refine append_rowL (y:=s2) etLi (kdI _) rF _ _ rF w2.heap.size rF _ rF hO5.out rfl (show IntT _ _ _ from rfl) (Below.size hX5) (by have:=hol.out;omega) (by have:=hol.out;unfold maxLen;omega) ?_;intro v9 w9 o9 b9 g9)
     go_roundw
     case rel=>exact ⟨i+1,_,by rw [HS2.out],by go_num,by omega,by show _=_;rw [List.length_append,hol.out];rfl,Below.trans hX5 b9,o9⟩
     simp [intOf]<;>omega
    have hd1:decide (0 < s)=false:=decide_eq_false hs
    rw [if_neg hs] at HWT
    clear hs HWD
    have hO5:=qH (hO.out.ext IntT.ext b4)
    go_wp2_with (at_builtin;refine append_rowL (y:=s) etLi (kdI _) rF _ _ rF w2.heap.size rF _ rF hO5.out rfl (show IntT _ _ _ from rfl) (Below.size hX4) (by have:=hol.out;omega) (by have:=hol.out;unfold maxLen;omega) ?_;intro v9 w9 o9 b9 g9)
    go_roundw
    case rel=>exact ⟨i+1,_,by rw [HS2.out,HWT.out],by go_num,by omega,by show _=_;rw [List.length_append,hol.out];rfl,Below.trans hX4 b9,o9⟩
    simp [intOf]<;>omega
   obtain rfl:i=ls.length:=by omega
   have hd:=dF ((ls.length:Int) < (ls.length:Int))
   rw [List.take_length]
   obtain ⟨a5,k5,rfl,-,-⟩:=hO.out.rd.shape
   obtain ⟨m5,hm5⟩:∃ m,o.length=m:=⟨_,rfl⟩
   rw [hm5]
   clear hm5
   by_cases hs:0 < wds ls z
   ·rw [if_pos hs] at hR
    have hd1:=dF (wds ls z≤0)
    clear hs
    generalize wds ls z=s at*
    go_wp2_with fail
    exact hR.out _ _ (Gives.mk (eT b1 (eT b2 hX.out)) ⟨_,_,_,rfl⟩)
   rw [if_neg hs] at hR
   have hd1:=dT (wds ls z≤0)
   clear hs
   generalize wds ls z=s at*
   go_wp2_with fail
   exact hR.out _ _ (Gives.mk (eT b1 (eT b2 hX.out)) ⟨_,_,_,rfl⟩)
open Go.RowKit Go.Att

theorem wds_bad {ν:Type} {ls:List (Lay ν)} {z:Int} {i:Nat} (hi:i < ls.length) (h:¬ 0 < wdt ls[i] (wds (ls.take i) z)):¬ 0 < wds ls z:=fun hp=>h (wdt_at hp i hi).2
theorem wdt_k1 {ν:Type} {l:Lay ν} {w:Int} (hK:l.K=1) (h:0 < wdt l w):l.B.length=l.W.length∧(∀ r∈l.W,(r.length:Int)=w)∧0 < l.W.length:=by
 rcases wdt_cases h with ⟨-,h1,h2,h3,-⟩ | ⟨h,-⟩ | ⟨h,-⟩
 ·exact ⟨h1,h2,h3⟩
 ·omega
 omega
theorem wdt_k3 {ν:Type} {l:Lay ν} {w:Int} (hK:l.K=3) (h:0 < wdt l w):(∀ g∈l.G,g≠[]∧∀ i∈g,0≤i∧i < w)∧0 < l.G.length:=by
 rcases wdt_cases h with ⟨h,-⟩ | ⟨h,-⟩ | ⟨-,h1,h2,-⟩
 ·omega
 ·omega
 exact ⟨h1,h2⟩
def NotW {ν:Type} (ls:List (Lay ν)) (z:Int) (p:Prop):Prop:=¬ p→¬ 0 < wds ls z
theorem NotW.no {ν:Type} {ls:List (Lay ν)} {z:Int} {p:Prop} (h:NotW ls z p) (hp:p→False):¬ 0 < wds ls z:=h hp
end Go.Proofs.YtmlhccajicmpfaaGreat
