/- A group of texts: Itoa, PLimbPack, PKeyOf -/
import Derived.Test.YtdooldpgnjmpfaaGreatDoorSq
import Derived.Shelf.Strconv.Itoa3
import Derived.Test.YtdooldpgnjmpfaaGreatDoorProg
import Derived.Test.YtdooldpgnjmpfaaGreatDoorPartAA
import Derived.Test.YtdooldpgnjmpfaaGreatDoorPartAE
import Derived.Test.YtdooldpgnjmpfaaGreatDoorPartCG
import Derived.Test.YtdooldpgnjmpfaaGreatDoorPartBD
import Derived.Test.YtdooldpgnjmpfaaGreatDoorPartAC
import Derived.Deep.RegionHeld3
namespace Go.Proofs
open Go.Shelf
def Tryz.laysM171_ren:Go.Shelf.Ren:=⟨fun | 171=>81 | 243=>107 | 246=>130 | 283=>144 | 284=>145 | 285=>146 | 286=>147 | 129=>126 | 317=>155 | 318=>156 | 319=>157 | 320=>158 | 337=>165 | 338=>166 | n=>n,fun | 3=>3 | 9=>9 | 2=>2 | 4=>4 | 171=>225 | 0=>0 | 53=>175 | 37=>190 | 5=>5 | 173=>227 | 212=>237 | 51=>119 | 20=>20 | 213=>238 | 46=>173 | 232=>251 | 233=>252 | n=>n,fun | 17=>0 | 18=>1 | 19=>2 | n=>n⟩
theorem Tryz.laysM171:Go.Proofs.LaysM.n171 Tryz.prog Tryz.laysM171_ren:={
 mixed:=by kernel_rfl
 f129:=Tryz.func126.trans (congrArg some (by kernel_rfl))
 f171:=Tryz.func81.trans (congrArg some (by kernel_rfl))
 f243:=Tryz.func107.trans (congrArg some (by kernel_rfl))
 f246:=Tryz.func130.trans (congrArg some (by kernel_rfl))
 f283:=Tryz.func144.trans (congrArg some (by kernel_rfl))
 f284:=Tryz.func145.trans (congrArg some (by kernel_rfl))
 f285:=Tryz.func146.trans (congrArg some (by kernel_rfl))
 f286:=Tryz.func147.trans (congrArg some (by kernel_rfl))
 f317:=Tryz.func155.trans (congrArg some (by kernel_rfl))
 f318:=Tryz.func156.trans (congrArg some (by kernel_rfl))
 f319:=Tryz.func157.trans (congrArg some (by kernel_rfl))
 f320:=Tryz.func158.trans (congrArg some (by kernel_rfl))
 f337:=Tryz.func165.trans (congrArg some (by kernel_rfl))
 f338:=Tryz.func166.trans (congrArg some (by kernel_rfl))
 t0:=Tryz.underlying0
 a0:=Tryz.isAgg0
 z0:=Tryz.sizeOf0
 v0:=Tryz.zeroValue0
 t2:=Tryz.underlying2
 a2:=Tryz.isAgg2
 z2:=Tryz.sizeOf2
 v2:=Tryz.zeroValue2
 t3:=Tryz.underlying3
 a3:=Tryz.isAgg3
 z3:=Tryz.sizeOf3
 v3:=Tryz.zeroValue3
 t4:=Tryz.underlying4
 a4:=Tryz.isAgg4
 z4:=Tryz.sizeOf4
 v4:=Tryz.zeroValue4
 t5:=Tryz.underlying5
 a5:=Tryz.isAgg5
 z5:=Tryz.sizeOf5
 v5:=Tryz.zeroValue5
 t9:=Tryz.underlying9
 a9:=Tryz.isAgg9
 z9:=Tryz.sizeOf9
 v9:=Tryz.zeroValue9
 t20:=Tryz.underlying20
 a20:=Tryz.isAgg20
 z20:=Tryz.sizeOf20
 v20:=Tryz.zeroValue20
 t37:=Tryz.underlying190
 a37:=Tryz.isAgg190
 z37:=Tryz.sizeOf190
 v37:=Tryz.zeroValue190
 t46:=Tryz.underlying173
 a46:=Tryz.isAgg173
 z46:=Tryz.sizeOf173
 v46:=Tryz.zeroValue173
 t51:=Tryz.underlying119
 a51:=Tryz.isAgg119
 z51:=Tryz.sizeOf119
 v51:=Tryz.zeroValue119
 t53:=Tryz.underlying175
 a53:=Tryz.isAgg175
 z53:=Tryz.sizeOf175
 v53:=Tryz.zeroValue175
 t171:=Tryz.underlying225
 a171:=Tryz.isAgg225
 z171:=Tryz.sizeOf225
 v171:=Tryz.zeroValue225
 t173:=Tryz.underlying227
 a173:=Tryz.isAgg227
 z173:=Tryz.sizeOf227
 v173:=Tryz.zeroValue227
 t212:=Tryz.underlying237
 a212:=Tryz.isAgg237
 z212:=Tryz.sizeOf237
 v212:=Tryz.zeroValue237
 t213:=Tryz.underlying238
 a213:=Tryz.isAgg238
 z213:=Tryz.sizeOf238
 t232:=Tryz.underlying251
 a232:=Tryz.isAgg251
 z232:=Tryz.sizeOf251
 v232:=Tryz.zeroValue251
 t233:=Tryz.underlying252
 a233:=Tryz.isAgg252
 z233:=Tryz.sizeOf252
 v233:=Tryz.zeroValue252
 g17:=by kernel_rfl
 g18:=by kernel_rfl
 g19:=by kernel_rfl
 i0:=by kernel_rfl
 i2:=by kernel_rfl
 i3:=by kernel_rfl
 i4:=by kernel_rfl
 i5:=by kernel_rfl
 i9:=by kernel_rfl
 i20:=by kernel_rfl
 i37:=by kernel_rfl
 i46:=by kernel_rfl
 i51:=by kernel_rfl
 i53:=by kernel_rfl
 i171:=by kernel_rfl
 i173:=by kernel_rfl
 i212:=by kernel_rfl
 i232:=by kernel_rfl
 i233:=by kernel_rfl
 m17:=by kernel_rfl
 m18:=by kernel_rfl
 m19:=by kernel_rfl }

end Go.Proofs
namespace Go.Proofs.YtdooldpgnjmpfaaGreatDoor
open Go.RowKit Go.Att

theorem tab_ext {w w' : World} (h : Lib.TabIs Tryz.prog w "internal/strconv.uint64pow10" .u64 Lib.pow10Tab) (x : Ext w w') : Lib.TabIs Tryz.prog w' "internal/strconv.uint64pow10" .u64 Lib.pow10Tab := by
 have hg : Tryz.prog.globalNamed "internal/strconv.uint64pow10" = some 0 := by kernel_rfl
 have h0:=Lib.TabIs.cell h hg 0 (by decide)
 have hlt:0 < w.heap.size:=World.block_lt_of_cell? w _ h0
 have hb:=x.block 0 hlt
 unfold Lib.TabIs World.var? at h ⊢
 rw [hg] at h ⊢
 simpa [hb] using h
theorem itoa_any {w : World} {n : Int} (h0 : -9223372036854775808 ≤ n) (h1 : n ≤ 9223372036854775807) (ht : Lib.TabIs Tryz.prog w "internal/strconv.uint64pow10" .u64 Lib.pow10Tab) :
  Calls Tryz.prog 81 #[.int .i64 n] w (Gives w fun v' _=>v'=.string ⟨(Lib.itoa n).toArray⟩):=
 (Any.strconv_Itoa Tryz.laysM171 n h0 h1 w ht).mono fun e w' ⟨he,k,os,hw⟩=>by
  subst he hw
  exact Gives.mk ⟨rfl,rfl,rfl,by simp [Sort.grow],fun i hi=>by
   rw [Go.Sort.heap_grow_old _ _ (by simpa using hi)]
   rfl⟩ rfl
open Go.RowKit Go.Att

theorem et8:ElemT Tryz.prog 190 5 (.int .u8 0) 1 1:=ElemT.mk' Tryz.underlying190 (by kernel_rfl) rfl (by decide)
theorem pack_any {w:World} {va:Value} {xs:List Nat} (ha:RdL w va xs) (hl:xs.length≤1099511627776):
  Calls Tryz.prog 109 #[va] w (Gives w fun v' w'=>OwnI .u8 5 w.heap.size w' v' (digs 256 (nv xs))):=by
 refine via fun R hR=>?_
 have HA:=Lib.hid ha
 have hll:=limbs_len_le ha.2
 clear ha
 go_enter Tryz.func109,Tryz.ntmps109
 go_wp2_with fail
 refine (cut_any HA.out).mono ?_
 rintro e w' ⟨v',rfl,rfl,hr,-⟩
 generalize hx:nv xs=x at*
 obtain ⟨a,ca,rfl,hla,hma,_,hca⟩:=hr.1.shape
 have HC:=Lib.hid hca
 clear hca hr hx
 unfold maxLen at hma
 go_wp2_with fail
 go_loopw [3,9] (fun b i wr=>∃ (k:Nat) (o:List Nat),i=.int .i64 k∧k≤(limbs x).length∧o.length=4*k∧Hid (Fit 256 o)∧Hid (OwnI .u8 5 w.heap.size wr b o)∧Hid (val 256 o=nv ((limbs x).take k))∧Ext w wr) (fun _ i _=>(limbs x).length - (intOf i).toNat)
 case atStart=>exact ⟨0,[],rfl,Nat.zero_le _,rfl,Fit.nil _,OwnI.nil _ _ _ _,by simp [Hid,nv,val],Ext.refl _⟩
 case round=>
  obtain ⟨k,o,rfl,hk,hol,hfo,hO,hinv,hbel⟩:=hrel
  have hsz2:=hbel.size
  by_cases hlt:k < (limbs x).length
  ·obtain ⟨ba,oa,rfl,hc⟩:=HC.out k hlt
   have hc2:=Ext.cell hbel hc
   have FA:=(fit_limbs x).nth32 k
   clear hc
   go_wp2_with (at_builtin;refine append_rd et8 rfl _ _ rfl w.heap.size rfl (Ext.owns (Ext.alloc _ _) hO.out) rfl (RdV.lit _ _ _ _ 4 rfl (by unfold maxLen;omega)) (by intro u hu;simp at hu;rcases hu with hu | hu | hu | hu <;> (subst hu;rfl)) (by omega) (by unfold maxLen;omega) (by simp;omega) ?_)
   intro v2 w2 ho2 hb2 _
   have HO2:=Lib.hid ho2
   clear ho2
   go_wp2
   go_roundw
   case rel=>
    exact ⟨k+1,o ++ bytes4 (nth (limbs x) k),rfl,by omega,by simp [bytes4];omega,hfo.out.app (fit_bytes4 _),OwnI.app HO2.out (by simp [bytes4];omega) (by simp [ints,bytes4] <;> omega),
     pack_step (fit_limbs x) hol hinv.out,Below.trans (Below.alloc hbel hsz2 _) hb2⟩
   case measure=>simp [intOf] <;> omega
  ·obtain rfl:k=(limbs x).length:=by omega
   have hv:val 256 o=x:=by
    have h:=hinv.out
    unfold nv at h
    rw [val_take_ge _ _ _ (Nat.le_refl _)] at h
    rw [h];exact nv_limbs x
   have HV:=Lib.hid hv
   obtain ⟨ab,cb,rfl,hlb,hmb,_,hcb⟩:=hO.out.rd.shape
   have HCB:=Lib.hid hcb
   clear hcb hv
   unfold maxLen at hmb
   go_wp2_with fail
   go_loop [3] (fun s=>∃ n:Nat,n≤o.length∧Hid (∀ i,n≤i→i < o.length→nth o i=0)∧s=.slice ab n cb) (fun s=>match s with | .slice _ n _=>n | _=>0)
   case atStart=>exact ⟨o.length,Nat.le_refl _,fun i h h'=>by omega,rfl⟩
   case round=>
    obtain ⟨n,hn,hz,rfl⟩:=hrel
    have fin:(n=0∨nth o (n - 1)≠0)→R (.returned (.slice ab n cb)) wr:=by
     intro h
     refine hR.out _ _ (Gives.mk hbel ?_)
     have h1:=OwnI.take hO.out rfl hn
     have h2:=take_digs (by decide) hfo.out hn hz.out h
     rw [HV.out] at h2
     rw [← h2]
     exact h1
    have FIN:=Lib.hid fin
    clear fin
    by_cases h0:n=0
    ·have h0':n≤0:=by omega
     have H0:=Lib.hid h0
     clear h0
     go_wp2
     all_goals exact FIN.out (.inl H0.out)
    ·obtain ⟨bb,ob,rfl,hc⟩:=HCB.out (n - 1) (by omega)
     by_cases hz1:nth o (n - 1)=0
     ·rw [hz1] at hc
      have HZ2:=Lib.hid hz1
      clear hz1
      go_wp2
      go_round
      case rel=>
       refine ⟨n - 1,by omega,fun i h h'=>?_,rfl⟩
       by_cases hi:i=n - 1
       ·rw [hi];exact HZ2.out
       ·exact hz.out i (by omega) h'
      case measure=>simp;omega
     ·have hb:((nth o (n - 1):Int) == 0)=false:=by simpa using hz1
      have HZ2:=Lib.hid hz1
      clear hz1
      go_wp2
      all_goals exact FIN.out (.inr HZ2.out)

open Go.RowKit Go.Att

set_option maxHeartbeats 4000000 in
set_option linter.unusedSimpArgs false in
theorem keyof_any {w:World} {v:Value} {q:Rat} (hq:RdQ w v q) (sq:Sz 1000000 q):
  Calls Tryz.prog 83 #[v] w (Gives w fun v' _=>v'=.agg #[.bool (decide (q.num < 0)),.string (strOf (digs 256 q.num.natAbs)),.string (strOf (digs 256 q.den))]):=by
 refine via fun R hR=>?_
 have SQ:=Lib.hid sq
 obtain ⟨n,d,rfl,hn,hd⟩:=hq
 have HN:=Lib.hid hn
 have HD:=Lib.hid hd
 clear hn hd sq
 have e1:=nv_limbs q.num.natAbs
 have e2:=nv_bel q
 obtain ⟨S1,hS1⟩:∃ S,S=strOf (digs 256 q.num.natAbs):=⟨_,rfl⟩
 obtain ⟨S2,hS2⟩:∃ S,S=strOf (digs 256 q.den):=⟨_,rfl⟩
 rw [← hS1,← hS2] at hR
 have E1:Hid (strOf (digs 256 (nv (limbs q.num.natAbs)))=S1):=by show _=_;rw [e1,hS1]
 have E2:Hid (strOf (digs 256 (nv (bel q.den)))=S2):=by show _=_;rw [e2,hS2]
 clear hS1 hS2 e1 e2
 obtain ⟨w1,hw1,b1,c1,-,-,r2,-⟩:=bx2 w [.bool (decide (q.num < 0)),n,d] [.bool false,.string ⟨#[]⟩,.string ⟨#[]⟩] 59 123
 have C1:=Lib.hid c1
 have R2:Hid (Room3 w1 (w.heap.size+1)):=r2.room3
 have HW:=Lib.hid hw1
 have hz1:=Lib.hid r2.lt
 clear c1 r2 hw1
 have HC:Hid (∀ {w v xs S},RdI .u8 w v xs→Fit 256 xs→strOf xs=S→(convert 190 9 v).run Tryz.prog w=.ok (.string S) w):=fun h hf hS=>hS ▸ conv_bytes Tryz.underlying190 Tryz.underlying5 Tryz.underlying9 h hf
 go_enter Tryz.func83,Tryz.ntmps83
 go_upto_region 1 with (fail)
 rw [← HW.out]
 clear HW
 have b2:=drew_ext w1
 have XE:=b2
 refine wp_region_noPanic ?_
 refine wp_region_held_drew (S:=fun w'=>w'.cell? ⟨w.heap.size,0,none⟩=some (.bool (decide (q.num < 0)))∧w'.cell? ⟨w.heap.size,1,none⟩=some (n)∧w'.cell? ⟨w.heap.size,2,none⟩=some (d)) (by kernel_rfl) ((C1.out.ext XE).c3) (fun hHeld=>?_)
 refine tkH 0 hHeld ?_
 simp only [jP,jA,jB,jC,jD,jE,jF]
 refine tkH 1 hHeld ?_
 simp only [jP,jA,jB,jC,jD,jE,jF]
 refine tkH 2 hHeld ?_
 simp only [jP,jA,jB,jC,jD,jE,jF]
 refine tkH 3 hHeld ?_
 simp only [jP,jA,jB,jC,jD,jE,jF]
 refine tkH 6 hHeld ?_
 simp only [jP,jA,jB,jC,jD,jE,jF]
 refine rdH 4 (by kernel_rfl) rfl (fun K hK=>?_)
 go_simp
 go_at_call 109;refine (pack_any (HN.out.ext (Ext.trans b1 b2)) (by have:=SQ.out.1;omega)).mono ?_;rintro e w3 ⟨v3,rfl,b3,o3⟩;have O3:=Lib.hid o3;clear o3;(first | have XE:=Ext.trans XE b3 | have XE:=Ext.trans (Ext.trans XE (Ext.alloc _ _)) b3);have hcv3:=HC.out O3.out.rd (fit_digs 256 (by decide) _) E1.out
 go_wp2_with fail
 refine hK.out _ _ ((C1.out.ext XE).c3) (fun hHeld=>?_)
 clear hK K
 try simp only [jP,jA,jB,jC,jD,jE,jF]
 refine wpAnyH_ready (rs:=[5,7]) (by kernel_rfl) (by simp) ?_
 refine AllReadyH.cons (o:=_) rfl (fun K hK=>?_) (AllReadyH.cons (o:=_) rfl (fun K hK=>?_) AllReadyH.nil)
 ·skip
  go_simp
  refine hK.out _ _ ((C1.out.ext XE).c3) (fun hHeld=>?_)
  clear hK K
  try simp only [jP,jA,jB,jC,jD,jE,jF]
  refine rdH 7 (by kernel_rfl) rfl (fun K hK=>?_)
  go_simp
  go_at_call 77;refine (below_any (HD.out.ext (Ext.trans b1 (Ext.trans b2 b3)))).mono ?_;rintro e w4 ⟨v4,rfl,b4,o4⟩;have O4:=Lib.hid o4;clear o4;(first | have XE:=Ext.trans XE b4 | have XE:=Ext.trans (Ext.trans XE (Ext.alloc _ _)) b4);have hcv34:=HC.out (O3.out.rd.ext b4) (fit_digs 256 (by decide) _) E1.out
  go_wp2_with fail
  refine hK.out _ _ ((C1.out.ext XE).c3) (fun hHeld=>?_)
  clear hK K
  try simp only [jP,jA,jB,jC,jD,jE,jF]
  refine rdH 8 (by kernel_rfl) rfl (fun K hK=>?_)
  go_simp
  go_at_call 109;refine (pack_any O4.out (by have:=SQ.out.2;have:=bel_len q.den;omega)).mono ?_;rintro e w5 ⟨v5,rfl,b5,o5⟩;have O5:=Lib.hid o5;clear o5;(first | have XE:=Ext.trans XE b5 | have XE:=Ext.trans (Ext.trans XE (Ext.alloc _ _)) b5);have hcv35:=HC.out (O3.out.rd.ext (Ext.trans b4 b5)) (fit_digs 256 (by decide) _) E1.out;have hcv5:=HC.out O5.out.rd (fit_digs 256 (by decide) _) E2.out;obtain ⟨_,_,_,j0,j1,j2,g0,g1,g2⟩:=(R2.out.ext XE).cells
  go_wp2_with fail
  refine hK.out _ _ ((C1.out.ext XE).c3) (fun hHeld=>?_)
  clear hK K
  try simp only [jP,jA,jB,jC,jD,jE,jF]
  refine rdH 9 (by kernel_rfl) rfl (fun K hK=>?_)
  go_simp
  refine hK.out _ _ ((C1.out.ext XE).c3) (fun hHeld=>?_)
  clear hK K
  try simp only [jP,jA,jB,jC,jD,jE,jF]
  refine tkH 10 hHeld ?_
  simp only [jP,jA,jB,jC,jD,jE,jF]
  refine rdH 11 (by kernel_rfl) rfl (fun K hK=>?_)
  go_simp
  refine hK.out _ _ (((C1.out.ext XE).put3 (by omega) _ _ _).c3) (fun hHeld=>?_)
  clear hK K
  try simp only [jP,jA,jB,jC,jD,jE,jF]
  refine wpAnyH_done (by kernel_rfl) ?_ _
  refine NoPanic.normal ?_
  go_wp2_with fail
  refine bodyPost_ret (v:=.agg #[.bool (decide (q.num < 0)),.string S1,.string S2]) (by simp [results,Tryz.results83,go_sem,j0,j1,j2]) rfl ?_
  exact hR.out _ _ (Gives.mk (put3_below (Ext.trans b1 (Ext.trans b2 (Ext.trans b3 (Ext.trans b4 b5)))) (by omega) _ _ _) rfl)
 ·skip
  go_simp
  go_at_call 77;refine (below_any (HD.out.ext (Ext.trans b1 (Ext.trans b2 b3)))).mono ?_;rintro e w4 ⟨v4,rfl,b4,o4⟩;have O4:=Lib.hid o4;clear o4;(first | have XE:=Ext.trans XE b4 | have XE:=Ext.trans (Ext.trans XE (Ext.alloc _ _)) b4);have hcv34:=HC.out (O3.out.rd.ext b4) (fit_digs 256 (by decide) _) E1.out
  go_wp2_with fail
  refine hK.out _ _ ((C1.out.ext XE).c3) (fun hHeld=>?_)
  clear hK K
  try simp only [jP,jA,jB,jC,jD,jE,jF]
  refine wpAnyH_ready (rs:=[5,8]) (by kernel_rfl) (by simp) ?_
  refine AllReadyH.cons (o:=_) rfl (fun K hK=>?_) (AllReadyH.cons (o:=_) rfl (fun K hK=>?_) AllReadyH.nil)
  ·skip
   go_simp
   refine hK.out _ _ ((C1.out.ext XE).c3) (fun hHeld=>?_)
   clear hK K
   try simp only [jP,jA,jB,jC,jD,jE,jF]
   refine rdH 8 (by kernel_rfl) rfl (fun K hK=>?_)
   go_simp
   go_at_call 109;refine (pack_any O4.out (by have:=SQ.out.2;have:=bel_len q.den;omega)).mono ?_;rintro e w5 ⟨v5,rfl,b5,o5⟩;have O5:=Lib.hid o5;clear o5;(first | have XE:=Ext.trans XE b5 | have XE:=Ext.trans (Ext.trans XE (Ext.alloc _ _)) b5);have hcv35:=HC.out (O3.out.rd.ext (Ext.trans b4 b5)) (fit_digs 256 (by decide) _) E1.out;have hcv5:=HC.out O5.out.rd (fit_digs 256 (by decide) _) E2.out;obtain ⟨_,_,_,j0,j1,j2,g0,g1,g2⟩:=(R2.out.ext XE).cells
   go_wp2_with fail
   refine hK.out _ _ ((C1.out.ext XE).c3) (fun hHeld=>?_)
   clear hK K
   try simp only [jP,jA,jB,jC,jD,jE,jF]
   refine rdH 9 (by kernel_rfl) rfl (fun K hK=>?_)
   go_simp
   refine hK.out _ _ ((C1.out.ext XE).c3) (fun hHeld=>?_)
   clear hK K
   try simp only [jP,jA,jB,jC,jD,jE,jF]
   refine tkH 10 hHeld ?_
   simp only [jP,jA,jB,jC,jD,jE,jF]
   refine rdH 11 (by kernel_rfl) rfl (fun K hK=>?_)
   go_simp
   refine hK.out _ _ (((C1.out.ext XE).put3 (by omega) _ _ _).c3) (fun hHeld=>?_)
   clear hK K
   try simp only [jP,jA,jB,jC,jD,jE,jF]
   refine wpAnyH_done (by kernel_rfl) ?_ _
   refine NoPanic.normal ?_
   go_wp2_with fail
   refine bodyPost_ret (v:=.agg #[.bool (decide (q.num < 0)),.string S1,.string S2]) (by simp [results,Tryz.results83,go_sem,j0,j1,j2]) rfl ?_
   exact hR.out _ _ (Gives.mk (put3_below (Ext.trans b1 (Ext.trans b2 (Ext.trans b3 (Ext.trans b4 b5)))) (by omega) _ _ _) rfl)
  ·skip
   go_simp
   go_at_call 109;refine (pack_any O4.out (by have:=SQ.out.2;have:=bel_len q.den;omega)).mono ?_;rintro e w5 ⟨v5,rfl,b5,o5⟩;have O5:=Lib.hid o5;clear o5;(first | have XE:=Ext.trans XE b5 | have XE:=Ext.trans (Ext.trans XE (Ext.alloc _ _)) b5);have hcv35:=HC.out (O3.out.rd.ext (Ext.trans b4 b5)) (fit_digs 256 (by decide) _) E1.out;have hcv5:=HC.out O5.out.rd (fit_digs 256 (by decide) _) E2.out;obtain ⟨_,_,_,j0,j1,j2,g0,g1,g2⟩:=(R2.out.ext XE).cells
   go_wp2_with fail
   refine hK.out _ _ ((C1.out.ext XE).c3) (fun hHeld=>?_)
   clear hK K
   try simp only [jP,jA,jB,jC,jD,jE,jF]
   refine wpAnyH_ready (rs:=[5,9]) (by kernel_rfl) (by simp) ?_
   refine AllReadyH.cons (o:=_) rfl (fun K hK=>?_) (AllReadyH.cons (o:=_) rfl (fun K hK=>?_) AllReadyH.nil)
   ·skip
    go_simp
    refine hK.out _ _ ((C1.out.ext XE).c3) (fun hHeld=>?_)
    clear hK K
    try simp only [jP,jA,jB,jC,jD,jE,jF]
    refine rdH 9 (by kernel_rfl) rfl (fun K hK=>?_)
    go_simp
    refine hK.out _ _ ((C1.out.ext XE).c3) (fun hHeld=>?_)
    clear hK K
    try simp only [jP,jA,jB,jC,jD,jE,jF]
    refine tkH 10 hHeld ?_
    simp only [jP,jA,jB,jC,jD,jE,jF]
    refine rdH 11 (by kernel_rfl) rfl (fun K hK=>?_)
    go_simp
    refine hK.out _ _ (((C1.out.ext XE).put3 (by omega) _ _ _).c3) (fun hHeld=>?_)
    clear hK K
    try simp only [jP,jA,jB,jC,jD,jE,jF]
    refine wpAnyH_done (by kernel_rfl) ?_ _
    refine NoPanic.normal ?_
    go_wp2_with fail
    refine bodyPost_ret (v:=.agg #[.bool (decide (q.num < 0)),.string S1,.string S2]) (by simp [results,Tryz.results83,go_sem,j0,j1,j2]) rfl ?_
    exact hR.out _ _ (Gives.mk (put3_below (Ext.trans b1 (Ext.trans b2 (Ext.trans b3 (Ext.trans b4 b5)))) (by omega) _ _ _) rfl)
   ·skip
    go_simp
    refine hK.out _ _ ((C1.out.ext XE).c3) (fun hHeld=>?_)
    clear hK K
    try simp only [jP,jA,jB,jC,jD,jE,jF]
    refine rdH 5 (by kernel_rfl) rfl (fun K hK=>?_)
    go_simp
    refine hK.out _ _ ((C1.out.ext XE).c3) (fun hHeld=>?_)
    clear hK K
    try simp only [jP,jA,jB,jC,jD,jE,jF]
    refine tkH 10 hHeld ?_
    simp only [jP,jA,jB,jC,jD,jE,jF]
    refine rdH 11 (by kernel_rfl) rfl (fun K hK=>?_)
    go_simp
    refine hK.out _ _ (((C1.out.ext XE).put3 (by omega) _ _ _).c3) (fun hHeld=>?_)
    clear hK K
    try simp only [jP,jA,jB,jC,jD,jE,jF]
    refine wpAnyH_done (by kernel_rfl) ?_ _
    refine NoPanic.normal ?_
    go_wp2_with fail
    refine bodyPost_ret (v:=.agg #[.bool (decide (q.num < 0)),.string S1,.string S2]) (by simp [results,Tryz.results83,go_sem,j0,j1,j2]) rfl ?_
    exact hR.out _ _ (Gives.mk (put3_below (Ext.trans b1 (Ext.trans b2 (Ext.trans b3 (Ext.trans b4 b5)))) (by omega) _ _ _) rfl)
end Go.Proofs.YtdooldpgnjmpfaaGreatDoor
