/- span.Through: the ranges behind every layer -/
import Derived.Test.YtnbbhpihlcglgaaWidthsAll
import Derived.Test.YtnbbhpihlcglgaaOwnAll
import Derived.Test.YtnbbhpihlcglgaaNetPlain
import Derived.Test.YtnbbhpihlcglgaaPList17
import Derived.Test.YtnbbhpihlcglgaaWeighAll
import Derived.Test.YtnbbhpihlcglgaaRowApp
import Derived.Test.YtnbbhpihlcglgaaPOf15
namespace Go.Proofs.Ytnbbhpihlcglgaa
open Go.RowKit Go.Att

abbrev SnD (w:World) (v:Value) (p:Rat × Rat):Prop:=OwnDp 163 w v p
abbrev SnR (w:World) (v:Value) (l:List (Rat × Rat)):Prop:=RowO 6 SnD 34 w v l
theorem snr_ext {w w':World} {v:Value} {a:List (Rat × Rat)} (h:SnR w v a) (x:Ext w w'):SnR w' v a:=RowO.ext h OwnD.ext x
theorem etSr:ElemT Try.prog 130 29 (.slice none 0 0) 1 24:=ElemT.mk' Try.underlying130 (by kernel_rfl) rfl (by decide)
theorem kdSn {e':TypeId} (h:163≠e'):Kd e' SnD:=kdD h
theorem kdSr {e':TypeId} (h:163≠e') (h2:34≠e'):Kd e' SnR:=kdO h2 (kdSn h)
set_option maxRecDepth 100000 in
set_option maxHeartbeats 40000000 in
set_option linter.unusedSimpArgs false in
theorem through_any {w:World} {v0 v1:Value} {n:Nt Rat} {x:List (Rat × Rat)} (hv:RdNet QnN w v0 n) (hx:RdRow 6 SnD w v1 x) (hl:lit n) (hs:∀ l∈n.2,SzL l) (hxs:SzR 8 x) (hxl:x.length≤34):
  Calls Try.prog 73 #[v0,v1] w (Gives w fun v' w'=>∃ o,v'=.tuple #[o,.int .i64 (thrE n x)]∧(thrE n x≠0→o=.slice none 0 0)∧(thrE n x=0→OwnRow 1 SnR 29 0 w' o (thrL n.2 x (n.2.length+1)))):=by
 refine via fun R hR=>?_
 obtain ⟨z,ls⟩:=n
 have HWI:Hid (∀ w',Ext w w'→Calls Try.prog 115 #[v0] w' (Gives w' fun v' _=>∃ a m c,v'=.tuple #[.slice a m c,.int .i64 (if 0 < wds ls z then 0 else 4)])):=fun w' x=>widths_any (hv.ext OwnQ.ext x) hl
 obtain ⟨a,c,rfl,hlc,hcm,hr⟩:=hv.op
 have HV:=Lib.hid hr
 have HZ:Hid (ls.length≤3):=hl.2.1
 have HZ4:Hid (z≤4):=hl.1
 have HLT:Hid (∀ l∈ls,litL l):=hl.2.2
 have HSL:Hid (∀ l∈ls,SzL l):=hs
 have HXS:Hid (SzR 8 x):=hxs
 have HXL:Hid (x.length≤34):=hxl
 obtain ⟨ax,cx,rfl,hxc,hxm⟩:=hx.shape
 have HX:=Lib.hid hx
 dsimp only at hlc hcm HV HWI hR
 unfold maxLen at hcm hxm
 clear hv hr hl hs hx hxs
 obtain ⟨w1,hw1,b1,c1,-,-⟩:=bx1 w [.int .i64 z,.slice a ls.length c] 128
 have HW:=Lib.hid hw1
 have C1:=Lib.hid c1
 obtain ⟨j0,j1⟩:=c1.c2
 clear hw1 c1
 go_enter Try.func73,Try.ntmps73
 go_upto_region 1 with (fail)
 rw [← HW.out]
 clear HW
 go_wp2_with fail
 refine (HWI.out _ b1).mono ?_
 rintro e w2 ⟨_,rfl,b2,ad,md,cd,rfl⟩
 clear j0 j1 HWI
 obtain ⟨j0,j1⟩:=(C1.out.ext b2).c2
 by_cases hwd:0 < wds ls z
 ·rw [if_pos hwd]
  have HWD:=Lib.hid hwd
  by_cases hxz:(x.length:Int)=z
  ·have HXZ:=Lib.hid hxz
   have hne:((x.length:Int) != z)=false:=by rw [hxz];exact bne_self_eq_false _
   clear hwd hxz
   go_upto_region 6 with (fail)
   clear hne
   go_wp2_with fail
   clear j0 j1
   go_loopw [43] (fun t wr=>∃ k:Nat,t=.int .i64 k∧k≤x.length∧Ext w2 wr∧Hid (∀ s∈x.take k,s.1≤s.2)) (fun t _=>x.length - (intOf t).toNat)
   case atStart=>exact ⟨0,rfl,Nat.zero_le _,Ext.refl _,by rw [List.take_zero];exact fun s h=>by cases h⟩
   case round=>
    obtain ⟨k,rfl,hk,hxr,hA⟩:=hrel
    obtain ⟨w3,hw3⟩:∃ w0:World,w0=wr:=⟨_,rfl⟩
    subst hw3
    by_cases hkl:k < x.length
    ·have hd:decide ((k:Int) < (x.length:Int))=true:=decide_eq_true (by omega)
     have HJ1:IntKind.i64.wrap ((k:Int)+1)=((k+1:Nat):Int):=by rw [IntKind.wrap_i64];omega
     have HI2:(0:Int)≤(k:Int)∧(k:Int) < (x.length:Int):=⟨by omega,by omega⟩
     obtain ⟨b,off,cs,rfl,hcl,hT,hc⟩:=HX.out.at (by decide) k hkl
     obtain ⟨y0,y1,y2,y3,y4,y5,rfl,hq1,hq2⟩:=cells_DO hT
     have hb3:=Ext.trans b1 (Ext.trans b2 hxr)
     obtain ⟨e0,e1,e2,e3,e4,e5⟩:=((Bo.of hc).ext hb3).c6
     obtain ⟨p0,p1,p2,p3,p4,p5,p6,rfl,rfl,rfl⟩:=RdQ.op3 hq1.rd
     obtain ⟨r0,r1,r2,r3,r4,r5,r6,rfl,rfl,rfl⟩:=RdQ.op3 hq2.rd
     obtain ⟨w4,hw4,b4,c4,-,-⟩:=bx1 w3 [.bool p0,.slice p1 p2 p3,.slice p4 p5 p6,.bool r0,.slice r1 r2 r3,.slice r4 r5 r6] 34
     have HW:=Lib.hid hw4
     have HCK:Hid (Calls Try.prog 26 #[.agg #[.bool p0,.slice p1 p2 p3,.slice p4 p5 p6,.bool r0,.slice r1 r2 r3,.slice r4 r5 r6]] w4 (Gives w4 fun v' _=>v'=.bool (decide ((x[k].1 - x[k].2).num.sign≤0)))):=scheck_any (RdD.ext (OwnD.rd (OwnD.mk6 hq1 hq2)) (Ext.trans hb3 b4)) ((HXS.out _ (List.getElem_mem hkl)).1.le (by decide)) ((HXS.out _ (List.getElem_mem hkl)).2.le (by decide))
     obtain ⟨k0,k1,k2,k3,k4,k5⟩:=c4.c6
     have HTK:Hid (x.take (k+1)=x.take k ++ [x[k]]):=(List.take_append_getElem hkl).symm
     have HMM:Hid (x[k]∈x):=List.getElem_mem hkl
     clear hT hc hq1 hq2 c4 hw4 hcl
     go_upto_region 9 with (fail)
     rw [← HW.out]
     clear HW e0 e1 e2 e3 e4 e5
     generalize x[k]=s at*
     by_cases hck:s.1≤s.2
     ·have hd9:decide ((s.1 - s.2).num.sign≤0)=true:=decide_eq_true (sign_le.2 hck)
      rw [hd9] at HCK
      clear hd9
      go_wp2_with fail
      refine HCK.out.mono ?_
      rintro e w5 ⟨_,rfl,b5,rfl⟩
      clear HCK k0 k1 k2 k3 k4 k5
      go_wp2_with fail
      go_roundw
      case rel=>exact ⟨k+1,by go_num,by omega,Ext.trans hxr (Ext.trans b4 b5),by rw [HTK.out];exact fun u hu=>(List.mem_append.1 hu).elim (fun h=>hA.out u h) fun h=>by rw [List.mem_singleton.1 h];exact hck⟩
      case measure=>simp [intOf] <;> omega
     ·have hd9:decide ((s.1 - s.2).num.sign≤0)=false:=decide_eq_false fun h=>hck (sign_le.1 h)
      rw [hd9] at HCK
      clear hd9
      have HE:Hid (thrE (z,ls) x=4):=by
       show _=_
       unfold thrE
       rw [if_pos HWD.out,if_pos HXZ.out,if_neg fun h=>hck (h s HMM.out)]
      rw [HE.out] at hR
      clear hck HE
      go_wp2_with fail
      refine HCK.out.mono ?_
      rintro e w5 ⟨_,rfl,b5,rfl⟩
      clear HCK k0 k1 k2 k3 k4 k5
      go_wp2_with fail
      exact hR.out _ _ (Gives.mk (Ext.trans hb3 (Ext.trans b4 b5)) ⟨_,rfl,fun _=>rfl,fun h=>absurd h (by decide)⟩)
    ·obtain rfl:k=x.length:=by omega
     have hd:decide ((x.length:Int) < (x.length:Int))=false:=decide_eq_false (by omega)
     rw [List.take_length] at hA
     have HE:Hid (thrE (z,ls) x=0):=by
      show _=_
      unfold thrE
      rw [if_pos HWD.out,if_pos HXZ.out,if_pos hA.out]
     rw [HE.out] at hR
     clear HE hA hk
     have hb3:=Ext.trans b1 (Ext.trans b2 hxr)
     go_upto_region 12 with (fail)
     clear hd
     go_cut [10] (fun s10 wx=>Ext w3 wx∧Hid (OwnRow 6 SnD 34 w3.heap.size wx s10 x))
     case first=>
      go_wp2_with (at_builtin;refine append_rowAL (l:=[]) (m:=x) et17D (kdSn (by decide)) (by rfl) _ _ (by rfl) w3.heap.size (by rfl) (OwnRow.nil _ _ _) (by rfl) (HX.out.ext OwnD.ext hb3) (by have:=HXL.out;simp;omega) (by have:=HXL.out;unfold maxLen;simp;omega) (Nat.le_refl _) ?_;intro v4 w4 o4 b4 g4)
      go_meet
      exact ⟨b4,o4⟩
     case rest=>
      obtain ⟨hX4,hO4⟩:=hcut
      obtain ⟨w4,hw4⟩:∃ w0:World,w0=wc:=⟨_,rfl⟩
      subst hw4
      obtain ⟨a4,k4,rfl,-,-⟩:=hO4.out.rd.shape
      go_upto_region 13 with (fail)
      go_cut [11] (fun s11 wx=>Ext w4 wx∧Hid (OwnRow 1 SnR 29 w1.heap.size wx s11 (thrL ls x 1)))
      case first=>
       go_wp2_with fail
       go_meet
       exact ⟨Ext.alloc _ _,Lib.hid (OwnRow.litOne (T:=SnR) snr_ext _ (w:=w4) (cs:=[.slice a4 x.length k4]) (y:=x) (Below.size (Ext.trans b2 (Ext.trans hxr hX4))) rfl ⟨_,_,rfl,hO4.out.mono (Nat.zero_le _)⟩)⟩
      case rest=>
       obtain ⟨hX5,hO5⟩:=hcut
       obtain ⟨w5,hw5⟩:∃ w0:World,w0=wc:=⟨_,rfl⟩
       subst hw5
       have X15:=Lib.hid (Ext.trans b2 (Ext.trans hxr (Ext.trans hX4 hX5)))
       obtain ⟨j0,j1⟩:=(C1.out.ext X15.out).c2
       go_wp2_with fail
       clear j0 j1
       go_loopw [10,11,58] (fun vx vo t wr=>∃ i:Nat,t=.int .i64 i∧i≤ls.length∧Hid (Ext w1 wr)∧Hid (OwnRow 6 SnD 34 0 wr vx (xat ls x i))∧Hid (OwnRow 1 SnR 29 w1.heap.size wr vo (thrL ls x (i+1)))) (fun _ _ t _=>ls.length - (intOf t).toNat)
       case atStart=>exact ⟨0,rfl,Nat.zero_le _,X15,(hO4.out.mono (Nat.zero_le _)).ext OwnD.ext hX5,hO5⟩
       case round=>
        clear hO4 hO5 hX4 hX5 X15 hb3 hxr b2
        obtain ⟨i,rfl,hi,hX,hOx,hOo⟩:=hrel
        obtain ⟨wo,hwo⟩:∃ w0:World,w0=wr:=⟨_,rfl⟩
        subst hwo
        have hi3:=HZ.out
        by_cases hlt:i < ls.length
        ·have hd:decide ((i:Int) < (ls.length:Int))=true:=decide_eq_true (by omega)
         have HJ1:IntKind.i64.wrap ((i:Int)+1)=((i+1:Nat):Int):=by rw [IntKind.wrap_i64];omega
         have HI2:(0:Int)≤(i:Int)∧(i:Int) < (ls.length:Int):=⟨by omega,by omega⟩
         have hxw:=Ext.trans b1 hX.out
         obtain ⟨bL,oL,aw,mw,ab,mb,ag,mg,hae,hbo,hRW,hRB,hRG⟩:=(HV.out.ext (fun h x=>RdLay.ext h OwnQ.ext x) hxw).lay i hlt
         subst hae
         have HLL:Hid (litL ls[i]):=HLT.out _ (List.getElem_mem hlt)
         have HSS:Hid (SzL ls[i]):=HSL.out _ (List.getElem_mem hlt)
         have HXA:=Lib.hid (xat_succ (x:=x) hlt)
         have HXI:=Lib.hid (xat_len HWD.out HXZ.out i hi)
         have HXC:Hid (SzR 348 (xat ls x i)):=(xat_sz HWD.out HXZ.out HZ4.out HLT.out HSL.out HXS.out i hi).le (cN_le (by omega))
         have HW4:Hid (wds (ls.take i) z≤4):=wds_le HWD.out HZ4.out HLT.out i hi
         have HCS:Hid _:=wdt_cases (wdt_at HWD.out i hlt).2
         obtain ⟨l,hl⟩:∃ l,ls[i]=l:=⟨_,rfl⟩
         rw [hl] at hbo hRW hRB hRG HLL HSS HXA HCS
         clear hl
         obtain ⟨g,hg⟩:∃ g,xat ls x i=g:=⟨_,rfl⟩
         have HGE:=Lib.hid hg
         rw [hg] at hOx HXA HXI HXC
         clear hg
         generalize wds (ls.take i) z=wn at*
         have HXN:Hid (g.length≤4):=by have:=HXI.out;have:=HW4.out;show _≤_;omega
         have HRW:=Lib.hid hRW
         have HRB:=Lib.hid hRB
         have HRG:=Lib.hid hRG
         obtain ⟨u0,u1,u2,u3⟩:=hbo.c4
         obtain ⟨w6,hw6,b6,c6,-,-⟩:=bx1 wo [.int .i64 l.K,.slice aw l.W.length mw,.slice ab l.B.length mb,.slice ag l.G.length mg] 202
         have HW:=Lib.hid hw6
         have C6:=Lib.hid c6
         obtain ⟨ax2,cx2,rfl,-,-⟩:=hOx.out.rd.shape
         obtain ⟨ao2,co2,rfl,-,-⟩:=hOo.out.rd.shape
         clear hw6 c6 hRW hRB hRG hbo
         go_upto_region 17 with (fail)
         rw [← HW.out]
         clear HW u0 u1 u2 u3
         obtain ⟨u0,u1,u2,u3⟩:=C6.out.c4
         go_upto_block 4 with (fail)
         have hOx6:=Lib.hid (hOx.out.ext OwnD.ext b6)
         go_cut [14] (fun s14 wx=>Ext w6 wx∧Hid (OwnRow 6 SnD 34 0 wx s14 (stepS l g)))
         case first=>
          skip
          ·rcases HCS.out with ⟨h1,hBW,hrw,-,-⟩ | ⟨h1,-⟩ | ⟨h1,hgi,-,-⟩
           ·have he1:(l.K == 1)=true:=by rw [h1];rfl
            obtain ⟨hyl,hyt⟩:=stepS_one (x:=g) h1 hBW
            have HYL:=Lib.hid hyl
            have HYT:=Lib.hid hyt
            have HBW:=Lib.hid hBW
            have HRL:=Lib.hid hrw
            obtain ⟨ys,hys⟩:∃ ys,stepS l g=ys:=⟨_,rfl⟩
            rw [hys] at HYL HYT
            have HYS:=Lib.hid hys
            clear hyl hyt hBW hrw hys h1
            generalize l.K=K at*
            go_wp2_with fail
            clear u0 u1 u2 u3 he1
            go_loopw [14,100] (fun vy t wr=>∃ j:Nat,t=.int .i64 j∧j≤l.W.length∧Hid (Ext w6 wr)∧Hid (OwnRow 6 SnD 34 w6.heap.size wr vy (ys.take j))) (fun _ t _=>l.W.length - (intOf t).toNat)
            case atStart=>exact ⟨0,rfl,Nat.zero_le _,Ext.refl _,by rw [List.take_zero];exact OwnRow.nil _ _ _⟩
            case round=>
             obtain ⟨j,rfl,hj,hX7,hO7⟩:=hrel
             obtain ⟨w7,hw7⟩:∃ w0:World,w0=wr:=⟨_,rfl⟩
             subst hw7
             have hlw:=HLL.out.1.1
             obtain ⟨ay,ky,hvy,-,-⟩:=hO7.out.rd.shape
             generalize (ys.take j).length=ny at hvy
             subst hvy
             by_cases hjl:j < l.W.length
             ·have hjb:j < l.B.length:=by have:=HBW.out;omega
              have hd1:decide ((j:Int) < (l.W.length:Int))=true:=decide_eq_true (by omega)
              have HK1:IntKind.i64.wrap ((j:Int)+1)=((j+1:Nat):Int):=by rw [IntKind.wrap_i64];omega
              have HK2:(0:Int)≤(j:Int)∧(j:Int) < (l.W.length:Int):=⟨by omega,by omega⟩
              have HK3:(0:Int)≤(j:Int)∧(j:Int) < (l.B.length:Int):=⟨by omega,by omega⟩
              have hx67:=Ext.trans b6 hX7.out
              obtain ⟨bW,oW,xr,mr,hxe,hcell,hrr⟩:=(HRW.out.ext (fun h x=>RowT.ext h OwnQ.ext x) hx67).row j hjl
              subst hxe
              obtain ⟨bB,oB,cs,hbe,hcl,hT,hc⟩:=(HRB.out.ext OwnQ.ext hx67).at (by decide) j hjb
              subst hbe
              obtain ⟨q1,q2,q3,q4,rfl⟩:=cells_Q (OwnQ.rd hT)
              obtain ⟨e0,e1,e2⟩:=(Bo.of hc).c3
              have HQ:Hid (OwnQ 163 0 w7 (.agg #[.bool (decide (l.B[j].num < 0)),.slice q1 (limbs l.B[j].num.natAbs).length q2,.slice q3 (dens l.B[j].den).length q4]) l.B[j]):=hT
              have HSN:=Lib.hid (HYT.out j hjl hjb)
              have HWE:=Lib.hid (sweigh_any (RdRow.mono hrr fun _ _ h=>OwnQ.rd h) (RdRow.mono ((hOx6.out.ext OwnD.ext hX7.out).rd) fun _ _ h=>OwnD.rd h) (by have h1:=HRL.out _ (List.getElem_mem hjl);have h2:=HXI.out;omega) HQ.out (HSS.out.1 _ (List.getElem_mem hjl)) HXC.out (HSS.out.2 _ (List.getElem_mem hjb)) (by decide) (by have h1:=HRL.out _ (List.getElem_mem hjl);have h2:=HW4.out;omega))
              clear hT hc hcl hrr HQ
              generalize Value.bool (decide (l.B[j].num < 0))=z0 at*
              generalize Value.slice q1 (limbs l.B[j].num.natAbs).length q2=z1 at*
              generalize Value.slice q3 (dens l.B[j].den).length q4=z2 at*
              generalize wfold (l.W[j].zip g) (l.B[j],l.B[j])=f at*
              generalize l.W[j]=rr at*
              obtain ⟨v0',v1',v2',v3'⟩:=(C6.out.ext hX7.out).c4
              have HYK:Hid ((ys.take j).length≤4):=by show _≤_;rw [List.length_take];have:=HYL.out;omega
              generalize ys.take j=yj at*
              generalize hy2:ys.take (j+1)=yj2 at*
              have HY2:=Lib.hid hy2
              clear hy2
              go_upto_region 35 with (fail)
              go_wp2_with fail
              refine HWE.out.mono ?_
              rintro e w8 ⟨_,rfl,b8,o,rfl,O8⟩
              clear e0 e1 e2 hcell v0' v1' v2' v3' HWE
              obtain ⟨t0,t1,t2,t3,t4,t5,t6,t7,t8,t9,t10,t11,t12,t13,rfl,P8⟩:=O8.op
              obtain ⟨w9,hw9,b9,c9,-,-⟩:=bx1 w8 [.bool t0,.slice t1 t2 t3,.slice t4 t5 t6,.bool t7,.slice t8 t9 t10,.slice t11 t12 t13] 34
              have HW9:=Lib.hid hw9
              obtain ⟨k0,k1,k2,k3,k4,k5⟩:=c9.c6
              clear hw9 c9
              go_upto_region 36 with (fail)
              rw [← HW9.out]
              clear HW9
              have hX9:=Ext.trans hX7.out (Ext.trans b8 b9)
              have hO9:=Lib.hid (hO7.out.ext OwnD.ext (Ext.trans b8 b9))
              go_wp2_with (at_builtin;refine append_rowL (y:=f) et17D (kdSn (by decide)) (by rfl) _ _ (by rfl) w6.heap.size (by rfl) _ (by rfl) hO9.out rfl (P8.out.ext b9) (Below.size hX9) (by have:=HYK.out;omega) (by have:=HYK.out;unfold maxLen;omega) ?_;intro v10 w10 o10 b10 g10)
              go_roundw
              case rel=>exact ⟨j+1,by go_num,by omega,Below.trans hX9 b10,by rw [HY2.out,HSN.out];exact o10⟩
              case measure=>simp [intOf] <;> omega
             ·obtain rfl:j=l.W.length:=by omega
              have hd1:decide ((l.W.length:Int) < (l.W.length:Int))=false:=decide_eq_false (by omega)
              rw [List.take_of_length_le (by have:=HYL.out;omega)] at hO7
              go_wp2_with fail
              go_meet
              exact ⟨hX7.out,by rw [HYS.out];exact hO7.out.mono (Nat.zero_le _)⟩
           ·have he1:(l.K == 1)=false:=beq_false_of_ne (by omega)
            have he2:(l.K == 2)=true:=by rw [h1];rfl
            obtain ⟨hyl,hyt⟩:=stepS_two (x:=g) h1
            have HYL:=Lib.hid hyl
            have HYT:=Lib.hid hyt
            obtain ⟨ys,hys⟩:∃ ys,stepS l g=ys:=⟨_,rfl⟩
            rw [hys] at HYL HYT
            have HYS:=Lib.hid hys
            clear hyl hyt hys h1
            generalize l.K=K at*
            go_wp2_with fail
            clear u0 u1 u2 u3 he1 he2
            go_loopw [14,125] (fun vy t wr=>∃ j:Nat,t=.int .i64 j∧j≤g.length∧Hid (Ext w6 wr)∧Hid (OwnRow 6 SnD 34 w6.heap.size wr vy (ys.take j))) (fun _ t _=>g.length - (intOf t).toNat)
            case atStart=>exact ⟨0,rfl,Nat.zero_le _,Ext.refl _,by rw [List.take_zero];exact OwnRow.nil _ _ _⟩
            case round=>
             obtain ⟨j,rfl,hj,hX7,hO7⟩:=hrel
             obtain ⟨w7,hw7⟩:∃ w0:World,w0=wr:=⟨_,rfl⟩
             subst hw7
             have hgl:=HXN.out
             obtain ⟨ay,ky,hvy,-,-⟩:=hO7.out.rd.shape
             generalize (ys.take j).length=ny at hvy
             subst hvy
             by_cases hjl:j < g.length
             ·have hd1:decide ((j:Int) < (g.length:Int))=true:=decide_eq_true (by omega)
              have HK1:IntKind.i64.wrap ((j:Int)+1)=((j+1:Nat):Int):=by rw [IntKind.wrap_i64];omega
              have HK2:(0:Int)≤(j:Int)∧(j:Int) < (g.length:Int):=⟨by omega,by omega⟩
              obtain ⟨bB,oB,cs,hbe,hcl,hT,hc⟩:=(hOx6.out.ext OwnD.ext hX7.out).rd.at (by decide) j hjl
              subst hbe
              obtain ⟨y0,y1,y2,y3,y4,y5,rfl,hq1,hq2⟩:=cells_DO hT
              obtain ⟨e0,e1,e2,e3,e4,e5⟩:=(Bo.of hc).c6
              obtain ⟨p0,p1,p2,p3,p4,p5,p6,rfl,rfl,rfl⟩:=RdQ.op3 hq1.rd
              obtain ⟨r0,r1,r2,r3,r4,r5,r6,rfl,rfl,rfl⟩:=RdQ.op3 hq2.rd
              obtain ⟨w8,hw8,b8,c8,-,-⟩:=bx1 w7 [.bool p0,.slice p1 p2 p3,.slice p4 p5 p6,.bool r0,.slice r1 r2 r3,.slice r4 r5 r6] 34
              have HW8:=Lib.hid hw8
              have HRE:=Lib.hid (srelu_own (OwnD.ext (OwnD.mk6 hq1 hq2) b8) ((HXC.out _ (List.getElem_mem hjl)).1.le (by decide)) ((HXC.out _ (List.getElem_mem hjl)).2.le (by decide)))
              obtain ⟨k0,k1,k2,k3,k4,k5⟩:=c8.c6
              have HSN:=Lib.hid (HYT.out j hjl)
              clear hT hc hcl hq1 hq2 c8 hw8
              have HYK:Hid ((ys.take j).length≤4):=by show _≤_;rw [List.length_take];have:=HYL.out;omega
              generalize ys.take j=yj at*
              generalize hy2:ys.take (j+1)=yj2 at*
              have HY2:=Lib.hid hy2
              clear hy2
              go_upto_region 42 with (fail)
              rw [← HW8.out]
              clear HW8 e0 e1 e2 e3 e4 e5
              generalize mx g[j].1 0=m1 at*
              generalize mx g[j].2 0=m2 at*
              go_wp2_with fail
              refine HRE.out.mono ?_
              rintro e w9 ⟨v9,rfl,b9,O9⟩
              clear HRE k0 k1 k2 k3 k4 k5
              obtain ⟨t0,t1,t2,t3,t4,t5,t6,t7,t8,t9,t10,t11,t12,t13,rfl,P9⟩:=O9.op
              have hX9:=Ext.trans hX7.out (Ext.trans b8 b9)
              have hO9:=Lib.hid (hO7.out.ext OwnD.ext (Ext.trans b8 b9))
              go_wp2_with (at_builtin;refine append_rowL (y:=(m1,m2)) et17D (kdSn (by decide)) (by rfl) _ _ (by rfl) w6.heap.size (by rfl) _ (by rfl) hO9.out rfl P9.out (Below.size hX9) (by have:=HYK.out;omega) (by have:=HYK.out;unfold maxLen;omega) ?_;intro v10 w10 o10 b10 g10)
              go_roundw
              case rel=>exact ⟨j+1,by go_num,by omega,Below.trans hX9 b10,by rw [HY2.out,HSN.out];exact o10⟩
              case measure=>simp [intOf] <;> omega
             ·obtain rfl:j=g.length:=by omega
              have hd1:decide ((g.length:Int) < (g.length:Int))=false:=decide_eq_false (by omega)
              rw [List.take_of_length_le (by have:=HYL.out;omega)] at hO7
              go_wp2_with fail
              go_meet
              exact ⟨hX7.out,by rw [HYS.out];exact hO7.out.mono (Nat.zero_le _)⟩
           ·have he1:(l.K == 1)=false:=beq_false_of_ne (by omega)
            have he2:(l.K == 2)=false:=beq_false_of_ne (by omega)
            obtain ⟨hyl,hyt⟩:=stepS_three (x:=g) h1
            have HYL:=Lib.hid hyl
            have HYT:=Lib.hid hyt
            have HGI:=Lib.hid hgi
            obtain ⟨ys,hys⟩:∃ ys,stepS l g=ys:=⟨_,rfl⟩
            rw [hys] at HYL HYT
            have HYS:=Lib.hid hys
            clear hyl hyt hys h1 hgi
            generalize l.K=K at*
            go_wp2_with fail
            clear u0 u1 u2 u3 he1 he2
            go_loopw [14,67] (fun vy t wr=>∃ j:Nat,t=.int .i64 j∧j≤l.G.length∧Hid (Ext w6 wr)∧Hid (OwnRow 6 SnD 34 w6.heap.size wr vy (ys.take j))) (fun _ t _=>l.G.length - (intOf t).toNat)
            case atStart=>exact ⟨0,rfl,Nat.zero_le _,Ext.refl _,by rw [List.take_zero];exact OwnRow.nil _ _ _⟩
            case round=>
             obtain ⟨j,rfl,hj,hX7,hO7⟩:=hrel
             obtain ⟨w7,hw7⟩:∃ w0:World,w0=wr:=⟨_,rfl⟩
             subst hw7
             have hlg:=HLL.out.1.2.2
             obtain ⟨ay,ky,hvy,-,-⟩:=hO7.out.rd.shape
             generalize (ys.take j).length=ny at hvy
             subst hvy
             by_cases hjl:j < l.G.length
             ·have hd1:decide ((j:Int) < (l.G.length:Int))=true:=decide_eq_true (by omega)
              have HK1:IntKind.i64.wrap ((j:Int)+1)=((j+1:Nat):Int):=by rw [IntKind.wrap_i64];omega
              have HK2:(0:Int)≤(j:Int)∧(j:Int) < (l.G.length:Int):=⟨by omega,by omega⟩
              have hx67:=Ext.trans b6 hX7.out
              obtain ⟨bG,oG,xr,mr,hxe,hcell,hrr⟩:=(HRG.out.ext (fun h x=>RowT.ext h IntT.ext x) hx67).row j hjl
              subst hxe
              have HSN:=Lib.hid (HYT.out j hjl)
              have HG4:=Lib.hid (HLL.out.2.2 _ (List.getElem_mem hjl))
              have HGR:=Lib.hid (HGI.out _ (List.getElem_mem hjl))
              have HRR:=Lib.hid hrr
              generalize l.G[j]=gg at*
              clear hrr
              have HYK:Hid ((ys.take j).length≤4):=by show _≤_;rw [List.length_take];have:=HYL.out;omega
              generalize ys.take j=yj at*
              generalize hy2:ys.take (j+1)=yj2 at*
              have HY2:=Lib.hid hy2
              clear hy2
              go_upto_region 23 with (fail)
              clear hcell
              go_wp2_with fail
              go_loopw [23,73] (fun vm t wr=>∃ p:Nat,t=.int .i64 p∧p≤gg.length∧Hid (Ext w7 wr)∧Hid (OwnRow 6 SnD 34 w7.heap.size wr vm ((pick g gg).take p))) (fun _ t _=>gg.length - (intOf t).toNat)
              case atStart=>exact ⟨0,rfl,Nat.zero_le _,Ext.refl _,by rw [List.take_zero];exact OwnRow.nil _ _ _⟩
              case round=>
               obtain ⟨p,rfl,hp,hX8,hO8⟩:=hrel
               obtain ⟨w8,hw8⟩:∃ w0:World,w0=wr:=⟨_,rfl⟩
               subst hw8
               have hgl:=HG4.out
               by_cases hpl:p < gg.length
               ·have hd2:decide ((p:Int) < (gg.length:Int))=true:=decide_eq_true (by omega)
                have HP1:IntKind.i64.wrap ((p:Int)+1)=((p+1:Nat):Int):=by rw [IntKind.wrap_i64];omega
                have HP2:(0:Int)≤(p:Int)∧(p:Int) < (gg.length:Int):=⟨by omega,by omega⟩
                obtain ⟨ai,oi,rfl⟩:=HRR.out.some_atI hpl
                have hci:=Ext.cell hX8.out (HRR.out.int p hpl)
                obtain ⟨hz0,hz1⟩:=HGR.out.2 _ (List.getElem_mem hpl)
                obtain ⟨q,hq⟩:=Int.eq_ofNat_of_zero_le hz0
                have hqg:q < g.length:=by have:=HXI.out;omega
                have HPT:=Lib.hid (pick_take hpl hq hqg)
                rw [hq] at hci
                have HP3:(0:Int)≤(q:Int)∧(q:Int) < (g.length:Int):=⟨by omega,by omega⟩
                obtain ⟨bB,oB,cs,hbe,hcl,hT,hc⟩:=(hOx6.out.ext OwnD.ext (Ext.trans hX7.out hX8.out)).rd.at (by decide) q hqg
                subst hbe
                obtain ⟨y0,y1,y2,y3,y4,y5,rfl,hq1,hq2⟩:=cells_DO hT
                obtain ⟨e0,e1,e2,e3,e4,e5⟩:=(Bo.of hc).c6
                obtain ⟨_,_,_,_,_,_,_,rfl,rfl,rfl⟩:=RdQ.op3 hq1.rd
                obtain ⟨_,_,_,_,_,_,_,rfl,rfl,rfl⟩:=RdQ.op3 hq2.rd
                have HD:=Lib.hid (OwnD.mk6 hq1 hq2)
                clear hT hc hcl hq1 hq2 hz0 hz1 hq
                have HPK:Hid (((pick g gg).take p).length≤4):=by show _≤_;rw [List.length_take];omega
                generalize (pick g gg).take p=pj at*
                generalize hy3:(pick g gg).take (p+1)=pj2 at*
                have HY3:=Lib.hid hy3
                clear hy3
                generalize g[q]=gq at*
                obtain ⟨am,km,rfl,-,-⟩:=hO8.out.rd.shape
                go_wp2_with (at_builtin;refine append_rowL (y:=gq) et17D (kdSn (by decide)) (by rfl) _ _ (by rfl) w7.heap.size (by rfl) _ (by rfl) hO8.out rfl HD.out (Below.size hX8.out) (by have:=HPK.out;omega) (by have:=HPK.out;unfold maxLen;omega) ?_;intro v10 w10 o10 b10 g10)
                go_roundw
                case rel=>exact ⟨p+1,by go_num,by omega,Below.trans hX8.out b10,by rw [HY3.out,HPT.out];exact o10⟩
                case measure=>simp [intOf] <;> omega
               ·obtain rfl:p=gg.length:=by omega
                have hd2:decide ((gg.length:Int) < (gg.length:Int))=false:=decide_eq_false (by omega)
                rw [List.take_of_length_le (by rw [pick_len];exact Nat.le_refl _)] at hO8
                have hpp:0 < (pick g gg).length:=by rw [pick_len];exact List.length_pos_iff.2 HGR.out.1
                have HMX:=smax_own hO8.out.rd hpp (fun s hs=>⟨((HXC.out.pick (by decide) gg) s hs).1.le (by decide),((HXC.out.pick (by decide) gg) s hs).2.le (by decide)⟩)
                rw [← getD_lt (d:=(0,0)) hpp] at HMX
                replace HMX:=Lib.hid HMX
                clear hpp
                generalize mxs (pick g gg) ((pick g gg).getD 0 (0,0))=f at*
                generalize pick g gg=pk at*
                obtain ⟨am,km,rfl,-,-⟩:=hO8.out.rd.shape
                go_upto_region 28 with (fail)
                go_wp2_with fail
                refine HMX.out.mono ?_
                rintro e w9 ⟨_,rfl,b9,o,rfl,O9⟩
                clear HMX
                obtain ⟨t0,t1,t2,t3,t4,t5,t6,t7,t8,t9,t10,t11,t12,t13,rfl,P9⟩:=O9.op
                obtain ⟨w10,hw10,b10,c10,-,-⟩:=bx1 w9 [.bool t0,.slice t1 t2 t3,.slice t4 t5 t6,.bool t7,.slice t8 t9 t10,.slice t11 t12 t13] 34
                have HW10:=Lib.hid hw10
                obtain ⟨k0,k1,k2,k3,k4,k5⟩:=c10.c6
                clear hw10 c10
                go_upto_region 29 with (fail)
                rw [← HW10.out]
                clear HW10
                have hX10:=Ext.trans hX7.out (Ext.trans hX8.out (Ext.trans b9 b10))
                have hO10:=Lib.hid (hO7.out.ext OwnD.ext (Ext.trans hX8.out (Ext.trans b9 b10)))
                go_wp2_with (at_builtin;refine append_rowL (y:=f) et17D (kdSn (by decide)) (by rfl) _ _ (by rfl) w6.heap.size (by rfl) _ (by rfl) hO10.out rfl (P9.out.ext b10) (Below.size hX10) (by have:=HYK.out;omega) (by have:=HYK.out;unfold maxLen;omega) ?_;intro v11 w11 o11 b11 g11)
                go_roundw
                case rel=>exact ⟨j+1,by go_num,by omega,Below.trans hX10 b11,by rw [HY2.out,HSN.out];exact o11⟩
                case measure=>simp [intOf] <;> omega
             ·obtain rfl:j=l.G.length:=by omega
              have hd1:decide ((l.G.length:Int) < (l.G.length:Int))=false:=decide_eq_false (by omega)
              rw [List.take_of_length_le (by have:=HYL.out;omega)] at hO7
              go_wp2_with fail
              go_meet
              exact ⟨hX7.out,by rw [HYS.out];exact hO7.out.mono (Nat.zero_le _)⟩
         case rest=>
          obtain ⟨hX7,hO7⟩:=hcut
          obtain ⟨w7,hw7⟩:∃ w0:World,w0=wc:=⟨_,rfl⟩
          subst hw7
          rw [← HXA.out] at hO7
          have HTS:=Lib.hid (thrL_succ (ls:=ls) (x:=x) (k:=i+1))
          have HTL:Hid ((thrL ls x (i+1)).length≤4):=by show _≤_;rw [thrL_len];omega
          generalize thrL ls x (i+1)=tl at*
          generalize hy3:thrL ls x (i+1+1)=tl2 at*
          have HY3:=Lib.hid hy3
          clear hy3
          obtain ⟨ys,hys⟩:∃ ys,xat ls x (i+1)=ys:=⟨_,rfl⟩
          have HYE:=Lib.hid hys
          rw [hys] at hO7 HTS
          clear hys u0 u1 u2 u3
          obtain ⟨ay,ky,rfl,-,-⟩:=hO7.out.rd.shape
          have hX17:=Ext.trans hX.out (Ext.trans b6 hX7)
          have hO8:=Lib.hid (hOo.out.ext snr_ext (Ext.trans b6 hX7))
          have HEL:Hid (SnR w7 (.agg #[.slice ay ys.length ky]) ys):=⟨_,_,rfl,hO7.out⟩
          go_wp2_with (at_builtin;refine append_rowL (y:=ys) etSr (kdSr (by decide) (by decide)) (by rfl) _ _ (by rfl) w1.heap.size (by rfl) [.slice ay ys.length ky] (by rfl) hO8.out rfl HEL.out (Below.size hX17) (by have:=HTL.out;omega) (by have:=HTL.out;unfold maxLen;omega) ?_;intro v10 w10 o10 b10 g10)
          have HO10:Hid (OwnRow 6 SnD 34 0 w10 (.slice ay ys.length ky) ys):=by
           obtain ⟨nn,xs,hown⟩:=(hO8.out.ext snr_ext (Ext.alloc w7 (.cells #[.slice ay ys.length ky] 29))).own
           exact OwnRow.grown (hO7.out.ext OwnD.ext (Ext.alloc w7 _)) (fun _ _ h=>(kdSn (by decide)).grown h hown g10) hown (by decide) g10
          go_roundw
          case rel=>exact ⟨i+1,by go_num,by omega,Below.trans hX17 b10,by rw [HYE.out];exact HO10.out,by rw [HY3.out,HTS.out];exact o10⟩
          case measure=>simp [intOf] <;> omega
        ·obtain rfl:i=ls.length:=by omega
         have hd:decide ((ls.length:Int) < (ls.length:Int))=false:=decide_eq_false (by omega)
         go_wp2_with fail
         exact hR.out _ _ (Gives.mk (Ext.trans b1 hX.out) ⟨_,rfl,fun h=>absurd rfl h,fun _=>hOo.out.mono (Nat.zero_le _)⟩)
  ·have hne:((x.length:Int) != z)=true:=by simp [hxz]
   have HE:Hid (thrE (z,ls) x=1):=by
    show _=_
    unfold thrE
    rw [if_pos hwd,if_neg hxz]
   rw [HE.out] at hR
   clear HE hxz hwd
   go_wp2_with fail
   exact hR.out _ _ (Gives.mk (Ext.trans b1 b2) ⟨_,rfl,fun _=>rfl,fun h=>absurd h (by decide)⟩)
 ·rw [if_neg hwd]
  have HE:Hid (thrE (z,ls) x=4):=by
   show _=_
   unfold thrE
   rw [if_neg hwd]
  rw [HE.out] at hR
  clear HE hwd
  go_wp2_with fail
  exact hR.out _ _ (Gives.mk (Ext.trans b1 b2) ⟨_,rfl,fun _=>rfl,fun h=>absurd h (by decide)⟩)
end Go.Proofs.Ytnbbhpihlcglgaa
