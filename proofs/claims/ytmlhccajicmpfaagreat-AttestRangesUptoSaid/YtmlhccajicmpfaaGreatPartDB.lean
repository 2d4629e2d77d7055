/- A group of texts: PThrough, Qry -/
import Derived.Test.YtmlhccajicmpfaaGreatSq
import Derived.Test.YtmlhccajicmpfaaGreatPartDA
import Derived.Test.YtmlhccajicmpfaaGreatPartCJ
import Derived.Test.YtmlhccajicmpfaaGreatPartBH
import Derived.Test.YtmlhccajicmpfaaGreatPartBB
import Derived.Test.YtmlhccajicmpfaaGreatPartBG
import Derived.Test.YtmlhccajicmpfaaGreatPartCC
import Derived.Test.YtmlhccajicmpfaaGreatPOf15
set_option maxHeartbeats 40000000
set_option maxRecDepth 100000
set_option linter.unusedSimpArgs false
namespace Go.Proofs.YtmlhccajicmpfaaGreat
open Go.RowKit Go.Att

abbrev SnD (w:World) (v:Value) (p:Rat × Rat):Prop:=OwnDp 156 w v p
abbrev SnR (w:World) (v:Value) (l:List (Rat × Rat)):Prop:=RowO 6 SnD 41 w v l
theorem snd_ext {w w':World} {v:Value} {a:Rat × Rat} (h:SnD w v a) (x:Ext w w'):SnD w' v a:=OwnD.ext h x
theorem snr_ext {w w':World} {v:Value} {a:List (Rat × Rat)} (h:SnR w v a) (x:Ext w w'):SnR w' v a:=RowO.ext h OwnD.ext x
theorem etSr:ElemT Tryz.prog 75 73 (.slice none 0 0) 1 24:=ElemT.mk' Tryz.underlying75 kR rfl dC
theorem kdSn {e':TypeId} (h:156≠e'):Kd e' SnD:=kdD h
theorem kdSr {e':TypeId} (h:156≠e') (h2:41≠e'):Kd e' SnR:=kdO h2 (kdSn h)
theorem through_any {w:World} {v0 v1:Value} {n:Nt Rat} {x:List (Rat × Rat)} (hv:RdNet QnN w v0 n) (hx:RdRow 6 SnD w v1 x) (hl:lit n) (hs:∀ l∈n.2,SzL l) (hxs:SzR 8 x) (hxl:x.length≤34):
  Calls Tryz.prog 14 #[v0,v1] w (Gives w fun v' w'=>∃ o,v'=.tuple #[o,.int .i64 (thrE n x)]∧(thrE n x≠0→o=.slice none 0 0)∧(thrE n x=0→OwnRow 1 SnR 73 0 w' o (thrL n.2 x (n.2.length+1)))):=by
 refine via fun R hR=>?_
 obtain ⟨z,ls⟩:=n
 have HWI:Hid (∀ w',Ext w w'→Calls Tryz.prog 36 #[v0] w' (Gives w' fun v' _=>∃ a m c,v'=.tuple #[.slice a m c,.int .i64 (if 0 < wds ls z then 0 else 4)])):=fun w' x=>widths_any (hv.ext OwnQ.ext x) hl
 obtain ⟨a,c,rfl,hlc,hcm,hr⟩:=hv.op
 have HV:=qH hr
 have HZ:Hid (ls.length≤3):=hl.2.1
 have HZ4:Hid (z≤4):=hl.1
 have HLT:Hid (∀ l∈ls,litL l):=hl.2.2
 have HSL:Hid (∀ l∈ls,SzL l):=hs
 have HXS:Hid (SzR 8 x):=hxs
 have HXL:Hid (x.length≤34):=hxl
 obtain ⟨ax,cx,rfl,hxc,hxm⟩:=hx.shape
 have HX:=qH hx
 dsimp only at hlc hcm HV HWI hR
 unfold maxLen at hcm hxm
 clear hv hr hl hs hx hxs
 obtain ⟨w1,hw1,b1,c1,-,-⟩:=bx1 w [.int .i64 z,.slice a ls.length c] 47
 have HW:=qH hw1
 have C1:=qH c1
 obtain ⟨j0,j1⟩:=c1.c2
 clear hw1 c1
 go_enter Tryz.func14,Tryz.ntmps14
 go_upto_region 1 with (fail)
 rw [← HW.out]
 clear HW
 go_wp2_with fail
 refine (HWI.out _ b1).mono ?_
 rintro e w2 ⟨_,rfl,b2,ad,md,cd,rfl⟩
 clear j0 j1 HWI
 obtain ⟨j0,j1⟩:=(C1.out.ext b2).c2
 by_cases hwd:0 < wds ls z
 ·rw [if_pos hwd]
  have HWD:=qH hwd
  by_cases hxz:(x.length:Int)=z
  ·have HXZ:=qH hxz
   have hne:((x.length:Int) != z)=false:=by rw [hxz];exact bne_self_eq_false _
   clear hwd hxz
   go_upto_region 6 with (fail)
   clear hne
   go_wp2_with fail
   clear j0 j1
   go_loopw [43] (fun t wr=>∃ k:Nat,t=.int .i64 k∧k≤x.length∧Ext w2 wr∧Hid (∀ s∈x.take k,s.1≤s.2)) (fun t _=>x.length - (intOf t).toNat)
   case atStart=>exact ⟨0,rfl,Nat.zero_le _,Ext.refl _,by rw [List.take_zero];exact fun s h=>by cases h⟩
   case round=>
    obtain ⟨k,rfl,hk,hxr,hA⟩:=hrel
    obtain ⟨w3,hw3⟩:∃ w0:World,w0=wr:=⟨_,rfl⟩
    subst hw3
    by_cases hkl:k < x.length
    ·have hd:=dT ((k:Int) < (x.length:Int))
     have HJ1:IntKind.i64.wrap ((k:Int)+1)=((k+1:Nat):Int):=by rw [IntKind.wrap_i64];omega
     have HI2:(0:Int)≤(k:Int)∧(k:Int) < (x.length:Int):=⟨by omega,by omega⟩
     obtain ⟨b,off,cs,rfl,hcl,hT,hc⟩:=HX.out.at dC k hkl
     obtain ⟨y0,y1,y2,y3,y4,y5,rfl,hq1,hq2⟩:=cells_DO hT
     have hb3:=eT b1 (eT b2 hxr)
     obtain ⟨e0,e1,e2,e3,e4,e5⟩:=((Bo.of hc).ext hb3).c6
     obtain ⟨p0,p1,p2,p3,p4,p5,p6,rfl,rfl,rfl⟩:=RdQ.op3 hq1.rd
     obtain ⟨r0,r1,r2,r3,r4,r5,r6,rfl,rfl,rfl⟩:=RdQ.op3 hq2.rd
     obtain ⟨w4,hw4,b4,c4,-,-⟩:=bx1 w3 [.bool p0,.slice p1 p2 p3,.slice p4 p5 p6,.bool r0,.slice r1 r2 r3,.slice r4 r5 r6] 41
     have HW:=qH hw4
     have HCK:Hid (Calls Tryz.prog 37 #[.agg #[.bool p0,.slice p1 p2 p3,.slice p4 p5 p6,.bool r0,.slice r1 r2 r3,.slice r4 r5 r6]] w4 (Gives w4 fun v' _=>v'=.bool (decide ((x[k].1 - x[k].2).num.sign≤0)))):=scheck_any (RdD.ext (OwnD.rd (OwnD.mk6 hq1 hq2)) (eT hb3 b4)) ((HXS.out _ (List.getElem_mem hkl)).1.le dC) ((HXS.out _ (List.getElem_mem hkl)).2.le dC)
     obtain ⟨k0,k1,k2,k3,k4,k5⟩:=c4.c6
     have HTK:Hid (x.take (k+1)=x.take k ++ [x[k]]):=(List.take_append_getElem hkl).symm
     have HMM:Hid (x[k]∈x):=List.getElem_mem hkl
     clear hT hc hq1 hq2 c4 hw4 hcl
     go_upto_region 9 with (fail)
     rw [← HW.out]
     clear HW e0 e1 e2 e3 e4 e5
     generalize x[k]=s at*
     by_cases hck:s.1≤s.2
     ·have hd9:decide ((s.1 - s.2).num.sign≤0)=true:=decide_eq_true (sign_le.2 hck)
      rw [hd9] at HCK
      clear hd9
      go_wp2_with fail
      refine HCK.out.mono ?_
      rintro e w5 ⟨_,rfl,b5,rfl⟩
      clear HCK k0 k1 k2 k3 k4 k5
      go_wp2_with fail
      go_roundw
      case rel=>exact ⟨k+1,by go_num,by omega,eT hxr (eT b4 b5),by rw [HTK.out];exact fun u hu=>(List.mem_append.1 hu).elim (fun h=>hA.out u h) fun h=>by rw [List.mem_singleton.1 h];exact hck⟩
      simp [intOf]<;>omega
     have hd9:decide ((s.1 - s.2).num.sign≤0)=false:=decide_eq_false fun h=>hck (sign_le.1 h)
     rw [hd9] at HCK
     clear hd9
     have HE:Hid (thrE (z,ls) x=4):=by
      show _=_
      unfold thrE
      rw [if_pos HWD.out,if_pos HXZ.out,if_neg fun h=>hck (h s HMM.out)]
     rw [HE.out] at hR
     clear hck HE
     go_wp2_with fail
     refine HCK.out.mono ?_
     rintro e w5 ⟨_,rfl,b5,rfl⟩
     clear HCK k0 k1 k2 k3 k4 k5
     go_wp2_with fail
     exact hR.out _ _ (Gives.mk (eT hb3 (eT b4 b5)) ⟨_,rfl,fun _=>rfl,fun h=>absurd h dC⟩)
    obtain rfl:k=x.length:=by omega
    have hd:=dF ((x.length:Int) < (x.length:Int))
    rw [List.take_length] at hA
    have HE:Hid (thrE (z,ls) x=0):=by
     show _=_
     unfold thrE
     rw [if_pos HWD.out,if_pos HXZ.out,if_pos hA.out]
    rw [HE.out] at hR
    clear HE hA hk
    have hb3:=eT b1 (eT b2 hxr)
    go_upto_region 12 with (fail)
    clear hd
    go_cut [10] (fun s10 wx=>Ext w3 wx∧Hid (OwnRow 6 SnD 41 w3.heap.size wx s10 x))
    case first=>
     go_wp2_with (at_builtin;refine append_rowAL (l:=[]) (m:=x) et17D (kdSn dC) rF _ _ rF w3.heap.size rF (OwnRow.nil _ _ _) rF (HX.out.ext OwnD.ext hb3) (by have:=HXL.out;simp;omega) (by have:=HXL.out;unfold maxLen;simp;omega) (Nat.le_refl _) ?_;intro v4 w4 o4 b4 g4)
     go_meet
     exact ⟨b4,o4⟩
    case rest=>
     obtain ⟨hX4,hO4⟩:=hcut
     obtain ⟨w4,hw4⟩:∃ w0:World,w0=wc:=⟨_,rfl⟩
     subst hw4
     obtain ⟨a4,k4,rfl,-,-⟩:=hO4.out.rd.shape
     go_upto_region 13 with (fail)
     go_cut [11] (fun s11 wx=>Ext w4 wx∧Hid (OwnRow 1 SnR 73 w1.heap.size wx s11 (thrL ls x 1)))
     case first=>
      go_wp2_with fail
      go_meet
      exact ⟨Ext.alloc _ _,qH (OwnRow.litOne (T:=SnR) snr_ext _ (w:=w4) (cs:=[.slice a4 x.length k4]) (y:=x) (Below.size (eT b2 (eT hxr hX4))) rfl ⟨_,_,rfl,hO4.out.mono (Nat.zero_le _)⟩)⟩
     case rest=>
      obtain ⟨hX5,hO5⟩:=hcut
      obtain ⟨w5,hw5⟩:∃ w0:World,w0=wc:=⟨_,rfl⟩
      subst hw5
      have X15:=qH (eT b2 (eT hxr (eT hX4 hX5)))
      obtain ⟨j0,j1⟩:=(C1.out.ext X15.out).c2
      go_wp2_with fail
      clear j0 j1
      go_loopw [10,11,58] (fun vx vo t wr=>∃ i:Nat,t=.int .i64 i∧i≤ls.length∧Hid (Ext w1 wr)∧Hid (OwnRow 6 SnD 41 0 wr vx (xat ls x i))∧Hid (OwnRow 1 SnR 73 w1.heap.size wr vo (thrL ls x (i+1)))) (fun _ _ t _=>ls.length - (intOf t).toNat)
      case atStart=>exact ⟨0,rfl,Nat.zero_le _,X15,(hO4.out.mono (Nat.zero_le _)).ext OwnD.ext hX5,hO5⟩
      case round=>
       clear hO4 hO5 hX4 hX5 X15 hb3 hxr b2
       obtain ⟨i,rfl,hi,hX,hOx,hOo⟩:=hrel
       obtain ⟨wo,hwo⟩:∃ w0:World,w0=wr:=⟨_,rfl⟩
       subst hwo
       have hi3:=HZ.out
       by_cases hlt:i < ls.length
       ·have hd:=dT ((i:Int) < (ls.length:Int))
        have HJ1:IntKind.i64.wrap ((i:Int)+1)=((i+1:Nat):Int):=by rw [IntKind.wrap_i64];omega
        have HI2:(0:Int)≤(i:Int)∧(i:Int) < (ls.length:Int):=⟨by omega,by omega⟩
        have hxw:=eT b1 hX.out
        obtain ⟨bL,oL,aw,mw,ab,mb,ag,mg,hae,hbo,hRW,hRB,hRG⟩:=(HV.out.ext (fun h x=>RdLay.ext h OwnQ.ext x) hxw).lay i hlt
        subst hae
        have HLL:Hid (litL ls[i]):=HLT.out _ (List.getElem_mem hlt)
        have HSS:Hid (SzL ls[i]):=HSL.out _ (List.getElem_mem hlt)
        have HXA:=qH (xat_succ (x:=x) hlt)
        have HXI:=qH (xat_len HWD.out HXZ.out i hi)
        have HXC:Hid (SzR 348 (xat ls x i)):=(xat_sz HWD.out HXZ.out HZ4.out HLT.out HSL.out HXS.out i hi).le (cN_le oM)
        have HW4:Hid (wds (ls.take i) z≤4):=wds_le HWD.out HZ4.out HLT.out i hi
        have HCS:Hid _:=wdt_cases (wdt_at HWD.out i hlt).2
        obtain ⟨l,hl⟩:∃ l,ls[i]=l:=⟨_,rfl⟩
        rw [hl] at hbo hRW hRB hRG HLL HSS HXA HCS
        clear hl
        obtain ⟨g,hg⟩:∃ g,xat ls x i=g:=⟨_,rfl⟩
        have HGE:=qH hg
        rw [hg] at hOx HXA HXI HXC
        clear hg
        generalize wds (ls.take i) z=wn at*
        have HXN:Hid (g.length≤4):=by have:=HXI.out;have:=HW4.out;show _≤_;omega
        have HRW:=qH hRW
        have HRB:=qH hRB
        have HRG:=qH hRG
        obtain ⟨u0,u1,u2,u3⟩:=hbo.c4
        obtain ⟨w6,hw6,b6,c6,-,-⟩:=bx1 wo [.int .i64 l.K,.slice aw l.W.length mw,.slice ab l.B.length mb,.slice ag l.G.length mg] 129
        have HW:=qH hw6
        have C6:=qH c6
        obtain ⟨ax2,cx2,rfl,-,-⟩:=hOx.out.rd.shape
        obtain ⟨ao2,co2,rfl,-,-⟩:=hOo.out.rd.shape
        clear hw6 c6 hRW hRB hRG hbo
        go_upto_region 17 with (fail)
        rw [← HW.out]
        clear HW u0 u1 u2 u3
        obtain ⟨u0,u1,u2,u3⟩:=C6.out.c4
        go_upto_block 4 with (fail)
        have hOx6:=qH (hOx.out.ext OwnD.ext b6)
        go_cut [14] (fun s14 wx=>Ext w6 wx∧Hid (OwnRow 6 SnD 41 0 wx s14 (stepS l g)))
        case first=>
         skip
         ·rcases HCS.out with ⟨h1,hBW,hrw,-,-⟩ | ⟨h1,-⟩ | ⟨h1,hgi,-,-⟩
          ·have he1:(l.K == 1)=true:=by rw [h1];rfl
           obtain ⟨hyl,hyt⟩:=stepS_one (x:=g) h1 hBW
           have HYL:=qH hyl
           have HYT:=qH hyt
           have HBW:=qH hBW
           have HRL:=qH hrw
           obtain ⟨ys,hys⟩:∃ ys,stepS l g=ys:=⟨_,rfl⟩
           rw [hys] at HYL HYT
           have HYS:=qH hys
           clear hyl hyt hBW hrw hys h1
           generalize l.K=K at*
           go_wp2_with fail
           clear u0 u1 u2 u3 he1
           go_loopw [14,100] (fun vy t wr=>∃ j:Nat,t=.int .i64 j∧j≤l.W.length∧Hid (Ext w6 wr)∧Hid (OwnRow 6 SnD 41 w6.heap.size wr vy (ys.take j))) (fun _ t _=>l.W.length - (intOf t).toNat)
           case atStart=>exact ⟨0,rfl,Nat.zero_le _,Ext.refl _,by rw [List.take_zero];exact OwnRow.nil _ _ _⟩
           case round=>
            obtain ⟨j,rfl,hj,hX7,hO7⟩:=hrel
            obtain ⟨w7,hw7⟩:∃ w0:World,w0=wr:=⟨_,rfl⟩
            subst hw7
            have hlw:=HLL.out.1.1
            obtain ⟨ay,ky,hvy,-,-⟩:=hO7.out.rd.shape
            generalize (ys.take j).length=ny at hvy
            subst hvy
            by_cases hjl:j < l.W.length
            ·have hjb:j < l.B.length:=by have:=HBW.out;omega
             have hd1:=dT ((j:Int) < (l.W.length:Int))
             have HK1:IntKind.i64.wrap ((j:Int)+1)=((j+1:Nat):Int):=by rw [IntKind.wrap_i64];omega
             have HK2:(0:Int)≤(j:Int)∧(j:Int) < (l.W.length:Int):=⟨by omega,by omega⟩
             have HK3:(0:Int)≤(j:Int)∧(j:Int) < (l.B.length:Int):=⟨by omega,by omega⟩
             have hx67:=eT b6 hX7.out
             obtain ⟨bW,oW,xr,mr,hxe,hcell,hrr⟩:=(HRW.out.ext (fun h x=>RowT.ext h OwnQ.ext x) hx67).row j hjl
             subst hxe
             obtain ⟨bB,oB,cs,hbe,hcl,hT,hc⟩:=(HRB.out.ext OwnQ.ext hx67).at dC j hjb
             subst hbe
             obtain ⟨q1,q2,q3,q4,rfl⟩:=cells_Q (OwnQ.rd hT)
             obtain ⟨e0,e1,e2⟩:=(Bo.of hc).c3
             have HQ:Hid (OwnQ 156 0 w7 (.agg #[.bool (decide (l.B[j].num < 0)),.slice q1 (limbs l.B[j].num.natAbs).length q2,.slice q3 (dens l.B[j].den).length q4]) l.B[j]):=hT
             have HSN:=qH (HYT.out j hjl hjb)
             have HWE:=qH (sweigh_any (RdRow.mono hrr fun _ _ h=>OwnQ.rd h) (RdRow.mono ((hOx6.out.ext OwnD.ext hX7.out).rd) fun _ _ h=>OwnD.rd h) (by have h1:=HRL.out _ (List.getElem_mem hjl);have h2:=HXI.out;omega) HQ.out (HSS.out.1 _ (List.getElem_mem hjl)) HXC.out (HSS.out.2 _ (List.getElem_mem hjb)) dC (by have h1:=HRL.out _ (List.getElem_mem hjl);have h2:=HW4.out;omega))
             clear hT hc hcl hrr HQ
             generalize Value.bool (decide (l.B[j].num < 0))=z0 at*
             generalize Value.slice q1 (limbs l.B[j].num.natAbs).length q2=z1 at*
             generalize Value.slice q3 (dens l.B[j].den).length q4=z2 at*
             generalize wfold (l.W[j].zip g) (l.B[j],l.B[j])=f at*
             generalize l.W[j]=rr at*
             obtain ⟨v0',v1',v2',v3'⟩:=(C6.out.ext hX7.out).c4
             have HYK:Hid ((ys.take j).length≤4):=by show _≤_;rw [List.length_take];have:=HYL.out;omega
             generalize ys.take j=yj at*
             generalize hy2:ys.take (j+1)=yj2 at*
             have HY2:=qH hy2
             clear hy2
             go_upto_region 35 with (fail)
             go_wp2_with fail
             refine HWE.out.mono ?_
             rintro e w8 ⟨_,rfl,b8,o,rfl,O8⟩
             clear e0 e1 e2 hcell v0' v1' v2' v3' HWE
             obtain ⟨t0,t1,t2,t3,t4,t5,t6,t7,t8,t9,t10,t11,t12,t13,rfl,P8⟩:=O8.op
             obtain ⟨w9,hw9,b9,c9,-,-⟩:=bx1 w8 [.bool t0,.slice t1 t2 t3,.slice t4 t5 t6,.bool t7,.slice t8 t9 t10,.slice t11 t12 t13] 41
             have HW9:=qH hw9
             obtain ⟨k0,k1,k2,k3,k4,k5⟩:=c9.c6
             clear hw9 c9
             go_upto_region 36 with (fail)
             rw [← HW9.out]
             clear HW9
             have hX9:=eT hX7.out (eT b8 b9)
             have hO9:=qH (hO7.out.ext OwnD.ext (eT b8 b9))
             go_wp2_with (at_builtin;refine append_rowL (y:=f) et17D (kdSn dC) rF _ _ rF w6.heap.size rF _ rF hO9.out rfl (P8.out.ext b9) (Below.size hX9) (by have:=HYK.out;omega) (by have:=HYK.out;unfold maxLen;omega) ?_;intro v10 w10 o10 b10 g10)
             go_roundw
             case rel=>exact ⟨j+1,by go_num,by omega,Below.trans hX9 b10,by rw [HY2.out,HSN.out];exact o10⟩
             simp [intOf]<;>omega
            obtain rfl:j=l.W.length:=by omega
            have hd1:=dF ((l.W.length:Int) < (l.W.length:Int))
            rw [List.take_of_length_le (by have:=HYL.out;omega)] at hO7
            go_wp2_with fail
            go_meet
            exact ⟨hX7.out,by rw [HYS.out];exact hO7.out.mono (Nat.zero_le _)⟩
          ·have he1:(l.K == 1)=false:=beq_false_of_ne oM
           have he2:(l.K == 2)=true:=by rw [h1];rfl
           obtain ⟨hyl,hyt⟩:=stepS_two (x:=g) h1
           have HYL:=qH hyl
           have HYT:=qH hyt
           obtain ⟨ys,hys⟩:∃ ys,stepS l g=ys:=⟨_,rfl⟩
           rw [hys] at HYL HYT
           have HYS:=qH hys
           clear hyl hyt hys h1
           generalize l.K=K at*
           go_wp2_with fail
           clear u0 u1 u2 u3 he1 he2
           go_loopw [14,125] (fun vy t wr=>∃ j:Nat,t=.int .i64 j∧j≤g.length∧Hid (Ext w6 wr)∧Hid (OwnRow 6 SnD 41 w6.heap.size wr vy (ys.take j))) (fun _ t _=>g.length - (intOf t).toNat)
           case atStart=>exact ⟨0,rfl,Nat.zero_le _,Ext.refl _,by rw [List.take_zero];exact OwnRow.nil _ _ _⟩
           case round=>
            obtain ⟨j,rfl,hj,hX7,hO7⟩:=hrel
            obtain ⟨w7,hw7⟩:∃ w0:World,w0=wr:=⟨_,rfl⟩
            subst hw7
            have hgl:=HXN.out
            obtain ⟨ay,ky,hvy,-,-⟩:=hO7.out.rd.shape
            generalize (ys.take j).length=ny at hvy
            subst hvy
            by_cases hjl:j < g.length
            ·have hd1:=dT ((j:Int) < (g.length:Int))
             have HK1:IntKind.i64.wrap ((j:Int)+1)=((j+1:Nat):Int):=by rw [IntKind.wrap_i64];omega
             have HK2:(0:Int)≤(j:Int)∧(j:Int) < (g.length:Int):=⟨by omega,by omega⟩
             obtain ⟨bB,oB,cs,hbe,hcl,hT,hc⟩:=(hOx6.out.ext OwnD.ext hX7.out).rd.at dC j hjl
             subst hbe
             obtain ⟨y0,y1,y2,y3,y4,y5,rfl,hq1,hq2⟩:=cells_DO hT
             obtain ⟨e0,e1,e2,e3,e4,e5⟩:=(Bo.of hc).c6
             obtain ⟨p0,p1,p2,p3,p4,p5,p6,rfl,rfl,rfl⟩:=RdQ.op3 hq1.rd
             obtain ⟨r0,r1,r2,r3,r4,r5,r6,rfl,rfl,rfl⟩:=RdQ.op3 hq2.rd
             obtain ⟨w8,hw8,b8,c8,-,-⟩:=bx1 w7 [.bool p0,.slice p1 p2 p3,.slice p4 p5 p6,.bool r0,.slice r1 r2 r3,.slice r4 r5 r6] 41
             have HW8:=qH hw8
             have HRE:=qH (srelu_own (OwnD.ext (OwnD.mk6 hq1 hq2) b8) ((HXC.out _ (List.getElem_mem hjl)).1.le dC) ((HXC.out _ (List.getElem_mem hjl)).2.le dC))
             obtain ⟨k0,k1,k2,k3,k4,k5⟩:=c8.c6
             have HSN:=qH (HYT.out j hjl)
             clear hT hc hcl hq1 hq2 c8 hw8
             have HYK:Hid ((ys.take j).length≤4):=by show _≤_;rw [List.length_take];have:=HYL.out;omega
             generalize ys.take j=yj at*
             generalize hy2:ys.take (j+1)=yj2 at*
             have HY2:=qH hy2
             clear hy2
             go_upto_region 42 with (fail)
             rw [← HW8.out]
             clear HW8 e0 e1 e2 e3 e4 e5
             generalize mx g[j].1 0=m1 at*
             generalize mx g[j].2 0=m2 at*
             go_wp2_with fail
             refine HRE.out.mono ?_
             rintro e w9 ⟨v9,rfl,b9,O9⟩
             clear HRE k0 k1 k2 k3 k4 k5
             obtain ⟨t0,t1,t2,t3,t4,t5,t6,t7,t8,t9,t10,t11,t12,t13,rfl,P9⟩:=O9.op
             have hX9:=eT hX7.out (eT b8 b9)
             have hO9:=qH (hO7.out.ext OwnD.ext (eT b8 b9))
             go_wp2_with (at_builtin;refine append_rowL (y:=(m1,m2)) et17D (kdSn dC) rF _ _ rF w6.heap.size rF _ rF hO9.out rfl P9.out (Below.size hX9) (by have:=HYK.out;omega) (by have:=HYK.out;unfold maxLen;omega) ?_;intro v10 w10 o10 b10 g10)
             go_roundw
             case rel=>exact ⟨j+1,by go_num,by omega,Below.trans hX9 b10,by rw [HY2.out,HSN.out];exact o10⟩
             simp [intOf]<;>omega
            obtain rfl:j=g.length:=by omega
            have hd1:=dF ((g.length:Int) < (g.length:Int))
            rw [List.take_of_length_le (by have:=HYL.out;omega)] at hO7
            go_wp2_with fail
            go_meet
            exact ⟨hX7.out,by rw [HYS.out];exact hO7.out.mono (Nat.zero_le _)⟩
          have he1:(l.K == 1)=false:=beq_false_of_ne oM
          have he2:(l.K == 2)=false:=beq_false_of_ne oM
          obtain ⟨hyl,hyt⟩:=stepS_three (x:=g) h1
          have HYL:=qH hyl
          have HYT:=qH hyt
          have HGI:=qH hgi
          obtain ⟨ys,hys⟩:∃ ys,stepS l g=ys:=⟨_,rfl⟩
          rw [hys] at HYL HYT
          have HYS:=qH hys
          clear hyl hyt hys h1 hgi
          generalize l.K=K at*
          go_wp2_with fail
          clear u0 u1 u2 u3 he1 he2
          go_loopw [14,67] (fun vy t wr=>∃ j:Nat,t=.int .i64 j∧j≤l.G.length∧Hid (Ext w6 wr)∧Hid (OwnRow 6 SnD 41 w6.heap.size wr vy (ys.take j))) (fun _ t _=>l.G.length - (intOf t).toNat)
          case atStart=>exact ⟨0,rfl,Nat.zero_le _,Ext.refl _,by rw [List.take_zero];exact OwnRow.nil _ _ _⟩
          case round=>
           obtain ⟨j,rfl,hj,hX7,hO7⟩:=hrel
           obtain ⟨w7,hw7⟩:∃ w0:World,w0=wr:=⟨_,rfl⟩
           subst hw7
           have hlg:=HLL.out.1.2.2
           obtain ⟨ay,ky,hvy,-,-⟩:=hO7.out.rd.shape
           generalize (ys.take j).length=ny at hvy
           subst hvy
           by_cases hjl:j < l.G.length
           ·have hd1:=dT ((j:Int) < (l.G.length:Int))
            have HK1:IntKind.i64.wrap ((j:Int)+1)=((j+1:Nat):Int):=by rw [IntKind.wrap_i64];omega
            have HK2:(0:Int)≤(j:Int)∧(j:Int) < (l.G.length:Int):=⟨by omega,by omega⟩
            have hx67:=eT b6 hX7.out
            obtain ⟨bG,oG,xr,mr,hxe,hcell,hrr⟩:=(HRG.out.ext (fun h x=>RowT.ext h IntT.ext x) hx67).row j hjl
            subst hxe
            have HSN:=qH (HYT.out j hjl)
            have HG4:=qH (HLL.out.2.2 _ (List.getElem_mem hjl))
            have HGR:=qH (HGI.out _ (List.getElem_mem hjl))
            have HRR:=qH hrr
            generalize l.G[j]=gg at*
            clear hrr
            have HYK:Hid ((ys.take j).length≤4):=by show _≤_;rw [List.length_take];have:=HYL.out;omega
            generalize ys.take j=yj at*
            generalize hy2:ys.take (j+1)=yj2 at*
            have HY2:=qH hy2
            clear hy2
            go_upto_region 23 with (fail)
            clear hcell
            go_wp2_with fail
            go_loopw [23,73] (fun vm t wr=>∃ p:Nat,t=.int .i64 p∧p≤gg.length∧Hid (Ext w7 wr)∧Hid (OwnRow 6 SnD 41 w7.heap.size wr vm ((pick g gg).take p))) (fun _ t _=>gg.length - (intOf t).toNat)
            case atStart=>exact ⟨0,rfl,Nat.zero_le _,Ext.refl _,by rw [List.take_zero];exact OwnRow.nil _ _ _⟩
            case round=>
             obtain ⟨p,rfl,hp,hX8,hO8⟩:=hrel
             obtain ⟨w8,hw8⟩:∃ w0:World,w0=wr:=⟨_,rfl⟩
             subst hw8
             have hgl:=HG4.out
             by_cases hpl:p < gg.length
             ·have hd2:=dT ((p:Int) < (gg.length:Int))
              have HP1:IntKind.i64.wrap ((p:Int)+1)=((p+1:Nat):Int):=by rw [IntKind.wrap_i64];omega
              have HP2:(0:Int)≤(p:Int)∧(p:Int) < (gg.length:Int):=⟨by omega,by omega⟩
              obtain ⟨ai,oi,rfl⟩:=HRR.out.some_atI hpl
              have hci:=Ext.cell hX8.out (HRR.out.int p hpl)
              obtain ⟨hz0,hz1⟩:=HGR.out.2 _ (List.getElem_mem hpl)
              obtain ⟨q,hq⟩:=Int.eq_ofNat_of_zero_le hz0
              have hqg:q < g.length:=by have:=HXI.out;omega
              have HPT:=qH (pick_take hpl hq hqg)
              rw [hq] at hci
              have HP3:(0:Int)≤(q:Int)∧(q:Int) < (g.length:Int):=⟨by omega,by omega⟩
              obtain ⟨bB,oB,cs,hbe,hcl,hT,hc⟩:=(hOx6.out.ext OwnD.ext (eT hX7.out hX8.out)).rd.at dC q hqg
              subst hbe
              obtain ⟨y0,y1,y2,y3,y4,y5,rfl,hq1,hq2⟩:=cells_DO hT
              obtain ⟨e0,e1,e2,e3,e4,e5⟩:=(Bo.of hc).c6
              obtain ⟨_,_,_,_,_,_,_,rfl,rfl,rfl⟩:=RdQ.op3 hq1.rd
              obtain ⟨_,_,_,_,_,_,_,rfl,rfl,rfl⟩:=RdQ.op3 hq2.rd
              have HD:=qH (OwnD.mk6 hq1 hq2)
              clear hT hc hcl hq1 hq2 hz0 hz1 hq
              have HPK:Hid (((pick g gg).take p).length≤4):=by show _≤_;rw [List.length_take];omega
              generalize (pick g gg).take p=pj at*
              generalize hy3:(pick g gg).take (p+1)=pj2 at*
              have HY3:=qH hy3
              clear hy3
              generalize g[q]=gq at*
              obtain ⟨am,km,rfl,-,-⟩:=hO8.out.rd.shape
              go_wp2_with (at_builtin;refine append_rowL (y:=gq) et17D (kdSn dC) rF _ _ rF w7.heap.size rF _ rF hO8.out rfl HD.out (Below.size hX8.out) (by have:=HPK.out;omega) (by have:=HPK.out;unfold maxLen;omega) ?_;intro v10 w10 o10 b10 g10)
              go_roundw
              case rel=>exact ⟨p+1,by go_num,by omega,Below.trans hX8.out b10,by rw [HY3.out,HPT.out];exact o10⟩
              simp [intOf]<;>omega
             obtain rfl:p=gg.length:=by omega
             have hd2:=dF ((gg.length:Int) < (gg.length:Int))
             rw [List.take_of_length_le (by rw [pick_len];exact Nat.le_refl _)] at hO8
             have hpp:0 < (pick g gg).length:=by rw [pick_len];exact List.length_pos_iff.2 HGR.out.1
             have HMX:=smax_own hO8.out.rd hpp (fun s hs=>⟨((HXC.out.pick dC gg) s hs).1.le dC,((HXC.out.pick dC gg) s hs).2.le dC⟩)
             rw [← getD_lt (d:=(0,0)) hpp] at HMX
             replace HMX:=qH HMX
             clear hpp
             generalize mxs (pick g gg) ((pick g gg).getD 0 (0,0))=f at*
             generalize pick g gg=pk at*
             obtain ⟨am,km,rfl,-,-⟩:=hO8.out.rd.shape
             go_upto_region 28 with (fail)
             go_wp2_with fail
             refine HMX.out.mono ?_
             rintro e w9 ⟨_,rfl,b9,o,rfl,O9⟩
             clear HMX
             obtain ⟨t0,t1,t2,t3,t4,t5,t6,t7,t8,t9,t10,t11,t12,t13,rfl,P9⟩:=O9.op
             obtain ⟨w10,hw10,b10,c10,-,-⟩:=bx1 w9 [.bool t0,.slice t1 t2 t3,.slice t4 t5 t6,.bool t7,.slice t8 t9 t10,.slice t11 t12 t13] 41
             have HW10:=qH hw10
             obtain ⟨k0,k1,k2,k3,k4,k5⟩:=c10.c6
             clear hw10 c10
             go_upto_region 29 with (fail)
             rw [← HW10.out]
             clear HW10
             have hX10:=eT hX7.out (eT hX8.out (eT b9 b10))
             have hO10:=qH (hO7.out.ext OwnD.ext (eT hX8.out (eT b9 b10)))
             go_wp2_with (at_builtin;refine append_rowL (y:=f) et17D (kdSn dC) rF _ _ rF w6.heap.size rF _ rF hO10.out rfl (P9.out.ext b10) (Below.size hX10) (by have:=HYK.out;omega) (by have:=HYK.out;unfold maxLen;omega) ?_;intro v11 w11 o11 b11 g11)
             go_roundw
             case rel=>exact ⟨j+1,by go_num,by omega,Below.trans hX10 b11,by rw [HY2.out,HSN.out];exact o11⟩
             simp [intOf]<;>omega
           obtain rfl:j=l.G.length:=by omega
           have hd1:=dF ((l.G.length:Int) < (l.G.length:Int))
           rw [List.take_of_length_le (by have:=HYL.out;omega)] at hO7
           go_wp2_with fail
           go_meet
           exact ⟨hX7.out,by rw [HYS.out];exact hO7.out.mono (Nat.zero_le _)⟩
        case rest=>
         obtain ⟨hX7,hO7⟩:=hcut
         obtain ⟨w7,hw7⟩:∃ w0:World,w0=wc:=⟨_,rfl⟩
         subst hw7
         rw [← HXA.out] at hO7
         have HTS:=qH (thrL_succ (ls:=ls) (x:=x) (k:=i+1))
         have HTL:Hid ((thrL ls x (i+1)).length≤4):=by show _≤_;rw [thrL_len];omega
         generalize thrL ls x (i+1)=tl at*
         generalize hy3:thrL ls x (i+1+1)=tl2 at*
         have HY3:=qH hy3
         clear hy3
         obtain ⟨ys,hys⟩:∃ ys,xat ls x (i+1)=ys:=⟨_,rfl⟩
         have HYE:=qH hys
         rw [hys] at hO7 HTS
         clear hys u0 u1 u2 u3
         obtain ⟨ay,ky,rfl,-,-⟩:=hO7.out.rd.shape
         have hX17:=eT hX.out (eT b6 hX7)
         have hO8:=qH (hOo.out.ext snr_ext (eT b6 hX7))
         have HEL:Hid (SnR w7 (.agg #[.slice ay ys.length ky]) ys):=⟨_,_,rfl,hO7.out⟩
         go_wp2_with (at_builtin;refine append_rowL (y:=ys) etSr (kdSr dC dC) rF _ _ rF w1.heap.size rF [.slice ay ys.length ky] rF hO8.out rfl HEL.out (Below.size hX17) (by have:=HTL.out;omega) (by have:=HTL.out;unfold maxLen;omega) ?_;intro v10 w10 o10 b10 g10)
         have HO10:Hid (OwnRow 6 SnD 41 0 w10 (.slice ay ys.length ky) ys):=by
          obtain ⟨nn,xs,hown⟩:=(hO8.out.ext snr_ext (Ext.alloc w7 (.cells #[.slice ay ys.length ky] 73))).own
          exact OwnRow.grown (hO7.out.ext OwnD.ext (Ext.alloc w7 _)) (fun _ _ h=>(kdSn dC).grown h hown g10) hown dC g10
         go_roundw
         case rel=>exact ⟨i+1,by go_num,by omega,Below.trans hX17 b10,by rw [HYE.out];exact HO10.out,by rw [HY3.out,HTS.out];exact o10⟩
         simp [intOf]<;>omega
       obtain rfl:i=ls.length:=by omega
       have hd:=dF ((ls.length:Int) < (ls.length:Int))
       go_wp2_with fail
       exact hR.out _ _ (Gives.mk (eT b1 hX.out) ⟨_,rfl,fun h=>absurd rfl h,fun _=>hOo.out.mono (Nat.zero_le _)⟩)
  have hne:((x.length:Int) != z)=true:=by simp [hxz]
  have HE:Hid (thrE (z,ls) x=1):=by
   show _=_
   unfold thrE
   rw [if_pos hwd,if_neg hxz]
  rw [HE.out] at hR
  clear HE hxz hwd
  go_wp2_with fail
  exact hR.out _ _ (Gives.mk (eT b1 b2) ⟨_,rfl,fun _=>rfl,fun h=>absurd h dC⟩)
 rw [if_neg hwd]
 have HE:Hid (thrE (z,ls) x=4):=by
  show _=_
  unfold thrE
  rw [if_neg hwd]
 rw [HE.out] at hR
 clear HE hwd
 go_wp2_with fail
 exact hR.out _ _ (Gives.mk (eT b1 b2) ⟨_,rfl,fun _=>rfl,fun h=>absurd h dC⟩)
end Go.Proofs.YtmlhccajicmpfaaGreat

namespace Go.Att
open Go.RowKit

abbrev Pr (σ α:Type):=List σ × List α × Fm
def RdPr {σ α:Type} (S:World→Value→σ→Prop) (A:World→Value→α→Prop) (w:World) (v:Value) (p:Pr σ α):Prop:=
 ∃ a c a' c' x,v=.agg #[.slice a p.1.length c,.slice a' p.2.1.length c',.int .i64 p.2.2.k,.int .i64 p.2.2.a,x]∧RdRow 6 S w (.slice a p.1.length c) p.1∧RdRow 5 A w (.slice a' p.2.1.length c') p.2.1∧RdFm w (.agg #[.int .i64 p.2.2.k,.int .i64 p.2.2.a,x]) p.2.2
def RdQy {ν σ α:Type} (N:World→Value→ν→Prop) (S:World→Value→σ→Prop) (A:World→Value→α→Prop) (w:World) (v:Value) (q:Nt ν × Pr σ α):Prop:=
 ∃ s b0 b1 b2 b3 b4,v=.agg #[.int .i64 q.1.1,s,b0,b1,b2,b3,b4]∧RdNet N w (.agg #[.int .i64 q.1.1,s]) q.1∧RdPr S A w (.agg #[b0,b1,b2,b3,b4]) q.2
section
variable {ν σ α:Type} {N:World→Value→ν→Prop} {S:World→Value→σ→Prop} {A:World→Value→α→Prop} {w w':World} {v:Value} {p:Pr σ α} {q:Nt ν × Pr σ α}
theorem RdPr.ext (h:RdPr S A w v p) (hS:∀ {w w' v a},S w v a→Ext w w'→S w' v a) (hA:∀ {w w' v a},A w v a→Ext w w'→A w' v a) (x:Ext w w'):RdPr S A w' v p:=by
 obtain ⟨a,c,a',c',y,rfl,h1,h2,h3⟩:=h
 exact ⟨a,c,a',c',y,rfl,h1.ext hS x,h2.ext hA x,h3.ext x⟩
theorem RdPr.op (h:RdPr S A w v p):∃ a c a' c' x k,v=.agg #[.slice a p.1.length c,.slice a' p.2.1.length c',.int .i64 p.2.2.k,.int .i64 p.2.2.a,.slice x p.2.2.sub.length k]∧RdRow 6 S w (.slice a p.1.length c) p.1∧RdRow 5 A w (.slice a' p.2.1.length c') p.2.1∧RdFm w (.agg #[.int .i64 p.2.2.k,.int .i64 p.2.2.a,.slice x p.2.2.sub.length k]) p.2.2:=by
 obtain ⟨a,c,a',c',y,rfl,h1,h2,h3⟩:=h
 obtain ⟨x,k,n,he,-⟩:=h3.op
 have he':y=.slice x p.2.2.sub.length k:=by simpa using he
 subst he'
 exact ⟨a,c,a',c',x,k,rfl,h1,h2,h3⟩
theorem RdQy.op (h:RdQy N S A w v q):∃ a0 c0 a c a' c' x k,v=.agg #[.int .i64 q.1.1,.slice a0 q.1.2.length c0,.slice a q.2.1.length c,.slice a' q.2.2.1.length c',.int .i64 q.2.2.2.k,.int .i64 q.2.2.2.a,.slice x q.2.2.2.sub.length k]∧
  RdNet N w (.agg #[.int .i64 q.1.1,.slice a0 q.1.2.length c0]) q.1∧RdRow 6 S w (.slice a q.2.1.length c) q.2.1∧RdRow 5 A w (.slice a' q.2.2.1.length c') q.2.2.1∧RdFm w (.agg #[.int .i64 q.2.2.2.k,.int .i64 q.2.2.2.a,.slice x q.2.2.2.sub.length k]) q.2.2.2:=by
 obtain ⟨s,b0,b1,b2,b3,b4,rfl,h1,h2⟩:=h
 obtain ⟨a,c,a',c',x,k,he,g1,g2,g3⟩:=h2.op
 have h1':=h1
 obtain ⟨a0,hv,hr⟩:=h1'
 obtain ⟨x0,c0,hs,-,-⟩:=hr.shape
 subst hs
 simp at hv he
 obtain ⟨rfl,rfl,rfl,rfl,rfl⟩:=he
 subst hv
 exact ⟨x0,c0,a,c,a',c',x,k,rfl,h1,g1,g2,g3⟩
end
end Go.Att
