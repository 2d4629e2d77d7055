/- attestlaw21.cut -/
import Derived.Test.YtnbbhpihlcglgaaPLow16
import Derived.Test.YtnbbhpihlcglgaaLastT
import Derived.Test.YtnbbhpihlcglgaaBuildS
import Derived.Test.YtnbbhpihlcglgaaLinPlain
import Derived.Test.YtnbbhpihlcglgaaLinAll
namespace Go.Att
open Go.RowKit
def EvN (n:NN) (w:World) (v:Value):Prop:=∃ y z,v=.agg #[.slice none 0 0,.bool n.1,y,z]∧OwnN 163 w (.agg #[.bool n.1,y,z]) n
theorem EvN.ext {n:NN} {w w':World} {v:Value} (h:EvN n w v) (x:Ext w w'):EvN n w' v:=by
 obtain ⟨y,z,rfl,h⟩:=h
 exact ⟨y,z,rfl,h.ext x⟩
def AvN (n:NN) (op:Int) (w:World) (v:Value):Prop:=∃ a l c a' l' c',v=.agg #[.slice none 0 0,.bool n.1,.slice a l c,.slice a' l' c',.int .i64 op]∧OwnN 163 w (.agg #[.bool n.1,.slice a l c,.slice a' l' c']) n
theorem AvN.ext {n:NN} {op:Int} {w w':World} {v:Value} (h:AvN n op w v) (x:Ext w w'):AvN n op w' v:=by
 obtain ⟨a,l,c,a',l',c',rfl,h⟩:=h
 exact ⟨a,l,c,a',l',c',rfl,h.ext x⟩
theorem RdNp.sl {w:World} {x y z:Value} {n:NN} (h:RdNp w (.agg #[x,y,z]) n):∃ a l c a' l' c',y=.slice a l c∧z=.slice a' l' c':=by
 obtain ⟨y',z',he,h1,h2⟩:=h
 obtain ⟨-,rfl,rfl⟩:=agg3_inj he
 obtain ⟨a,c,rfl,-,-,-,-⟩:=h1.1.shape
 obtain ⟨a',c',rfl,-,-,-,-⟩:=h2.1.shape
 exact ⟨_,_,_,_,_,_,rfl,rfl⟩
end Go.Att
namespace Go.Proofs.Ytnbbhpihlcglgaa
open Go.RowKit Go.Att

theorem meetN {w0 wv:World} {B:Nat} {n:NN} (rB:Rt wv B 5 188) (hx:Ext w0 wv) (hB:w0.heap.size≤B) {x0 y z x4:Value} (o:OwnN 163 wv (.agg #[.bool n.1,y,z]) n):
  ∃ W,W=((((wv.setCell ⟨B,0,none⟩ x0).setCell ⟨B,1,none⟩ (.bool n.1)).setCell ⟨B,2,none⟩ y).setCell ⟨B,3,none⟩ z).setCell ⟨B,4,none⟩ x4∧Ext w0 W∧Hid (Bx W B [x0,.bool n.1,y,z,x4])∧Hid (Rt W B 5 188)∧Hid (OwnN 163 W (.agg #[.bool n.1,y,z]) n):=
 ⟨Att.putL wv B 0 [x0,.bool n.1,y,z,x4],rfl,putL_below hB _ _ hx,Lib.hid (rB.putL_at [x0,.bool n.1,y,z,x4] rfl).1,Lib.hid (rB.putL_at [x0,.bool n.1,y,z,x4] rfl).2,Lib.hid (o.putT rB (by decide) 0 _)⟩
end Go.Proofs.Ytnbbhpihlcglgaa
