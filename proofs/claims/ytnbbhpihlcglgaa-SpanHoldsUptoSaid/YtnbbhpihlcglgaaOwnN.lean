/- Numbers, terms and constraints as they come in, in new memory. Nothing here names the program. -/
import Derived.Test.YtnbbhpihlcglgaaAtom
namespace Go.Att
open Go.RowKit

def OwnN (e:TypeId) (w:World) (v:Value) (n:NN):Prop:=∃ y z,v=.agg #[.bool n.1,y,z]∧OwnL e 0 w y n.2.1∧OwnL e 0 w z n.2.2
theorem OwnN.ext {e:TypeId} {w w':World} {v:Value} {n:NN} (h:OwnN e w v n) (x:Ext w w'):OwnN e w' v n:=by
 obtain ⟨y,z,rfl,h1,h2⟩:=h
 exact ⟨y,z,rfl,h1.ext x,h2.ext x⟩
theorem OwnN.rd {e:TypeId} {w:World} {v:Value} {n:NN} (h:OwnN e w v n):RdNp w v n:=by
 obtain ⟨y,z,rfl,h1,h2⟩:=h
 exact ⟨y,z,rfl,h1.rd,h2.rd⟩
theorem OwnN.op {e:TypeId} {w:World} {v:Value} {n:NN} (h:OwnN e w v n):∃ a l c a' l' c',v=.agg #[.bool n.1,.slice a l c,.slice a' l' c']∧Hid (OwnN e w (.agg #[.bool n.1,.slice a l c,.slice a' l' c']) n):=by
 have h0:=h
 obtain ⟨y,z,rfl,h1,h2⟩:=h
 obtain ⟨a,c,rfl,-,-,-,-⟩:=h1.rd.1.shape
 obtain ⟨a',c',rfl,-,-,-,-⟩:=h2.rd.1.shape
 exact ⟨_,_,_,_,_,_,rfl,h0⟩
theorem OwnN.grown {e e':TypeId} {w w':World} {v v':Value} {q:NN} {B n size:Nat} {xs:List Value} (h:OwnN e w v q) (hr:w.ownsRow B e' size v' n xs) (hne:e≠e') (hg:w.grownBy w' v'.ownBlock):OwnN e w' v q:=by
 obtain ⟨n,d,rfl,h1,h2⟩:=h
 exact ⟨_,_,rfl,⟨owns_grown h1.1 hr hne hg,h1.2⟩,⟨owns_grown h2.1 hr hne hg,h2.2⟩⟩
theorem OwnN.putT {e t:TypeId} {c m:Nat} {w:World} {v:Value} {q:NN} (h:OwnN e w v q) (hc:Rt w c m t) (hne:e≠t) (i:Nat) (l:List Value):OwnN e (Att.putL w c i l) v q:=by
 obtain ⟨n,d,rfl,h1,h2⟩:=h
 exact ⟨_,_,rfl,h1.putT hc hne i l,h2.putT hc hne i l⟩
def OwnNT (e:TypeId) (w:World) (v:Value) (t:Int × NN):Prop:=∃ y z,v=.agg #[.int .i64 t.1,.bool t.2.1,y,z]∧OwnN e w (.agg #[.bool t.2.1,y,z]) t.2
theorem OwnNT.ext {e:TypeId} {w w':World} {v:Value} {t:Int × NN} (h:OwnNT e w v t) (x:Ext w w'):OwnNT e w' v t:=by
 obtain ⟨y,z,rfl,h⟩:=h
 exact ⟨y,z,rfl,h.ext x⟩
theorem OwnNT.rd {e:TypeId} {w:World} {v:Value} {t:Int × NN} (h:OwnNT e w v t):RdNT w v t:=by
 obtain ⟨y,z,rfl,h⟩:=h
 exact ⟨y,z,rfl,h.rd⟩
theorem OwnNT.putT {e t:TypeId} {c m:Nat} {w:World} {v:Value} {q:Int × NN} (h:OwnNT e w v q) (hc:Rt w c m t) (hne:e≠t) (i:Nat) (l:List Value):OwnNT e (Att.putL w c i l) v q:=by
 obtain ⟨a,b,rfl,h⟩:=h
 exact ⟨a,b,rfl,h.putT hc hne i l⟩
def OwnNA (e t:TypeId) (w:World) (v:Value) (p:NAT):Prop:=∃ s y z,v=.agg #[s,.bool p.1.2.1,y,z,.int .i64 p.2]∧OwnRow 4 (OwnNT e) t 0 w s p.1.1∧OwnN e w (.agg #[.bool p.1.2.1,y,z]) p.1.2
theorem OwnNA.ext {e t:TypeId} {w w':World} {v:Value} {p:NAT} (h:OwnNA e t w v p) (x:Ext w w'):OwnNA e t w' v p:=by
 obtain ⟨s,y,z,rfl,h1,h2⟩:=h
 exact ⟨s,y,z,rfl,h1.ext OwnNT.ext x,h2.ext x⟩
theorem OwnNA.rd {e t:TypeId} {w:World} {v:Value} {p:NAT} (h:OwnNA e t w v p):RdNA w v p:=by
 obtain ⟨s,y,z,rfl,h1,h2⟩:=h
 exact ⟨_,_,_,_,rfl,_,_,_,rfl,RdRow.mono h1.rd fun _ _ h=>h.rd,h2.rd⟩
end Go.Att
