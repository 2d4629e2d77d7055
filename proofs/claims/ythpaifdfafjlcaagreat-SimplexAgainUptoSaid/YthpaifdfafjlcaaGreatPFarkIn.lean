/- What comes into the statements on Farkas's numbers. -/
import Derived.Test.YthpaifdfafjlcaaGreatFrameAll
import Derived.Test.YthpaifdfafjlcaaGreatAtomAll
import Derived.Test.YthpaifdfafjlcaaGreatNumsAll
import Derived.Test.YthpaifdfafjlcaaGreatRef20All
namespace Go.Proofs.YthpaifdfafjlcaaGreat
open Go.ChangeShapes Go.WideShapes Go.ChangeAt Go.RowKit Go.Att

theorem smx_rowA {w:World} {v:Value} {l:List NAT} (hv:RdRow 5 RdNA w v l) (n:Nat):∀ a∈(l.take n).map atA,Smx a.1.1 a.1.2:=by
 intro p hp
 obtain ⟨q,hq,rfl⟩:=List.mem_map.1 hp
 obtain ⟨i,hi,rfl⟩:=List.getElem_of_mem (List.mem_of_mem_take hq)
 obtain ⟨a,c,rfl,-,-⟩:=hv.shape
 obtain ⟨_,_,cs,-,-,⟨_,_,_,_,_,hT⟩,-⟩:=hv.at (by decide) i hi
 exact tL_sm hT
theorem atoms_in {w:World} {v:Value} {l:List NAT} (hb:∀ p∈l,bA p≤1048576) (h:RdRow 5 RdNA w v l):Calls Tryz.prog 10 #[v] w (Gives w fun v' w'=>RdRow 5 OwnA w' v' ((l.take 10).map atA)):=
 (atoms_any h fun p hp=>by
  have:=hb p hp
  unfold bA at this
  exact ⟨fun t ht=>by
   have h2:=mxl_in ht
   unfold bN at h2
   exact ⟨by omega,by omega⟩,by
   unfold bN at this
   exact ⟨by omega,by omega⟩⟩).mono fun _ _ ⟨v,e,b,o⟩=>⟨v,e,b,OwnRow.rd o⟩
theorem list9_in {w:World} {v:Value} {L:List AT} (hv:RdRow 5 OwnA w v L) (hs:∀ a∈L,Smx a.1.1 a.1.2) (hl:L.length≤1000):Calls Tryz.prog 12 #[v] w (Gives w fun v' w'=>RdRow 5 OwnB9 w' v' L):=
 (list9_any hv hs hl).mono fun _ _ ⟨v,e,b,o⟩=>⟨v,e,b,OwnRow.rd o⟩
theorem nums_in {w:World} {v:Value} {P:List Rat} (hv:RdRow 3 (OwnQp 115) w v P) (hs:∀ p∈P,Sz 20 p) (hl:P.length≤1000):Calls Tryz.prog 22 #[v] w (Gives w fun v' w'=>RdRow 3 (OwnPp 4) w' v' P):=
 (nums_any (RdRow.mono hv fun _ _ h=>OwnQ.rd h) (fun p hp=>(hs p hp).le (by decide)) (by omega)).mono fun _ _ ⟨v,e,b,o⟩=>⟨v,e,b,OwnRow.rd o⟩
end Go.Proofs.YthpaifdfafjlcaaGreat
