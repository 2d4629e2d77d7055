/- attestlaw09.Told -/
import Derived.Test.YtnbbhpihlcglgaaPAtom2
import Derived.Test.YtnbbhpihlcglgaaAtomY
namespace Go.Proofs.Ytnbbhpihlcglgaa
open Go.RowKit Go.Att

abbrev OwnB9 (w : World) (v : Value) (p : AT) : Prop := OwnBt 4 173 w v p
end Go.Proofs.Ytnbbhpihlcglgaa
