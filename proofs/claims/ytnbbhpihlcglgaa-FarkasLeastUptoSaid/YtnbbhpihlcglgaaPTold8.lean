/- attestlaw08.Told -/
import Derived.Test.YtnbbhpihlcglgaaLinPlain
import Derived.Test.YtnbbhpihlcglgaaLinAll
import Derived.Test.YtnbbhpihlcglgaaPTold
namespace Go.Proofs.Ytnbbhpihlcglgaa
open Go.RowKit Go.Att

abbrev OwnY (B : Nat) (w : World) (v : Value) (l : TL) (c : Rat) : Prop := OwnEy 4 173 B w v l c
end Go.Proofs.Ytnbbhpihlcglgaa
