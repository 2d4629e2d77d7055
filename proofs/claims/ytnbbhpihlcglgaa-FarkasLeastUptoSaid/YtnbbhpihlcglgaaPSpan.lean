/- span.Scale -/
import Derived.Test.YtnbbhpihlcglgaaRowAll
import Derived.Test.YtnbbhpihlcglgaaPDelta2
import Derived.Test.YtnbbhpihlcglgaaRatAll
namespace Go.Proofs.Ytnbbhpihlcglgaa
open Go.RowKit Go.Att

def mx (x y : Rat) : Rat := if 0 ≤ (x - y).num.sign then x else y
end Go.Proofs.Ytnbbhpihlcglgaa
