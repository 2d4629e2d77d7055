/- delta.Cmp, delta.Of, delta.At; attestref07.Cmp -/
import Derived.Test.YtnbbhpihlcglgaaRowAll
import Derived.Test.YtnbbhpihlcglgaaRatAll
import Derived.Test.YtnbbhpihlcglgaaRef5All
namespace Go.Proofs.Ytnbbhpihlcglgaa
open Go.RowKit Go.Att

/-- The order: by the plain part, then by the other. -/
def cmpD (a b c d : Rat) : Int := if (a - c).num.sign = 0 then (b - d).num.sign else (a - c).num.sign

end Go.Proofs.Ytnbbhpihlcglgaa
