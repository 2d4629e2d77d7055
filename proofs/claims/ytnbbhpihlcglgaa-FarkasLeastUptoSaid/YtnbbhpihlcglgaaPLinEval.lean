/- lin.Eval, attestref08.Eval -/
import Derived.Test.YtnbbhpihlcglgaaEvL
import Derived.Test.YtnbbhpihlcglgaaLinAll
import Derived.Test.YtnbbhpihlcglgaaRatAll
import Derived.Test.YtnbbhpihlcglgaaPR8Coef
import Derived.Test.YtnbbhpihlcglgaaRef5All
namespace Go.Proofs.Ytnbbhpihlcglgaa
open Go.RowKit Go.Att

end Go.Proofs.Ytnbbhpihlcglgaa
