/- delta.Add, Neg, Sub, Scale; attestref07.At; attestlaw07.is -/
import Derived.Test.YtnbbhpihlcglgaaPDelta
import Derived.Test.YtnbbhpihlcglgaaRatAll
import Derived.Test.YtnbbhpihlcglgaaRef5All
import Derived.Test.YtnbbhpihlcglgaaPIs05
import Derived.Test.YtnbbhpihlcglgaaRowAll
namespace Go.Proofs.Ytnbbhpihlcglgaa
open Go.RowKit Go.Att

end Go.Proofs.Ytnbbhpihlcglgaa
