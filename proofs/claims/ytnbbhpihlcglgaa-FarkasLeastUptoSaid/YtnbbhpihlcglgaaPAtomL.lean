/- attestlaw09.List -/
import Derived.Test.YtnbbhpihlcglgaaPAtomY
namespace Go.Proofs.Ytnbbhpihlcglgaa
open Go.RowKit Go.Att

end Go.Proofs.Ytnbbhpihlcglgaa
