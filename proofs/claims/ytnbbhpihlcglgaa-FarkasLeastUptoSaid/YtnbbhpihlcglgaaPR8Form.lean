/- attestref08.Form -/
import Derived.Test.YtnbbhpihlcglgaaPR8Coef
namespace Go.Proofs.Ytnbbhpihlcglgaa
open Go.RowKit Go.Att

end Go.Proofs.Ytnbbhpihlcglgaa
