/- An expression as it comes in (a row of terms and a number), opened. -/
import Derived.Test.YtnbbhpihlcglgaaFrameR
import Derived.Test.YtnbbhpihlcglgaaLinPlain
namespace Go.Proofs.Ytnbbhpihlcglgaa
open Go.ChangeShapes Go.WideShapes Go.ChangeAt Go.RowKit Go.Att Go.Joins

end Go.Proofs.Ytnbbhpihlcglgaa
