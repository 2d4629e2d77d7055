/- A number as it comes in (a sign and two lists of limbs), opened. -/
import Derived.Test.YtnbbhpihlcglgaaFrame
import Derived.Test.YtnbbhpihlcglgaaRatPlain
import Derived.Lib.SmallJoins
namespace Go.Proofs.Ytnbbhpihlcglgaa
open Go.ChangeShapes Go.WideShapes Go.ChangeAt Go.RowKit Go.Att Go.Joins

end Go.Proofs.Ytnbbhpihlcglgaa
