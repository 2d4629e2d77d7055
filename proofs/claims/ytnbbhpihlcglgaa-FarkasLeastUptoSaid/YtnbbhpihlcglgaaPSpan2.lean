/- span.Add, Check, Has, Phase, Relu -/
import Derived.Test.YtnbbhpihlcglgaaPSpan
import Derived.Test.YtnbbhpihlcglgaaRatAll
namespace Go.Proofs.Ytnbbhpihlcglgaa
open Go.RowKit Go.Att

end Go.Proofs.Ytnbbhpihlcglgaa
