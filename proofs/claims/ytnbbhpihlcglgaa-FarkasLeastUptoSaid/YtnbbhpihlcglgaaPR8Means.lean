/- attestref08.Means, where the answer is yes -/
import Derived.Test.YtnbbhpihlcglgaaLinP
import Derived.Test.YtnbbhpihlcglgaaPR8Form
import Derived.Test.YtnbbhpihlcglgaaPR8Vars
import Derived.Test.YtnbbhpihlcglgaaRef5All
import Derived.Test.YtnbbhpihlcglgaaRowOne
namespace Go.Proofs.Ytnbbhpihlcglgaa
open Go.RowKit Go.Att

theorem _root_.Go.Att.Sz.fit {L : Nat} {q : Rat} (h : Sz L q) (hL : 32 * L ≤ 50000) : Sb 50000 q := h.bits.le hL
end Go.Proofs.Ytnbbhpihlcglgaa
