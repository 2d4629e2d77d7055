/- lin.Vars -/
import Derived.Test.YtnbbhpihlcglgaaLinAll
import Derived.Test.YtnbbhpihlcglgaaLinPlain
namespace Go.Proofs.Ytnbbhpihlcglgaa
open Go.RowKit Go.Att

theorem etInt9 : ElemT Try.prog 65 3 (.int .i64 0) 1 8 := ElemT.mk' Try.underlying65 (by kernel_rfl) rfl (by decide)
end Go.Proofs.Ytnbbhpihlcglgaa
