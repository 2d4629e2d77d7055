/- rat.Cmp, its answer named -/
import Derived.Test.YtnbbhpihlcglgaaRatAll
namespace Go.Proofs.Ytnbbhpihlcglgaa
open Go.RowKit Go.Att

theorem rcmp_to7 {w : World} {va vb : Value} {p q : Rat} {t : Int} (hp : RdQ w va p) (hq : RdQ w vb q) (sp : Sz 10000000 p) (sq : Sz 10000000 q) (h : (p - q).num.sign = t) :
    Calls Try.prog 30 #[va, vb] w (Gives w fun v' _ => v' = .int .i64 t) := h ▸ rcmp_any hp hq sp sq
end Go.Proofs.Ytnbbhpihlcglgaa
