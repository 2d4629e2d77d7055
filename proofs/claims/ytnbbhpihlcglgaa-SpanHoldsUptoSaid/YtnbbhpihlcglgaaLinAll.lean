/- A group of texts: PLinClone, PLinSortNil, PLinCanon, PLinVar, PLinCoef, PLinScale, PLinAdd, PLinSub, PLinSame -/
import Derived.Test.YtnbbhpihlcglgaaLinPlain
import Derived.Test.YtnbbhpihlcglgaaSortAll
import Derived.Lib.SliceRun
import Derived.Test.YtnbbhpihlcglgaaRatAll
namespace Go.Proofs.Ytnbbhpihlcglgaa
open Go.RowKit Go.Att

open Go.RowKit Go.Att

open Go.RowKit Go.Att

open Go.RowKit Go.Att

open Go.RowKit Go.Att

open Go.RowKit Go.Att

theorem if_wantedL {c:Prop} [Decidable c] {A B:Prop} (h:c) (k:A):if c then A else B:=by rw [if_pos h];exact k
open Go.RowKit Go.Att

open Go.RowKit Go.Att

open Go.RowKit Go.Att

end Go.Proofs.Ytnbbhpihlcglgaa
