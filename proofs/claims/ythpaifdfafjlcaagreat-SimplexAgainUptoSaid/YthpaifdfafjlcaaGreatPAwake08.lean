/- attestlaw08.awake -/
import Derived.Test.YthpaifdfafjlcaaGreatLinAll
import Derived.Test.YthpaifdfafjlcaaGreatRatAll
namespace Go.Proofs.YthpaifdfafjlcaaGreat
open Go.RowKit Go.Att

theorem cf_single (q:Rat) (x:Int):cf [((0:Int),q)] x=if (0:Int)=x then q else 0:=cf_one _ _
theorem form_single {q:Rat} (hq:q≠0):FormT [((0:Int),q)]:=FormT.snoc (l:=[]) FormT.nil (fun u h=>by cases h) hq
end Go.Proofs.YthpaifdfafjlcaaGreat
