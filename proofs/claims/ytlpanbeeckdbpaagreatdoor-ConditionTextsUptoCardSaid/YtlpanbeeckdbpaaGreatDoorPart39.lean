/- Part 39 of the common texts: M5i. -/
import Derived.Test.YtlpanbeeckdbpaaGreatDoorPart31
set_option linter.all false
set_option maxRecDepth 100000
set_option maxHeartbeats 16000000

section
namespace Go.VC.T07
open Go Go.VC Go.Proofs
set_option maxRecDepth 100000
theorem M20_8:FC Tryz.prog tt 20 [] [(.lst 59 (envD 4)),(.agg [(.int .i64 7),(.str sm),(.str [118]),(.int .i64 0),(.lst 63 nl),(.int .i64 0),(.str []),(.str []),(.lst 26 nl),(.lst 81 nl),(.int .i64 0),(.str []),(.str []),(.lst 26 nl),(.lst 81 nl)])] (Is (.bool true) []):=runT (R:=rn4) (by decide +kernel)
end Go.VC.T07
end
