/- Part 28 of the common texts: M4d. -/
import Derived.Test.YtlpanbeeckdbpaaGreatDoorPart24
set_option linter.all false
set_option maxRecDepth 100000
set_option maxHeartbeats 16000000

section
namespace Go.VC.T07
open Go Go.VC Go.Proofs
set_option maxRecDepth 100000
theorem M133_1:FC Tryz.prog tt 133 [] [(.lst 59 (envD 2)),(.agg [(.int .i64 8),(.str sm),(.str [118]),(.int .i64 0),(.lst 63 nl),(.int .i64 0),(.str []),(.str []),(.lst 26 nl),(.lst 81 nl),(.int .i64 2),(.str []),(.str []),(.lst 26 nl),(.lst 81 nl)])] (Is (.tup [(.agg [(.str [118]),(.lst 63 nl),(.int .i64 2),(.str []),(.str []),(.lst 26 nl),(.lst 81 nl)]),(.bool true)]) []):=runT (R:=rn3) (by decide +kernel)
end Go.VC.T07
end
