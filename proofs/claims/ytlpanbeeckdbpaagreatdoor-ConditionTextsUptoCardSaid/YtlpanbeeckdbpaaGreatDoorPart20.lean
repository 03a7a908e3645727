/- Part 20 of the common texts: M3c. -/
import Derived.Test.YtlpanbeeckdbpaaGreatDoorPart17
set_option linter.all false
set_option maxRecDepth 100000
set_option maxHeartbeats 16000000

section
namespace Go.VC.T07
open Go Go.VC Go.Proofs
set_option maxRecDepth 100000
theorem M194_4:FC Tryz.prog tt 194 [] [(.lst 59 (envD 4)),(.agg [(.int .i64 8),(.str sm),(.str [118]),(.int .i64 0),(.lst 63 nl),(.int .i64 0),(.str []),(.str []),(.lst 26 nl),(.lst 81 nl),(.int .i64 2),(.str []),(.str []),(.lst 26 nl),(.lst 81 nl)])] (Is (.bool true) []):=runT (R:=rn2) (by decide +kernel)
theorem M194_5:FC Tryz.prog tt 194 [] [(.lst 59 (envD 4)),(.agg [(.int .i64 7),(.str sm),(.str [118]),(.int .i64 0),(.lst 63 nl),(.int .i64 0),(.str []),(.str []),(.lst 26 nl),(.lst 81 nl),(.int .i64 0),(.str []),(.str []),(.lst 26 nl),(.lst 81 nl)])] (Is (.bool true) []):=runT (R:=rn2) (by decide +kernel)
end Go.VC.T07
end
