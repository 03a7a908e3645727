/- Part 18 of the common texts: M3a. -/
import Derived.Test.YtlpanbeeckdbpaaGreatDoorPart17
set_option linter.all false
set_option maxRecDepth 100000
set_option maxHeartbeats 16000000

section
namespace Go.VC.T07
open Go Go.VC Go.Proofs
set_option maxRecDepth 100000
theorem M194_0:FC Tryz.prog tt 194 [] [(.lst 59 (envD 2)),(.agg [(.int .i64 1),(.str sm),(.str [78]),(.int .i64 0),(.lst 63 (.list [[(.str s0),(.int 0),(.int 0),(.str []),(.str []),nl,nl]])),(.int .i64 0),(.str []),(.str []),(.lst 26 nl),(.lst 81 nl),(.int .i64 0),(.str []),(.str []),(.lst 26 nl),(.lst 81 nl)])] (Is (.bool true) []):=runT (R:=rn2) (by decide +kernel)
theorem M194_1:FC Tryz.prog tt 194 [] [(.lst 59 (envD 2)),(.agg [(.int .i64 2),(.str sm),(.str [78]),(.int .i64 0),(.lst 63 (.list [[(.str s0),(.int 0),(.int 0),(.str []),(.str []),nl,nl]])),(.int .i64 0),(.str []),(.str []),(.lst 26 nl),(.lst 81 nl),(.int .i64 0),(.str []),(.str []),(.lst 26 nl),(.lst 81 nl)])] (Is (.bool true) []):=runT (R:=rn2) (by decide +kernel)
end Go.VC.T07
end
