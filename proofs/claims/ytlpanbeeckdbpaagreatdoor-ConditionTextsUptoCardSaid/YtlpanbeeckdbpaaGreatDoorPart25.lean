/- Part 25 of the common texts: M4a. -/
import Derived.Test.YtlpanbeeckdbpaaGreatDoorPart24
set_option linter.all false
set_option maxRecDepth 100000
set_option maxHeartbeats 16000000

section
namespace Go.VC.T07
open Go Go.VC Go.Proofs
set_option maxRecDepth 100000
theorem M130_0:FC Tryz.prog tt 130 [] [(.lst 59 (envD 2)),(.agg [(.int .i64 1),(.str sm),(.str [78]),(.int .i64 0),(.lst 63 (.list [[(.str s0),(.int 0),(.int 0),(.str []),(.str []),nl,nl]])),(.int .i64 0),(.str []),(.str []),(.lst 26 nl),(.lst 81 nl),(.int .i64 0),(.str []),(.str []),(.lst 26 nl),(.lst 81 nl)])] (Is (.tup [(.agg [(.str [78]),(.lst 63 (.list [[(.str s0),(.int 0),(.int 0),(.str []),(.str []),nl,nl]])),(.int .i64 1),(.str []),(.str []),(.lst 26 nl),(.lst 81 nl),(.int .i64 6),(.str []),(.str []),(.lst 26 nl),(.lst 81 fldL)]),(.bool true)]) []):=runT (R:=rn3) (by decide +kernel)
end Go.VC.T07
end
