/- Part 35 of the common texts: M5e. -/
import Derived.Test.YtlpanbeeckdbpaaGreatDoorPart31
set_option linter.all false
set_option maxRecDepth 100000
set_option maxHeartbeats 16000000

section
namespace Go.VC.T07
open Go Go.VC Go.Proofs
set_option maxRecDepth 100000
theorem M20_4:FC Tryz.prog tt 20 [] [(.lst 59 (envD 2)),(.agg [(.int .i64 4),(.str sm),(.str [78]),(.int .i64 0),(.lst 63 (.list [[(.str s0),(.int 0),(.int 0),(.str []),(.str []),nl,nl]])),(.int .i64 1),(.str []),(.str []),(.lst 26 nl),(.lst 81 nl),(.int .i64 10),(.str sm),(.str [78]),(.lst 26 (.list [[(.int 9),(.str []),(.str s0),nl,nl]])),(.lst 81 nl)])] (Is (.bool true) []):=runT (R:=rn4) (by decide +kernel)
end Go.VC.T07
end
