/- Part 23 of the common texts: M3f M3g. -/
import Derived.Test.YtlpanbeeckdbpaaGreatDoorPart17
set_option linter.all false
set_option maxRecDepth 100000
set_option maxHeartbeats 16000000

section
namespace Go.VC.T07
open Go Go.VC Go.Proofs
set_option maxRecDepth 100000
theorem M63_2:FC Tryz.prog tt 63 [] [(.lst 59 (envD 2)),(.lst 63 (.list [[(.str s0),(.int 0),(.int 0),(.str []),(.str []),nl,nl]])),(.agg [(.int .i64 9),(.str []),(.str s0),(.lst 26 nl),(.lst 81 nl)]),(.agg [(.int .i64 9),(.str []),(.str s0),(.lst 26 nl),(.lst 81 nl)])] (Is (.bool true) []):=runT (R:=rn2) (by decide +kernel)
theorem M63_3:FC Tryz.prog tt 63 [] [(.lst 59 (envD 2)),(.lst 63 (.list [[(.str s0),(.int 0),(.int 0),(.str []),(.str []),nl,nl]])),(.agg [(.int .i64 1),(.str []),(.str []),(.lst 26 nl),(.lst 81 nl)]),(.agg [(.int .i64 10),(.str sm),(.str [78]),(.lst 26 (.list [[(.int 9),(.str []),(.str s0),nl,nl]])),(.lst 81 nl)])] (Is (.bool true) []):=runT (R:=rn2) (by decide +kernel)
theorem M63_4:FC Tryz.prog tt 63 [] [(.lst 59 (envD 2)),(.lst 63 nl),(.agg [(.int .i64 2),(.str []),(.str []),(.lst 26 nl),(.lst 81 nl)]),(.agg [(.int .i64 2),(.str []),(.str []),(.lst 26 nl),(.lst 81 nl)])] (Is (.bool true) []):=runT (R:=rn2) (by decide +kernel)
end Go.VC.T07
end

section
namespace Go.VC.T07
open Go Go.VC Go.Proofs
set_option maxRecDepth 100000
theorem M63_5:FC Tryz.prog tt 63 [] [(.lst 59 (envD 4)),(.lst 63 nl),(.agg [(.int .i64 4),(.str []),(.str []),(.lst 26 nl),(.lst 81 nl)]),(.agg [(.int .i64 2),(.str []),(.str []),(.lst 26 nl),(.lst 81 nl)])] (Is (.bool false) []):=runT (R:=rn2) (by decide +kernel)
end Go.VC.T07
end
