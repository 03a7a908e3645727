/- Part 13 of the common texts: M1a. -/
import Derived.Test.YtlpanbeeckdbpaaGreatDoorPart12
set_option linter.all false
set_option maxRecDepth 100000
set_option maxHeartbeats 16000000

section
namespace Go.VC.T07
open Go Go.VC Go.Proofs
set_option maxRecDepth 100000
theorem M137_0:FC Tryz.prog tt 137 [] [(.agg [(.int .i64 9),(.str []),(.str s0),(.lst 26 nl),(.lst 81 nl)])] (Is (.str [40,57,32,48,58,50,58,35,48,91,93,123,125,41]) []):=runT (R:=rn0) (by decide +kernel)
theorem M137_1:FC Tryz.prog tt 137 [] [(.agg [(.int .i64 10),(.str sm),(.str [78]),(.lst 26 (.list [[(.int 9),(.str []),(.str s0),nl,nl]])),(.lst 81 nl)])] (Is (.str [40,49,48,32,52,58,109,47,118,49,49,58,78,91,40,57,32,48,58,50,58,35,48,91,93,123,125,41,93,123,125,41]) []):=runT (R:=rn0) (by decide +kernel)
theorem M137_2:FC Tryz.prog tt 137 [] [(.agg [(.int .i64 6),(.str []),(.str []),(.lst 26 nl),(.lst 81 fldL)])] (Is (.str [40,54,32,48,58,48,58,91,93,123,49,58,97,102,97,108,115,101,40,57,32,48,58,50,58,35,48,91,93,123,125,41,125,41]) []):=runT (R:=rn0) (by decide +kernel)
theorem M137_3:FC Tryz.prog tt 137 [] [(.agg [(.int .i64 1),(.str []),(.str []),(.lst 26 nl),(.lst 81 nl)])] (Is (.str [40,49,32,48,58,48,58,91,93,123,125,41]) []):=runT (R:=rn0) (by decide +kernel)
theorem M137_4:FC Tryz.prog tt 137 [] [(.agg [(.int .i64 2),(.str []),(.str []),(.lst 26 nl),(.lst 81 nl)])] (Is (.str [40,50,32,48,58,48,58,91,93,123,125,41]) []):=runT (R:=rn0) (by decide +kernel)
theorem M137_5:FC Tryz.prog tt 137 [] [(.agg [(.int .i64 4),(.str []),(.str []),(.lst 26 nl),(.lst 81 nl)])] (Is (.str [40,52,32,48,58,48,58,91,93,123,125,41]) []):=runT (R:=rn0) (by decide +kernel)
theorem M205_0:FC Tryz.prog tt 205 [] [(.lst 59 (envD 2)),(.lst 9 nl),(.agg [(.int .i64 0),(.str []),(.str []),(.lst 26 nl),(.lst 81 nl)])] (Is (.int .i64 0) []):=runT (R:=rn0) (by decide +kernel)
theorem M205_1:FC Tryz.prog tt 205 [] [(.lst 59 (envD 2)),(.lst 9 (.list [[(.str s0)]])),(.agg [(.int .i64 9),(.str []),(.str s0),(.lst 26 nl),(.lst 81 nl)])] (Is (.int .i64 0) []):=runT (R:=rn0) (by decide +kernel)
end Go.VC.T07
end
