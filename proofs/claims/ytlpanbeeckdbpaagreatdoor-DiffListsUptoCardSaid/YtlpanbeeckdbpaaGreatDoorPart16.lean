/- Part 16 of the common texts: M1e. -/
import Derived.Test.YtlpanbeeckdbpaaGreatDoorPart11
set_option linter.all false
set_option maxRecDepth 100000
set_option maxHeartbeats 16000000

section
namespace Go.VC.T07
open Go Go.VC Go.Proofs
set_option maxRecDepth 100000
theorem M168_5:FC Tryz.prog tt 168 [] [(.agg [(.int .i64 0),(.str []),(.str []),(.lst 26 nl),(.lst 81 nl),(.int .i64 1),(.str []),(.str []),(.lst 26 nl),(.lst 81 nl)])] (Is (.str [48,32,48,32,48,32,48,32,48,32,49,32,48,32,48,32,48,32,48,32]) []):=runT (R:=rn0) (by decide +kernel)
theorem M168_6:FC Tryz.prog tt 168 [] [(.agg [(.int .i64 1),(.str []),(.str []),(.lst 26 nl),(.lst 81 nl),(.int .i64 0),(.str []),(.str []),(.lst 26 nl),(.lst 81 nl)])] (Is (.str [49,32,48,32,48,32,48,32,48,32,48,32,48,32,48,32,48,32,48,32]) []):=runT (R:=rn0) (by decide +kernel)
theorem M137_0:FC Tryz.prog tt 137 [] [(.agg [(.int .i64 2),(.str []),(.str []),(.lst 26 nl),(.lst 81 nl)])] (Is (.str [40,50,32,48,58,48,58,91,93,123,125,41]) []):=runT (R:=rn0) (by decide +kernel)
theorem M137_1:FC Tryz.prog tt 137 [] [(.agg [(.int .i64 6),(.str []),(.str []),(.lst 26 nl),(.lst 81 l6)])] (Is (.str [40,54,32,48,58,48,58,91,93,123,49,58,97,102,97,108,115,101,40,50,32,48,58,48,58,91,93,123,125,41,49,58,98,102,97,108,115,101,40,50,32,48,58,48,58,91,93,123,125,41,125,41]) []):=runT (R:=rn0) (by decide +kernel)
end Go.VC.T07
end
