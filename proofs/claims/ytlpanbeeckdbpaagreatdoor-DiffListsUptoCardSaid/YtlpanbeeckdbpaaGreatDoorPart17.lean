/- Part 17 of the common texts: M1f. -/
import Derived.Test.YtlpanbeeckdbpaaGreatDoorPart11
set_option linter.all false
set_option maxRecDepth 100000
set_option maxHeartbeats 16000000

section
namespace Go.VC.T07
open Go Go.VC Go.Proofs
set_option maxRecDepth 100000
theorem M137_2:FC Tryz.prog tt 137 [] [(.agg [(.int .i64 8),(.str []),(.str []),(.lst 26 l0),(.lst 81 l8)])] (Is (.str [40,56,32,48,58,48,58,91,40,50,32,48,58,48,58,91,93,123,125,41,93,123,49,58,120,102,97,108,115,101,40,54,32,48,58,48,58,91,93,123,49,58,97,102,97,108,115,101,40,50,32,48,58,48,58,91,93,123,125,41,49,58,98,102,97,108,115,101,40,50,32,48,58,48,58,91,93,123,125,41,125,41,125,41]) []):=runT (R:=rn0) (by decide +kernel)
theorem M137_3:FC Tryz.prog tt 137 [] [(.agg [(.int .i64 6),(.str []),(.str []),(.lst 26 nl),(.lst 81 l2)])] (Is (.str [40,54,32,48,58,48,58,91,93,123,49,58,97,102,97,108,115,101,40,50,32,48,58,48,58,91,93,123,125,41,125,41]) []):=runT (R:=rn0) (by decide +kernel)
theorem M137_4:FC Tryz.prog tt 137 [] [(.agg [(.int .i64 8),(.str []),(.str []),(.lst 26 l0),(.lst 81 l5)])] (Is (.str [40,56,32,48,58,48,58,91,40,50,32,48,58,48,58,91,93,123,125,41,93,123,49,58,120,102,97,108,115,101,40,54,32,48,58,48,58,91,93,123,49,58,97,102,97,108,115,101,40,50,32,48,58,48,58,91,93,123,125,41,125,41,125,41]) []):=runT (R:=rn0) (by decide +kernel)
end Go.VC.T07
end
