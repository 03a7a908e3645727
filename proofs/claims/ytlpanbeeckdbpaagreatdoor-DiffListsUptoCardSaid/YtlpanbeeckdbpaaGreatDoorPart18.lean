/- Part 18 of the common texts: M1g. -/
import Derived.Test.YtlpanbeeckdbpaaGreatDoorPart11
set_option linter.all false
set_option maxRecDepth 100000
set_option maxHeartbeats 16000000

section
namespace Go.VC.T07
open Go Go.VC Go.Proofs
set_option maxRecDepth 100000
theorem M281_0:FC Tryz.prog tt 281 [] [(.agg [(.int .i64 8),(.str []),(.str []),(.lst 26 l0),(.lst 81 l5)])] (Is (.int .i64 0) []):=runT (R:=rn0) (by decide +kernel)
theorem M281_1:FC Tryz.prog tt 281 [] [(.agg [(.int .i64 2),(.str []),(.str []),(.lst 26 nl),(.lst 81 nl)])] (Is (.int .i64 0) []):=runT (R:=rn0) (by decide +kernel)
theorem M281_2:FC Tryz.prog tt 281 [] [(.agg [(.int .i64 6),(.str []),(.str []),(.lst 26 nl),(.lst 81 l2)])] (Is (.int .i64 0) []):=runT (R:=rn0) (by decide +kernel)
theorem M281_3:FC Tryz.prog tt 281 [] [(.agg [(.int .i64 8),(.str []),(.str []),(.lst 26 l0),(.lst 81 l8)])] (Is (.int .i64 0) []):=runT (R:=rn0) (by decide +kernel)
theorem M281_4:FC Tryz.prog tt 281 [] [(.agg [(.int .i64 6),(.str []),(.str []),(.lst 26 nl),(.lst 81 l6)])] (Is (.int .i64 0) []):=runT (R:=rn0) (by decide +kernel)
theorem M281_5:FC Tryz.prog tt 281 [] [(.agg [(.int .i64 6),(.str []),(.str []),(.lst 26 nl),(.lst 81 l3)])] (Is (.int .i64 0) []):=runT (R:=rn0) (by decide +kernel)
end Go.VC.T07
end
