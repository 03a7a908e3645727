/- Part 15 of the common texts: M1d. -/
import Derived.Test.YtlpanbeeckdbpaaGreatDoorPart11
set_option linter.all false
set_option maxRecDepth 100000
set_option maxHeartbeats 16000000

section
namespace Go.VC.T07
open Go Go.VC Go.Proofs
set_option maxRecDepth 100000
theorem M168_3:FC Tryz.prog tt 168 [] [(.agg [(.int .i64 6),(.str []),(.str []),(.lst 26 nl),(.lst 81 l6),(.int .i64 6),(.str []),(.str []),(.lst 26 nl),(.lst 81 l2)])] (Is (.str [54,32,48,32,48,32,48,32,50,32,49,102,97,108,115,101,97,50,32,48,32,48,32,48,32,48,32,49,102,97,108,115,101,98,50,32,48,32,48,32,48,32,48,32,54,32,48,32,48,32,48,32,49,32,49,102,97,108,115,101,97,50,32,48,32,48,32,48,32,48,32]) []):=runT (R:=rn0) (by decide +kernel)
theorem M168_4:FC Tryz.prog tt 168 [] [(.agg [(.int .i64 2),(.str []),(.str []),(.lst 26 nl),(.lst 81 nl),(.int .i64 2),(.str []),(.str []),(.lst 26 nl),(.lst 81 nl)])] (Is (.str [50,32,48,32,48,32,48,32,48,32,50,32,48,32,48,32,48,32,48,32]) []):=runT (R:=rn0) (by decide +kernel)
end Go.VC.T07
end
