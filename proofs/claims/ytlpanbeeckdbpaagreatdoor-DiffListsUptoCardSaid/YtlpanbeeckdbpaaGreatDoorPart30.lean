/- Part 30 of the common texts: M4a M4b. -/
import Derived.Test.YtlpanbeeckdbpaaGreatDoorPart29
set_option linter.all false
set_option maxRecDepth 100000
set_option maxHeartbeats 16000000

section
namespace Go.VC.T07
open Go Go.VC Go.Proofs
set_option maxRecDepth 100000
theorem M62_0:FC Tryz.prog tt 62 [] [(.lst 59 l12),(.lst 63 nl),(.agg [(.int .i64 8),(.str []),(.str []),(.lst 26 l0),(.lst 81 l5)]),(.agg [(.int .i64 8),(.str []),(.str []),(.lst 26 l0),(.lst 81 l8)])] (Is (.bool true) []):=runT (R:=rn3) (by decide +kernel)
end Go.VC.T07
end

section
namespace Go.VC.T07
open Go Go.VC Go.Proofs
set_option maxRecDepth 100000
theorem M62_1:FC Tryz.prog tt 62 [] [(.lst 59 l12),(.lst 63 nl),(.agg [(.int .i64 8),(.str []),(.str []),(.lst 26 l0),(.lst 81 l8)]),(.agg [(.int .i64 8),(.str []),(.str []),(.lst 26 l0),(.lst 81 l5)])] (Is (.bool true) []):=runT (R:=rn3) (by decide +kernel)
end Go.VC.T07
end
