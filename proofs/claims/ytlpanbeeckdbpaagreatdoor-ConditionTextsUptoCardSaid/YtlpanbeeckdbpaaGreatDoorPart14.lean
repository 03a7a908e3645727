/- Part 14 of the common texts: M1b. -/
import Derived.Test.YtlpanbeeckdbpaaGreatDoorPart12
set_option linter.all false
set_option maxRecDepth 100000
set_option maxHeartbeats 16000000

section
namespace Go.VC.T07
open Go Go.VC Go.Proofs
set_option maxRecDepth 100000
theorem M205_2:FC Tryz.prog tt 205 [] [(.lst 59 (envD 2)),(.lst 9 (.list [[(.str s0)]])),(.agg [(.int .i64 10),(.str sm),(.str [78]),(.lst 26 (.list [[(.int 0),(.str []),(.str []),nl,nl]])),(.lst 81 nl)])] (Is (.int .i64 0) []):=runT (R:=rn0) (by decide +kernel)
end Go.VC.T07
end
