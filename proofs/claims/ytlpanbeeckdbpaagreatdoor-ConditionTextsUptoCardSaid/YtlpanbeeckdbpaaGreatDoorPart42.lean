/- Part 42 of the common texts: M6c. -/
import Derived.Test.YtlpanbeeckdbpaaGreatDoorPart40
set_option linter.all false
set_option maxRecDepth 100000
set_option maxHeartbeats 16000000

section
namespace Go.VC.T07
open Go Go.VC Go.Proofs
set_option maxRecDepth 100000
theorem M23_1:FC Tryz.prog tt 23 [] [(.lst 59 (envD 4)),(.agg [(.int .i64 8),(.str sm),(.str [118]),(.int .i64 0),(.lst 63 nl),(.int .i64 0),(.str []),(.str []),(.lst 26 nl),(.lst 81 nl),(.int .i64 2),(.str []),(.str []),(.lst 26 nl),(.lst 81 nl)]),(.lst 99 (.list [[(.int 1),(.int 2),(.str []),(.str []),nl,nl,(.int 2),(.str []),(.str []),nl,nl]]))] (Is (.bool false) []):=runT (R:=rn5) (by decide +kernel)
end Go.VC.T07
end
