/- Part 16 of the common texts: M2a. -/
import Derived.Test.YtlpanbeeckdbpaaGreatDoorPart15
set_option linter.all false
set_option maxRecDepth 100000
set_option maxHeartbeats 16000000

section
namespace Go.VC.T07
open Go Go.VC Go.Proofs
set_option maxRecDepth 100000
theorem M42_0:FC Tryz.prog tt 42 [] [(.lst 59 (envD 2)),(.str sm)] (Is (.tup [(.agg [(.str sm),(.lst 83 entL),(.lst 53 (.list [[(.str [118]),nl,(.int 2),(.str []),(.str []),nl,nl]])),(.lst 197 nl),(.lst 200 nl)]),(.bool true)]) []):=runT (R:=rn1) (by decide +kernel)
theorem M42_1:FC Tryz.prog tt 42 [] [(.lst 59 (envD 4)),(.str sm)] (Is (.tup [(.agg [(.str sm),(.lst 83 entL),(.lst 53 (.list [[(.str [118]),nl,(.int 4),(.str []),(.str []),nl,nl]])),(.lst 197 nl),(.lst 200 nl)]),(.bool true)]) []):=runT (R:=rn1) (by decide +kernel)
theorem M80_0:FC Tryz.prog tt 80 [] [(.lst 59 (envD 2)),(.str sm),(.str [118])] (Is (.tup [(.agg [(.str [118]),(.lst 63 nl),(.int .i64 2),(.str []),(.str []),(.lst 26 nl),(.lst 81 nl)]),(.str sm),(.int .i64 0)]) []):=runT (R:=rn1) (by decide +kernel)
theorem M80_1:FC Tryz.prog tt 80 [] [(.lst 59 (envD 4)),(.str sm),(.str [118])] (Is (.tup [(.agg [(.str [118]),(.lst 63 nl),(.int .i64 4),(.str []),(.str []),(.lst 26 nl),(.lst 81 nl)]),(.str sm),(.int .i64 0)]) []):=runT (R:=rn1) (by decide +kernel)
end Go.VC.T07
end
