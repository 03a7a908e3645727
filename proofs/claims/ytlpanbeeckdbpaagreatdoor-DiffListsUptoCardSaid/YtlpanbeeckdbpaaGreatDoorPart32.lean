/- Part 32 of the common texts: M5a. -/
import Derived.Test.YtlpanbeeckdbpaaGreatDoorPart31
set_option linter.all false
set_option maxRecDepth 100000
set_option maxHeartbeats 16000000

section
namespace Go.VC.T07
open Go Go.VC Go.Proofs
set_option maxRecDepth 100000
theorem M255_0:FC Tryz.prog tt 255 [] [(.lst 59 l12),(.lst 63 nl),(.agg [(.int .i64 8),(.str []),(.str []),(.lst 26 l0),(.lst 81 l8)]),(.agg [(.int .i64 8),(.str []),(.str []),(.lst 26 l0),(.lst 81 l5)])] (Is (.lst 341 (.list [[(.list [[(.str [120])],[(.str [98])]]),(.bool true),(.int 1),(.int 6),(.str []),(.str []),nl,l2,(.int 6),(.str []),(.str []),nl,l6]])) []):=runT (R:=rn4) (by decide +kernel)
end Go.VC.T07
end
