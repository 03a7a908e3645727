/- Part 35 of the common texts: M7a. -/
import Derived.Test.YtlpanbeeckdbpaaGreatDoorPart34
set_option linter.all false
set_option maxRecDepth 100000
set_option maxHeartbeats 16000000

section
namespace Go.VC.T07
open Go Go.VC Go.Proofs
set_option maxRecDepth 100000
theorem M27_0:FC Tryz.prog tt 27 [] [(.lst 59 l10),(.lst 59 l12),(.str [109,47,118,49])] (Is (.tup [(.row 34 0),(.int .i64 0)]) [(.row 34 (.list [[(.int 12),(.str [102]),(.str []),(.int 0),(.int 3),(.bool true),(.bool false)]]) true)]):=runT (R:=rn6) (by decide +kernel)
end Go.VC.T07
end
