/- Part 20 of the common texts: M2a M2b. -/
import Derived.Test.YtlpanbeeckdbpaaGreatDoorPart19
set_option linter.all false
set_option maxRecDepth 100000
set_option maxHeartbeats 16000000

section
namespace Go.VC.T07
open Go Go.VC Go.Proofs
set_option maxRecDepth 100000
theorem M205_0:FC Tryz.prog tt 205 [] [(.lst 59 l10),(.lst 9 nl),(.agg [(.int .i64 8),(.str []),(.str []),(.lst 26 l0),(.lst 81 l5)])] (Is (.int .i64 0) []):=runT (R:=rn1) (by decide +kernel)
end Go.VC.T07
end

section
namespace Go.VC.T07
open Go Go.VC Go.Proofs
set_option maxRecDepth 100000
theorem M205_1:FC Tryz.prog tt 205 [] [(.lst 59 l12),(.lst 9 nl),(.agg [(.int .i64 8),(.str []),(.str []),(.lst 26 l0),(.lst 81 l8)])] (Is (.int .i64 0) []):=runT (R:=rn1) (by decide +kernel)
end Go.VC.T07
end
