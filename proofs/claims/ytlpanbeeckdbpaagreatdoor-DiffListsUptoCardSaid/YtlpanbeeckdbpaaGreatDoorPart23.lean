/- Part 23 of the common texts: M2h M2i. -/
import Derived.Test.YtlpanbeeckdbpaaGreatDoorPart19
set_option linter.all false
set_option maxRecDepth 100000
set_option maxHeartbeats 16000000

section
namespace Go.VC.T07
open Go Go.VC Go.Proofs
set_option maxRecDepth 100000
theorem M205_11:FC Tryz.prog tt 205 [] [(.lst 59 nl),(.lst 9 nl),(.agg [(.int .i64 0),(.str []),(.str []),(.lst 26 nl),(.lst 81 nl)])] (Is (.int .i64 0) []):=runT (R:=rn1) (by decide +kernel)
theorem M42_0:FC Tryz.prog tt 42 [] [(.lst 59 l10),(.str [109,47,118,49])] (Is (.tup [(.agg [(.str [109,47,118,49]),(.lst 83 nl),(.lst 53 l9),(.lst 197 nl),(.lst 200 nl)]),(.bool true)]) []):=runT (R:=rn1) (by decide +kernel)
theorem M42_1:FC Tryz.prog tt 42 [] [(.lst 59 l12),(.str [109,47,118,49])] (Is (.tup [(.agg [(.str [109,47,118,49]),(.lst 83 nl),(.lst 53 l11),(.lst 197 nl),(.lst 200 nl)]),(.bool true)]) []):=runT (R:=rn1) (by decide +kernel)
end Go.VC.T07
end

section
namespace Go.VC.T07
open Go Go.VC Go.Proofs
set_option maxRecDepth 100000
theorem M80_0:FC Tryz.prog tt 80 [] [(.lst 59 l10),(.str [109,47,118,49]),(.str [102])] (Is (.tup [(.agg [(.str [102]),(.lst 63 nl),(.int .i64 8),(.str []),(.str []),(.lst 26 l0),(.lst 81 l5)]),(.str [109,47,118,49]),(.int .i64 0)]) []):=runT (R:=rn1) (by decide +kernel)
end Go.VC.T07
end
