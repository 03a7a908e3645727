/- Part 22 of the common texts: M2f M2g. -/
import Derived.Test.YtlpanbeeckdbpaaGreatDoorPart19
set_option linter.all false
set_option maxRecDepth 100000
set_option maxHeartbeats 16000000

section
namespace Go.VC.T07
open Go Go.VC Go.Proofs
set_option maxRecDepth 100000
theorem M205_7:FC Tryz.prog tt 205 [] [(.lst 59 l10),(.lst 9 nl),(.agg [(.int .i64 6),(.str []),(.str []),(.lst 26 nl),(.lst 81 l7)])] (Is (.int .i64 0) []):=runT (R:=rn1) (by decide +kernel)
end Go.VC.T07
end

section
namespace Go.VC.T07
open Go Go.VC Go.Proofs
set_option maxRecDepth 100000
theorem M205_8:FC Tryz.prog tt 205 [] [(.lst 59 l10),(.lst 9 nl),(.agg [(.int .i64 8),(.str []),(.str []),(.lst 26 l1),(.lst 81 l4)])] (Is (.int .i64 0) []):=runT (R:=rn1) (by decide +kernel)
theorem M205_9:FC Tryz.prog tt 205 [] [(.lst 59 l10),(.lst 9 nl),(.agg [(.int .i64 6),(.str []),(.str []),(.lst 26 nl),(.lst 81 l3)])] (Is (.int .i64 0) []):=runT (R:=rn1) (by decide +kernel)
theorem M205_10:FC Tryz.prog tt 205 [] [(.lst 59 nl),(.lst 9 nl),(.agg [(.int .i64 1),(.str []),(.str []),(.lst 26 nl),(.lst 81 nl)])] (Is (.int .i64 0) []):=runT (R:=rn1) (by decide +kernel)
end Go.VC.T07
end
