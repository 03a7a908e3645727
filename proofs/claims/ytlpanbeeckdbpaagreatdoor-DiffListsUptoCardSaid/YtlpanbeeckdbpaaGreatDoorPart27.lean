/- Part 27 of the common texts: M3f M3g. -/
import Derived.Test.YtlpanbeeckdbpaaGreatDoorPart24
set_option linter.all false
set_option maxRecDepth 100000
set_option maxHeartbeats 16000000

section
namespace Go.VC.T07
open Go Go.VC Go.Proofs
set_option maxRecDepth 100000
theorem M63_5:FC Tryz.prog tt 63 [] [(.lst 59 l10),(.lst 63 nl),(.agg [(.int .i64 8),(.str []),(.str []),(.lst 26 l0),(.lst 81 l8)]),(.agg [(.int .i64 8),(.str []),(.str []),(.lst 26 l0),(.lst 81 l5)])] (Is (.bool false) []):=runT (R:=rn2) (by decide +kernel)
end Go.VC.T07
end

section
namespace Go.VC.T07
open Go Go.VC Go.Proofs
set_option maxRecDepth 100000
theorem M63_6:FC Tryz.prog tt 63 [] [(.lst 59 nl),(.lst 63 nl),(.agg [(.int .i64 0),(.str []),(.str []),(.lst 26 nl),(.lst 81 nl)]),(.agg [(.int .i64 1),(.str []),(.str []),(.lst 26 nl),(.lst 81 nl)])] (Is (.bool false) []):=runT (R:=rn2) (by decide +kernel)
theorem M63_7:FC Tryz.prog tt 63 [] [(.lst 59 nl),(.lst 63 nl),(.agg [(.int .i64 1),(.str []),(.str []),(.lst 26 nl),(.lst 81 nl)]),(.agg [(.int .i64 0),(.str []),(.str []),(.lst 26 nl),(.lst 81 nl)])] (Is (.bool true) []):=runT (R:=rn2) (by decide +kernel)
end Go.VC.T07
end
