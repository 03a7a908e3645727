/- Part 21 of the common texts: M2c M2d M2e. -/
import Derived.Test.YtlpanbeeckdbpaaGreatDoorPart19
set_option linter.all false
set_option maxRecDepth 100000
set_option maxHeartbeats 16000000

section
namespace Go.VC.T07
open Go Go.VC Go.Proofs
set_option maxRecDepth 100000
theorem M205_2:FC Tryz.prog tt 205 [] [(.lst 59 l12),(.lst 9 nl),(.agg [(.int .i64 2),(.str []),(.str []),(.lst 26 nl),(.lst 81 nl)])] (Is (.int .i64 0) []):=runT (R:=rn1) (by decide +kernel)
theorem M205_3:FC Tryz.prog tt 205 [] [(.lst 59 l12),(.lst 9 nl),(.agg [(.int .i64 6),(.str []),(.str []),(.lst 26 nl),(.lst 81 l3)])] (Is (.int .i64 0) []):=runT (R:=rn1) (by decide +kernel)
theorem M205_4:FC Tryz.prog tt 205 [] [(.lst 59 l12),(.lst 9 nl),(.agg [(.int .i64 8),(.str []),(.str []),(.lst 26 l1),(.lst 81 l4)])] (Is (.int .i64 0) []):=runT (R:=rn1) (by decide +kernel)
end Go.VC.T07
end

section
namespace Go.VC.T07
open Go Go.VC Go.Proofs
set_option maxRecDepth 100000
theorem M205_5:FC Tryz.prog tt 205 [] [(.lst 59 l12),(.lst 9 nl),(.agg [(.int .i64 6),(.str []),(.str []),(.lst 26 nl),(.lst 81 l7)])] (Is (.int .i64 0) []):=runT (R:=rn1) (by decide +kernel)
end Go.VC.T07
end

section
namespace Go.VC.T07
open Go Go.VC Go.Proofs
set_option maxRecDepth 100000
theorem M205_6:FC Tryz.prog tt 205 [] [(.lst 59 l10),(.lst 9 nl),(.agg [(.int .i64 2),(.str []),(.str []),(.lst 26 nl),(.lst 81 nl)])] (Is (.int .i64 0) []):=runT (R:=rn1) (by decide +kernel)
end Go.VC.T07
end
