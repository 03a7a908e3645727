/- Part 15 of the common texts: M1c M1d M1. -/
import Derived.Test.YtlpanbeeckdbpaaGreatDoorPart12
import Derived.Test.YtlpanbeeckdbpaaGreatDoorPart13
import Derived.Test.YtlpanbeeckdbpaaGreatDoorPart14
set_option linter.all false
set_option maxRecDepth 100000
set_option maxHeartbeats 16000000

section
namespace Go.VC.T07
open Go Go.VC Go.Proofs
set_option maxRecDepth 100000
theorem M205_3:FC Tryz.prog tt 205 [] [(.lst 59 (envD 2)),(.lst 9 (.list [[(.str s0)]])),(.agg [(.int .i64 6),(.str []),(.str []),(.lst 26 nl),(.lst 81 (.list [[(.str [97]),(.int 0),(.str []),(.str []),nl,nl,(.bool false)]]))])] (Is (.int .i64 0) []):=runT (R:=rn0) (by decide +kernel)
theorem M205_4:FC Tryz.prog tt 205 [] [(.lst 59 (envD 2)),(.lst 9 (.list [[(.str s0)]])),(.agg [(.int .i64 1),(.str []),(.str []),(.lst 26 nl),(.lst 81 nl)])] (Is (.int .i64 0) []):=runT (R:=rn0) (by decide +kernel)
theorem M205_5:FC Tryz.prog tt 205 [] [(.lst 59 (envD 2)),(.lst 9 nl),(.agg [(.int .i64 2),(.str []),(.str []),(.lst 26 nl),(.lst 81 nl)])] (Is (.int .i64 0) []):=runT (R:=rn0) (by decide +kernel)
theorem M205_6:FC Tryz.prog tt 205 [] [(.lst 59 (envD 4)),(.lst 9 nl),(.agg [(.int .i64 2),(.str []),(.str []),(.lst 26 nl),(.lst 81 nl)])] (Is (.int .i64 0) []):=runT (R:=rn0) (by decide +kernel)
theorem M205_7:FC Tryz.prog tt 205 [] [(.lst 59 (envD 4)),(.lst 9 nl),(.agg [(.int .i64 4),(.str []),(.str []),(.lst 26 nl),(.lst 81 nl)])] (Is (.int .i64 0) []):=runT (R:=rn0) (by decide +kernel)
theorem M74_0:FC Tryz.prog tt 74 [] [(.agg [(.str sm),(.lst 83 entL),(.lst 53 (.list [[(.str [118]),nl,(.int 2),(.str []),(.str []),nl,nl]])),(.lst 197 nl),(.lst 200 nl)])] (Is (.agg [(.str sm),(.lst 83 entL),(.lst 53 (.list [[(.str [118]),nl,(.int 2),(.str []),(.str []),nl,nl]])),(.lst 197 nl),(.lst 200 nl)]) []):=runT (R:=rn0) (by decide +kernel)
end Go.VC.T07
end

section
namespace Go.VC.T07
open Go Go.VC Go.Proofs
set_option maxRecDepth 100000
theorem M74_1:FC Tryz.prog tt 74 [] [(.agg [(.str sm),(.lst 83 entL),(.lst 53 (.list [[(.str [118]),nl,(.int 4),(.str []),(.str []),nl,nl]])),(.lst 197 nl),(.lst 200 nl)])] (Is (.agg [(.str sm),(.lst 83 entL),(.lst 53 (.list [[(.str [118]),nl,(.int 4),(.str []),(.str []),nl,nl]])),(.lst 197 nl),(.lst 200 nl)]) []):=runT (R:=rn0) (by decide +kernel)
end Go.VC.T07
end

section
namespace Go.VC.T07
open Go Go.VC Go.Proofs
noncomputable section
def orc1 (f:FuncId) (o:List Ob) (a:List PV):Option { r:PV×List Ob // ∀ K:PV→List Ob→Prop,K r.1 r.2→FC Tryz.prog tt f o a K }:=
 match f with
 |137=>tryM o a [⟨_,_,_,_,M137_0⟩,⟨_,_,_,_,M137_1⟩,⟨_,_,_,_,M137_2⟩,⟨_,_,_,_,M137_3⟩,⟨_,_,_,_,M137_4⟩,⟨_,_,_,_,M137_5⟩]
 |205=>tryM o a [⟨_,_,_,_,M205_0⟩,⟨_,_,_,_,M205_1⟩,⟨_,_,_,_,M205_2⟩,⟨_,_,_,_,M205_3⟩,⟨_,_,_,_,M205_4⟩,⟨_,_,_,_,M205_5⟩,⟨_,_,_,_,M205_6⟩,⟨_,_,_,_,M205_7⟩]
 |74=>tryM o a [⟨_,_,_,_,M74_0⟩,⟨_,_,_,_,M74_1⟩]
 |f=>orc0 f o a
def rn1:Sd.Rn Tryz.prog tt:={ rnF with orc:=orc1 }
end
end Go.VC.T07
end
