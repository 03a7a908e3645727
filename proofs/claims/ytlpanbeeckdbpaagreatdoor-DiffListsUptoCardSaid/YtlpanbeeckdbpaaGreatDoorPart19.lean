/- Part 19 of the common texts: M1h M1i M1. -/
import Derived.Test.YtlpanbeeckdbpaaGreatDoorPart11
import Derived.Test.YtlpanbeeckdbpaaGreatDoorPart12
import Derived.Test.YtlpanbeeckdbpaaGreatDoorPart13
import Derived.Test.YtlpanbeeckdbpaaGreatDoorPart14
import Derived.Test.YtlpanbeeckdbpaaGreatDoorPart15
import Derived.Test.YtlpanbeeckdbpaaGreatDoorPart16
import Derived.Test.YtlpanbeeckdbpaaGreatDoorPart17
import Derived.Test.YtlpanbeeckdbpaaGreatDoorPart18
set_option linter.all false
set_option maxRecDepth 100000
set_option maxHeartbeats 16000000

section
namespace Go.VC.T07
open Go Go.VC Go.Proofs
set_option maxRecDepth 100000
theorem M281_6:FC Tryz.prog tt 281 [] [(.agg [(.int .i64 0),(.str []),(.str []),(.lst 26 nl),(.lst 81 nl)])] (Is (.int .i64 0) []):=runT (R:=rn0) (by decide +kernel)
theorem M281_7:FC Tryz.prog tt 281 [] [(.agg [(.int .i64 8),(.str []),(.str []),(.lst 26 l1),(.lst 81 l4)])] (Is (.int .i64 0) []):=runT (R:=rn0) (by decide +kernel)
theorem M281_8:FC Tryz.prog tt 281 [] [(.agg [(.int .i64 6),(.str []),(.str []),(.lst 26 nl),(.lst 81 l7)])] (Is (.int .i64 0) []):=runT (R:=rn0) (by decide +kernel)
theorem M281_9:FC Tryz.prog tt 281 [] [(.agg [(.int .i64 1),(.str []),(.str []),(.lst 26 nl),(.lst 81 nl)])] (Is (.int .i64 0) []):=runT (R:=rn0) (by decide +kernel)
theorem M74_0:FC Tryz.prog tt 74 [] [(.agg [(.str [109,47,118,49]),(.lst 83 nl),(.lst 53 l9),(.lst 197 nl),(.lst 200 nl)])] (Is (.agg [(.str [109,47,118,49]),(.lst 83 nl),(.lst 53 l9),(.lst 197 nl),(.lst 200 nl)]) []):=runT (R:=rn0) (by decide +kernel)
end Go.VC.T07
end

section
namespace Go.VC.T07
open Go Go.VC Go.Proofs
set_option maxRecDepth 100000
theorem M74_1:FC Tryz.prog tt 74 [] [(.agg [(.str [109,47,118,49]),(.lst 83 nl),(.lst 53 l11),(.lst 197 nl),(.lst 200 nl)])] (Is (.agg [(.str [109,47,118,49]),(.lst 83 nl),(.lst 53 l11),(.lst 197 nl),(.lst 200 nl)]) []):=runT (R:=rn0) (by decide +kernel)
end Go.VC.T07
end

section
namespace Go.VC.T07
open Go Go.VC Go.Proofs
noncomputable section
def orc1 (f:FuncId) (o:List Ob) (a:List PV):Option { r:PV×List Ob // ∀ K:PV→List Ob→Prop,K r.1 r.2→FC Tryz.prog tt f o a K }:=
 match f with
 |168=>tryM o a [⟨_,_,_,_,M168_0⟩,⟨_,_,_,_,M168_1⟩,⟨_,_,_,_,M168_2⟩,⟨_,_,_,_,M168_3⟩,⟨_,_,_,_,M168_4⟩,⟨_,_,_,_,M168_5⟩,⟨_,_,_,_,M168_6⟩]
 |137=>tryM o a [⟨_,_,_,_,M137_0⟩,⟨_,_,_,_,M137_1⟩,⟨_,_,_,_,M137_2⟩,⟨_,_,_,_,M137_3⟩,⟨_,_,_,_,M137_4⟩]
 |281=>tryM o a [⟨_,_,_,_,M281_0⟩,⟨_,_,_,_,M281_1⟩,⟨_,_,_,_,M281_2⟩,⟨_,_,_,_,M281_3⟩,⟨_,_,_,_,M281_4⟩,⟨_,_,_,_,M281_5⟩,⟨_,_,_,_,M281_6⟩,⟨_,_,_,_,M281_7⟩,⟨_,_,_,_,M281_8⟩,⟨_,_,_,_,M281_9⟩]
 |74=>tryM o a [⟨_,_,_,_,M74_0⟩,⟨_,_,_,_,M74_1⟩]
 |f=>orc0 f o a
def rn1:Sd.Rn Tryz.prog tt:={ rnF with orc:=orc1 }
end
end Go.VC.T07
end
