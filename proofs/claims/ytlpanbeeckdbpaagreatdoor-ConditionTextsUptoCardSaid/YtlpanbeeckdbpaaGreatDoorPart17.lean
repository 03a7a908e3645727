/- Part 17 of the common texts: M2b M2. -/
import Derived.Test.YtlpanbeeckdbpaaGreatDoorPart15
import Derived.Test.YtlpanbeeckdbpaaGreatDoorPart16
set_option linter.all false
set_option maxRecDepth 100000
set_option maxHeartbeats 16000000

section
namespace Go.VC.T07
open Go Go.VC Go.Proofs
set_option maxRecDepth 100000
theorem M82_0:FC Tryz.prog tt 82 [] [(.lst 59 (envD 2)),(.str sm),(.str [78])] (Is (.tup [(.agg [(.str [78]),(.lst 63 (.list [[(.str s0),(.int 0),(.int 0),(.str []),(.str []),nl,nl]])),(.int .i64 1),(.str []),(.str []),(.lst 26 nl),(.lst 81 nl),(.int .i64 6),(.str []),(.str []),(.lst 26 nl),(.lst 81 fldL)]),(.str sm),(.int .i64 0)]) []):=runT (R:=rn1) (by decide +kernel)
theorem M203_0:FC Tryz.prog tt 203 [] [(.lst 59 (envD 2)),(.agg [(.int .i64 10),(.str sm),(.str [78]),(.lst 26 (.list [[(.int 9),(.str []),(.str s0),nl,nl]])),(.lst 81 nl)])] (Is (.tup [(.agg [(.int .i64 1),(.str []),(.str []),(.lst 26 nl),(.lst 81 nl)]),(.agg [(.int .i64 6),(.str []),(.str []),(.lst 26 nl),(.lst 81 fldL)]),(.int .i64 0)]) []):=runT (R:=rn1) (by decide +kernel)
end Go.VC.T07
end

section
namespace Go.VC.T07
open Go Go.VC Go.Proofs
noncomputable section
def orc2 (f:FuncId) (o:List Ob) (a:List PV):Option { r:PV×List Ob // ∀ K:PV→List Ob→Prop,K r.1 r.2→FC Tryz.prog tt f o a K }:=
 match f with
 |42=>tryM o a [⟨_,_,_,_,M42_0⟩,⟨_,_,_,_,M42_1⟩]
 |80=>tryM o a [⟨_,_,_,_,M80_0⟩,⟨_,_,_,_,M80_1⟩]
 |82=>tryM o a [⟨_,_,_,_,M82_0⟩]
 |203=>tryM o a [⟨_,_,_,_,M203_0⟩]
 |f=>orc1 f o a
def rn2:Sd.Rn Tryz.prog tt:={ rnF with orc:=orc2 }
end
end Go.VC.T07
end
