/- Part 34 of the common texts: M6a M6b M6c M6d M6e M6. -/
import Derived.Test.YtlpanbeeckdbpaaGreatDoorPart33
set_option linter.all false
set_option maxRecDepth 100000
set_option maxHeartbeats 16000000

section
namespace Go.VC.T07
open Go Go.VC Go.Proofs
set_option maxRecDepth 100000
theorem M29_0:FC Tryz.prog tt 29 [] [(.lst 59 l12),(.lst 63 nl),(.agg [(.int .i64 8),(.str []),(.str []),(.lst 26 l0),(.lst 81 l5)]),(.agg [(.int .i64 8),(.str []),(.str []),(.lst 26 l0),(.lst 81 l8)])] (Is (.int .i64 3) []):=runT (R:=rn5) (by decide +kernel)
end Go.VC.T07
end

section
namespace Go.VC.T07
open Go Go.VC Go.Proofs
set_option maxRecDepth 100000
theorem M29_1:FC Tryz.prog tt 29 [] [(.lst 59 l10),(.lst 63 nl),(.agg [(.int .i64 8),(.str []),(.str []),(.lst 26 l0),(.lst 81 l8)]),(.agg [(.int .i64 8),(.str []),(.str []),(.lst 26 l0),(.lst 81 l5)])] (Is (.int .i64 2) []):=runT (R:=rn5) (by decide +kernel)
end Go.VC.T07
end

section
namespace Go.VC.T07
open Go Go.VC Go.Proofs
set_option maxRecDepth 100000
theorem M29_2:FC Tryz.prog tt 29 [] [(.lst 59 nl),(.lst 63 nl),(.agg [(.int .i64 1),(.str []),(.str []),(.lst 26 nl),(.lst 81 nl)]),(.agg [(.int .i64 0),(.str []),(.str []),(.lst 26 nl),(.lst 81 nl)])] (Is (.int .i64 3) []):=runT (R:=rn5) (by decide +kernel)
end Go.VC.T07
end

section
namespace Go.VC.T07
open Go Go.VC Go.Proofs
set_option maxRecDepth 100000
theorem M55_0:FC Tryz.prog tt 55 [] [(.lst 59 l10),(.lst 59 l12),(.str [109,47,118,49])] (Is (.int .i64 0) []):=runT (R:=rn5) (by decide +kernel)
end Go.VC.T07
end

section
namespace Go.VC.T07
open Go Go.VC Go.Proofs
set_option maxRecDepth 100000
theorem M55_1:FC Tryz.prog tt 55 [] [(.lst 59 l12),(.lst 59 l10),(.str [109,47,118,49])] (Is (.int .i64 0) []):=runT (R:=rn5) (by decide +kernel)
end Go.VC.T07
end

section
namespace Go.VC.T07
open Go Go.VC Go.Proofs
noncomputable section
def orc6 (f:FuncId) (o:List Ob) (a:List PV):Option { r:PV×List Ob // ∀ K:PV→List Ob→Prop,K r.1 r.2→FC Tryz.prog tt f o a K }:=
 match f with
 |29=>tryM o a [⟨_,_,_,_,M29_0⟩,⟨_,_,_,_,M29_1⟩,⟨_,_,_,_,M29_2⟩]
 |55=>tryM o a [⟨_,_,_,_,M55_0⟩,⟨_,_,_,_,M55_1⟩]
 |f=>orc5 f o a
def rn6:Sd.Rn Tryz.prog tt:={ rnF with orc:=orc6 }
end
end Go.VC.T07
end
