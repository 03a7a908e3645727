/- Part 33 of the common texts: M5b M5. -/
import Derived.Test.YtlpanbeeckdbpaaGreatDoorPart31
import Derived.Test.YtlpanbeeckdbpaaGreatDoorPart32
set_option linter.all false
set_option maxRecDepth 100000
set_option maxHeartbeats 16000000

section
namespace Go.VC.T07
open Go Go.VC Go.Proofs
set_option maxRecDepth 100000
theorem M255_1:FC Tryz.prog tt 255 [] [(.lst 59 l10),(.lst 63 nl),(.agg [(.int .i64 8),(.str []),(.str []),(.lst 26 l0),(.lst 81 l5)]),(.agg [(.int .i64 8),(.str []),(.str []),(.lst 26 l0),(.lst 81 l8)])] (Is (.lst 341 nl) []):=runT (R:=rn4) (by decide +kernel)
end Go.VC.T07
end

section
namespace Go.VC.T07
open Go Go.VC Go.Proofs
noncomputable section
def orc5 (f:FuncId) (o:List Ob) (a:List PV):Option { r:PV×List Ob // ∀ K:PV→List Ob→Prop,K r.1 r.2→FC Tryz.prog tt f o a K }:=
 match f with
 |255=>tryM o a [⟨_,_,_,_,M255_0⟩,⟨_,_,_,_,M255_1⟩]
 |f=>orc4 f o a
def rn5:Sd.Rn Tryz.prog tt:={ rnF with orc:=orc5 }
end
end Go.VC.T07
end
