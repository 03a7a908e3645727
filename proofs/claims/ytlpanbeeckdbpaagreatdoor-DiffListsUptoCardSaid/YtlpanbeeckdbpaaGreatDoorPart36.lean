/- Part 36 of the common texts: M7b M7. -/
import Derived.Test.YtlpanbeeckdbpaaGreatDoorPart34
import Derived.Test.YtlpanbeeckdbpaaGreatDoorPart35
set_option linter.all false
set_option maxRecDepth 100000
set_option maxHeartbeats 16000000

section
namespace Go.VC.T07
open Go Go.VC Go.Proofs
set_option maxRecDepth 100000
theorem M28_0:FC Tryz.prog tt 28 [] [(.lst 59 l12),(.lst 59 l10),(.str [109,47,118,49]),(.str [102])] (Is (.tup [(.lst 34 (.list [[(.int 12),(.str [102]),(.str []),(.int 0),(.int 2),(.bool true),(.bool true)]])),(.int .i64 0)]) []):=runT (R:=rn6) (by decide +kernel)
end Go.VC.T07
end

section
namespace Go.VC.T07
open Go Go.VC Go.Proofs
noncomputable section
def orc7 (f:FuncId) (o:List Ob) (a:List PV):Option { r:PV×List Ob // ∀ K:PV→List Ob→Prop,K r.1 r.2→FC Tryz.prog tt f o a K }:=
 match f with
 |27=>tryM o a [⟨_,_,_,_,M27_0⟩]
 |28=>tryM o a [⟨_,_,_,_,M28_0⟩]
 |f=>orc6 f o a
def rn7:Sd.Rn Tryz.prog tt:={ rnF with orc:=orc7 }
end
end Go.VC.T07
end
