/- Part 43 of the common texts: M6. -/
import Derived.Test.YtlpanbeeckdbpaaGreatDoorPart40
import Derived.Test.YtlpanbeeckdbpaaGreatDoorPart41
import Derived.Test.YtlpanbeeckdbpaaGreatDoorPart42
set_option linter.all false
set_option maxRecDepth 100000
set_option maxHeartbeats 16000000

section
namespace Go.VC.T07
open Go Go.VC Go.Proofs
noncomputable section
def orc6 (f:FuncId) (o:List Ob) (a:List PV):Option { r:PV×List Ob // ∀ K:PV→List Ob→Prop,K r.1 r.2→FC Tryz.prog tt f o a K }:=
 match f with
 |22=>tryM o a [⟨_,_,_,_,M22_0⟩]
 |23=>tryM o a [⟨_,_,_,_,M23_0⟩,⟨_,_,_,_,M23_1⟩]
 |f=>orc5 f o a
def rn6:Sd.Rn Tryz.prog tt:={ rnF with orc:=orc6 }
end
end Go.VC.T07
end
