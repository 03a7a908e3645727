/- Part 12 of the common texts: V01. -/
import Derived.Test.YtlpanbeeckdbpaaGreatDoorPart10
import Derived.Test.YtlpanbeeckdbpaaGreatDoorPart11
set_option linter.all false
set_option maxRecDepth 100000
set_option maxHeartbeats 16000000

section
namespace Go.VC.T07
open Go Go.VC Go.Proofs
noncomputable def orc0 (f:FuncId) (o:List Ob) (a:List PV):Option { r:PV×List Ob // ∀ K:PV→List Ob→Prop,K r.1 r.2→FC Tryz.prog tt f o a K }:=
 match f with
 |72=>tryM o a [⟨_,_,_,_,V02⟩,⟨_,_,_,_,V04⟩]
 |f=>orcK f o a
noncomputable def rn0:Sd.Rn Tryz.prog tt:={ rnF with orc:=orc0 }
end Go.VC.T07
end
