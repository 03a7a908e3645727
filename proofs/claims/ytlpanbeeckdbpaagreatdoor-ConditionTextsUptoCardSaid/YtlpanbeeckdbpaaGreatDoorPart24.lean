/- Part 24 of the common texts: M3. -/
import Derived.Test.YtlpanbeeckdbpaaGreatDoorPart18
import Derived.Test.YtlpanbeeckdbpaaGreatDoorPart19
import Derived.Test.YtlpanbeeckdbpaaGreatDoorPart20
import Derived.Test.YtlpanbeeckdbpaaGreatDoorPart21
import Derived.Test.YtlpanbeeckdbpaaGreatDoorPart22
import Derived.Test.YtlpanbeeckdbpaaGreatDoorPart23
set_option linter.all false
set_option maxRecDepth 100000
set_option maxHeartbeats 16000000

section
namespace Go.VC.T07
open Go Go.VC Go.Proofs
noncomputable section
def orc3 (f:FuncId) (o:List Ob) (a:List PV):Option { r:PV×List Ob // ∀ K:PV→List Ob→Prop,K r.1 r.2→FC Tryz.prog tt f o a K }:=
 match f with
 |194=>tryM o a [⟨_,_,_,_,M194_0⟩,⟨_,_,_,_,M194_1⟩,⟨_,_,_,_,M194_2⟩,⟨_,_,_,_,M194_3⟩,⟨_,_,_,_,M194_4⟩,⟨_,_,_,_,M194_5⟩]
 |63=>tryM o a [⟨_,_,_,_,M63_0⟩,⟨_,_,_,_,M63_1⟩,⟨_,_,_,_,M63_2⟩,⟨_,_,_,_,M63_3⟩,⟨_,_,_,_,M63_4⟩,⟨_,_,_,_,M63_5⟩]
 |f=>orc2 f o a
def rn3:Sd.Rn Tryz.prog tt:={ rnF with orc:=orc3 }
end
end Go.VC.T07
end
