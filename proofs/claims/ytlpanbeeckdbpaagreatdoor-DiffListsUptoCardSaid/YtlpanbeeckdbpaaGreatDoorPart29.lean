/- Part 29 of the common texts: M3i M3j M3. -/
import Derived.Test.YtlpanbeeckdbpaaGreatDoorPart24
import Derived.Test.YtlpanbeeckdbpaaGreatDoorPart25
import Derived.Test.YtlpanbeeckdbpaaGreatDoorPart26
import Derived.Test.YtlpanbeeckdbpaaGreatDoorPart27
import Derived.Test.YtlpanbeeckdbpaaGreatDoorPart28
set_option linter.all false
set_option maxRecDepth 100000
set_option maxHeartbeats 16000000

section
namespace Go.VC.T07
open Go Go.VC Go.Proofs
set_option maxRecDepth 100000
theorem M72_1:FC Tryz.prog tt 72 [] [(.lst 59 l12)] (Is (.bool true) []):=runT (R:=rn2) (by decide +kernel)
end Go.VC.T07
end

section
namespace Go.VC.T07
open Go Go.VC Go.Proofs
set_option maxRecDepth 100000
theorem M72_2:FC Tryz.prog tt 72 [] [(.lst 59 nl)] (Is (.bool true) []):=runT (R:=rn2) (by decide +kernel)
end Go.VC.T07
end

section
namespace Go.VC.T07
open Go Go.VC Go.Proofs
noncomputable section
def orc3 (f:FuncId) (o:List Ob) (a:List PV):Option { r:PV×List Ob // ∀ K:PV→List Ob→Prop,K r.1 r.2→FC Tryz.prog tt f o a K }:=
 match f with
 |63=>tryM o a [⟨_,_,_,_,M63_0⟩,⟨_,_,_,_,M63_1⟩,⟨_,_,_,_,M63_2⟩,⟨_,_,_,_,M63_3⟩,⟨_,_,_,_,M63_4⟩,⟨_,_,_,_,M63_5⟩,⟨_,_,_,_,M63_6⟩,⟨_,_,_,_,M63_7⟩]
 |72=>tryM o a [⟨_,_,_,_,M72_0⟩,⟨_,_,_,_,M72_1⟩,⟨_,_,_,_,M72_2⟩]
 |f=>orc2 f o a
def rn3:Sd.Rn Tryz.prog tt:={ rnF with orc:=orc3 }
end
end Go.VC.T07
end
