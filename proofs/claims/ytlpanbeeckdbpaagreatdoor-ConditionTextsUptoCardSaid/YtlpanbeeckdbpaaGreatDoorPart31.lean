/- Part 31 of the common texts: M4 M5a. -/
import Derived.Test.YtlpanbeeckdbpaaGreatDoorPart25
import Derived.Test.YtlpanbeeckdbpaaGreatDoorPart26
import Derived.Test.YtlpanbeeckdbpaaGreatDoorPart27
import Derived.Test.YtlpanbeeckdbpaaGreatDoorPart28
import Derived.Test.YtlpanbeeckdbpaaGreatDoorPart29
import Derived.Test.YtlpanbeeckdbpaaGreatDoorPart30
set_option linter.all false
set_option maxRecDepth 100000
set_option maxHeartbeats 16000000

section
namespace Go.VC.T07
open Go Go.VC Go.Proofs
noncomputable section
def orc4 (f:FuncId) (o:List Ob) (a:List PV):Option { r:PV×List Ob // ∀ K:PV→List Ob→Prop,K r.1 r.2→FC Tryz.prog tt f o a K }:=
 match f with
 |130=>tryM o a [⟨_,_,_,_,M130_0⟩,⟨_,_,_,_,M130_1⟩]
 |133=>tryM o a [⟨_,_,_,_,M133_0⟩,⟨_,_,_,_,M133_1⟩,⟨_,_,_,_,M133_2⟩,⟨_,_,_,_,M133_3⟩]
 |f=>orc3 f o a
def rn4:Sd.Rn Tryz.prog tt:={ rnF with orc:=orc4 }
end
end Go.VC.T07
end

section
namespace Go.VC.T07
open Go Go.VC Go.Proofs
set_option maxRecDepth 100000
theorem M20_0:FC Tryz.prog tt 20 [] [(.lst 59 (envD 2)),(.agg [(.int .i64 0),(.str sm),(.str []),(.int .i64 0),(.lst 63 nl),(.int .i64 0),(.str []),(.str []),(.lst 26 nl),(.lst 81 nl),(.int .i64 0),(.str []),(.str []),(.lst 26 nl),(.lst 81 nl)])] (Is (.bool true) []):=runT (R:=rn4) (by decide +kernel)
end Go.VC.T07
end
