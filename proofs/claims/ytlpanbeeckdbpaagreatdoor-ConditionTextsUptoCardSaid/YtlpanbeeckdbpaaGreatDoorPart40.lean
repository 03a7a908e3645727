/- Part 40 of the common texts: M5 M6a. -/
import Derived.Test.YtlpanbeeckdbpaaGreatDoorPart31
import Derived.Test.YtlpanbeeckdbpaaGreatDoorPart32
import Derived.Test.YtlpanbeeckdbpaaGreatDoorPart33
import Derived.Test.YtlpanbeeckdbpaaGreatDoorPart34
import Derived.Test.YtlpanbeeckdbpaaGreatDoorPart35
import Derived.Test.YtlpanbeeckdbpaaGreatDoorPart36
import Derived.Test.YtlpanbeeckdbpaaGreatDoorPart37
import Derived.Test.YtlpanbeeckdbpaaGreatDoorPart38
import Derived.Test.YtlpanbeeckdbpaaGreatDoorPart39
set_option linter.all false
set_option maxRecDepth 100000
set_option maxHeartbeats 16000000

section
namespace Go.VC.T07
open Go Go.VC Go.Proofs
noncomputable section
def orc5 (f:FuncId) (o:List Ob) (a:List PV):Option { r:PV×List Ob // ∀ K:PV→List Ob→Prop,K r.1 r.2→FC Tryz.prog tt f o a K }:=
 match f with
 |20=>tryM o a [⟨_,_,_,_,M20_0⟩,⟨_,_,_,_,M20_1⟩,⟨_,_,_,_,M20_2⟩,⟨_,_,_,_,M20_3⟩,⟨_,_,_,_,M20_4⟩,⟨_,_,_,_,M20_5⟩,⟨_,_,_,_,M20_6⟩,⟨_,_,_,_,M20_7⟩,⟨_,_,_,_,M20_8⟩]
 |f=>orc4 f o a
def rn5:Sd.Rn Tryz.prog tt:={ rnF with orc:=orc5 }
end
end Go.VC.T07
end

section
namespace Go.VC.T07
open Go Go.VC Go.Proofs
set_option maxRecDepth 100000
theorem M22_0:FC Tryz.prog tt 22 [(.row 59 (envD 2) true)] [(.row 59 0),(.agg [(.int .i64 8),(.str sm),(.str [118]),(.int .i64 0),(.lst 63 nl),(.int .i64 0),(.str []),(.str []),(.lst 26 nl),(.lst 81 nl),(.int .i64 2),(.str []),(.str []),(.lst 26 nl),(.lst 81 nl)])] (Is (.tup [(.row 99 1),(.bool true)]) [(.row 59 (envD 2) true),(.row 99 (.list [[(.int 1),(.int 2),(.str []),(.str []),nl,nl,(.int 2),(.str []),(.str []),nl,nl]]) false)]):=runT (R:=rn5) (by decide +kernel)
end Go.VC.T07
end
