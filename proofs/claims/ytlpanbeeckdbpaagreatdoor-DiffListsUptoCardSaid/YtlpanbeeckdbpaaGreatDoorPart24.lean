/- Part 24 of the common texts: M2j M2. -/
import Derived.Test.YtlpanbeeckdbpaaGreatDoorPart19
import Derived.Test.YtlpanbeeckdbpaaGreatDoorPart20
import Derived.Test.YtlpanbeeckdbpaaGreatDoorPart21
import Derived.Test.YtlpanbeeckdbpaaGreatDoorPart22
import Derived.Test.YtlpanbeeckdbpaaGreatDoorPart23
set_option linter.all false
set_option maxRecDepth 100000
set_option maxHeartbeats 16000000

section
namespace Go.VC.T07
open Go Go.VC Go.Proofs
set_option maxRecDepth 100000
theorem M80_1:FC Tryz.prog tt 80 [] [(.lst 59 l12),(.str [109,47,118,49]),(.str [102])] (Is (.tup [(.agg [(.str [102]),(.lst 63 nl),(.int .i64 8),(.str []),(.str []),(.lst 26 l0),(.lst 81 l8)]),(.str [109,47,118,49]),(.int .i64 0)]) []):=runT (R:=rn1) (by decide +kernel)
theorem M82_0:FC Tryz.prog tt 82 [] [(.lst 59 l10),(.str [109,47,118,49]),(.str [102])] (Is (.tup [(.agg [(.str []),(.lst 63 nl),(.int .i64 0),(.str []),(.str []),(.lst 26 nl),(.lst 81 nl),(.int .i64 0),(.str []),(.str []),(.lst 26 nl),(.lst 81 nl)]),(.str []),(.int .i64 6)]) []):=runT (R:=rn1) (by decide +kernel)
theorem M82_1:FC Tryz.prog tt 82 [] [(.lst 59 l12),(.str [109,47,118,49]),(.str [102])] (Is (.tup [(.agg [(.str []),(.lst 63 nl),(.int .i64 0),(.str []),(.str []),(.lst 26 nl),(.lst 81 nl),(.int .i64 0),(.str []),(.str []),(.lst 26 nl),(.lst 81 nl)]),(.str []),(.int .i64 6)]) []):=runT (R:=rn1) (by decide +kernel)
theorem M84_0:FC Tryz.prog tt 84 [] [(.lst 59 l10),(.str [109,47,118,49]),(.str [102])] (Is (.tup [(.str [109,47,118,49]),(.str [102]),(.int .i64 0)]) []):=runT (R:=rn1) (by decide +kernel)
theorem M84_1:FC Tryz.prog tt 84 [] [(.lst 59 l12),(.str [109,47,118,49]),(.str [102])] (Is (.tup [(.str [109,47,118,49]),(.str [102]),(.int .i64 0)]) []):=runT (R:=rn1) (by decide +kernel)
end Go.VC.T07
end

section
namespace Go.VC.T07
open Go Go.VC Go.Proofs
noncomputable section
def orc2 (f:FuncId) (o:List Ob) (a:List PV):Option { r:PV×List Ob // ∀ K:PV→List Ob→Prop,K r.1 r.2→FC Tryz.prog tt f o a K }:=
 match f with
 |205=>tryM o a [⟨_,_,_,_,M205_0⟩,⟨_,_,_,_,M205_1⟩,⟨_,_,_,_,M205_2⟩,⟨_,_,_,_,M205_3⟩,⟨_,_,_,_,M205_4⟩,⟨_,_,_,_,M205_5⟩,⟨_,_,_,_,M205_6⟩,⟨_,_,_,_,M205_7⟩,⟨_,_,_,_,M205_8⟩,⟨_,_,_,_,M205_9⟩,⟨_,_,_,_,M205_10⟩,⟨_,_,_,_,M205_11⟩]
 |42=>tryM o a [⟨_,_,_,_,M42_0⟩,⟨_,_,_,_,M42_1⟩]
 |80=>tryM o a [⟨_,_,_,_,M80_0⟩,⟨_,_,_,_,M80_1⟩]
 |82=>tryM o a [⟨_,_,_,_,M82_0⟩,⟨_,_,_,_,M82_1⟩]
 |84=>tryM o a [⟨_,_,_,_,M84_0⟩,⟨_,_,_,_,M84_1⟩]
 |f=>orc1 f o a
def rn2:Sd.Rn Tryz.prog tt:={ rnF with orc:=orc2 }
end
end Go.VC.T07
end
