/- Part 31 of the common texts: M4c M4d M4e M4. -/
import Derived.Test.YtlpanbeeckdbpaaGreatDoorPart29
import Derived.Test.YtlpanbeeckdbpaaGreatDoorPart30
set_option linter.all false
set_option maxRecDepth 100000
set_option maxHeartbeats 16000000

section
namespace Go.VC.T07
open Go Go.VC Go.Proofs
set_option maxRecDepth 100000
theorem M62_2:FC Tryz.prog tt 62 [] [(.lst 59 l10),(.lst 63 nl),(.agg [(.int .i64 8),(.str []),(.str []),(.lst 26 l0),(.lst 81 l8)]),(.agg [(.int .i64 8),(.str []),(.str []),(.lst 26 l0),(.lst 81 l5)])] (Is (.bool true) []):=runT (R:=rn3) (by decide +kernel)
end Go.VC.T07
end

section
namespace Go.VC.T07
open Go Go.VC Go.Proofs
set_option maxRecDepth 100000
theorem M62_3:FC Tryz.prog tt 62 [] [(.lst 59 l10),(.lst 63 nl),(.agg [(.int .i64 8),(.str []),(.str []),(.lst 26 l0),(.lst 81 l5)]),(.agg [(.int .i64 8),(.str []),(.str []),(.lst 26 l0),(.lst 81 l8)])] (Is (.bool true) []):=runT (R:=rn3) (by decide +kernel)
end Go.VC.T07
end

section
namespace Go.VC.T07
open Go Go.VC Go.Proofs
set_option maxRecDepth 100000
theorem M62_4:FC Tryz.prog tt 62 [] [(.lst 59 nl),(.lst 63 nl),(.agg [(.int .i64 1),(.str []),(.str []),(.lst 26 nl),(.lst 81 nl)]),(.agg [(.int .i64 0),(.str []),(.str []),(.lst 26 nl),(.lst 81 nl)])] (Is (.bool true) []):=runT (R:=rn3) (by decide +kernel)
end Go.VC.T07
end

section
namespace Go.VC.T07
open Go Go.VC Go.Proofs
noncomputable section
def orc4 (f:FuncId) (o:List Ob) (a:List PV):Option { r:PV×List Ob // ∀ K:PV→List Ob→Prop,K r.1 r.2→FC Tryz.prog tt f o a K }:=
 match f with
 |62=>tryM o a [⟨_,_,_,_,M62_0⟩,⟨_,_,_,_,M62_1⟩,⟨_,_,_,_,M62_2⟩,⟨_,_,_,_,M62_3⟩,⟨_,_,_,_,M62_4⟩]
 |f=>orc3 f o a
def rn4:Sd.Rn Tryz.prog tt:={ rnF with orc:=orc4 }
end
end Go.VC.T07
end
