/- Part 10 of the common texts: V02. -/
import Derived.Test.YtlpanbeeckdbpaaGreatDoorPart9
set_option linter.all false
set_option maxRecDepth 100000
set_option maxHeartbeats 16000000

section
namespace Go.VC.T07
open Go Go.VC Go.Proofs
set_option maxRecDepth 100000
theorem V02:FC Tryz.prog tt 72 [] [.lst 59 (envD 2)] (Is (.bool true) []):=runT (R:=rnF) (by decide +kernel)
end Go.VC.T07
end
