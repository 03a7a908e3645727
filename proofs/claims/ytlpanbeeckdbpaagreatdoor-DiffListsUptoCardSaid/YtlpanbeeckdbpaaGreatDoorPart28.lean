/- Part 28 of the common texts: M3h. -/
import Derived.Test.YtlpanbeeckdbpaaGreatDoorPart24
set_option linter.all false
set_option maxRecDepth 100000
set_option maxHeartbeats 16000000

section
namespace Go.VC.T07
open Go Go.VC Go.Proofs
set_option maxRecDepth 100000
theorem M72_0:FC Tryz.prog tt 72 [] [(.lst 59 l10)] (Is (.bool true) []):=runT (R:=rn2) (by decide +kernel)
end Go.VC.T07
end
