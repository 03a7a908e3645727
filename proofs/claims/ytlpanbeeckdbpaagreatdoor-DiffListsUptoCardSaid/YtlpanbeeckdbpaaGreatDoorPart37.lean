/- Part 37 of the common texts: A8. -/
import Derived.Test.YtlpanbeeckdbpaaGreatDoorPart36
set_option linter.all false
set_option maxRecDepth 100000
set_option maxHeartbeats 16000000

section
namespace Go.VC.T07
open Go Go.VC Go.Proofs
set_option maxRecDepth 100000
theorem awake19:FC Tryz.prog tt 8 [] [] (Is (.bool true) []):=runT (R:=rn7) (by decide +kernel)
theorem awake {K:PV→List Ob→Prop} (h:K (.bool true) []):FC Tryz.prog tt 8 [] [] K:=Is.K awake19 K h
end Go.VC.T07
end
