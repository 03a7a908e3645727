/- What the law SubtypeValid's card asks of the program's own text: facts that the kernel reckons. -/
import Derived.Test.YtefbdgenddbehaaGreatDoorCards
import Derived.Test.YtefbdgenddbehaaGreatDoorTie
import Derived.SevenTiedAt
set_option linter.all false
set_option maxRecDepth 100000
set_option maxHeartbeats 16000000
namespace Go.Proofs.YtefbdgenddbehaaGreatDoor
open Go
theorem jF:joinedFacts Tryz.pinned.checked.prog 4 Tryz.f4 (Rows.OpenSpec.upto Rows.subtypeValidSpec).bare Rows.subtypeValidUptoRow=true:=by kernel_rfl
theorem gB:false=Rows.subtypeValidUptoRow.goesBy Tryz.pinned.checked.prog:=by kernel_rfl
end Go.Proofs.YtefbdgenddbehaaGreatDoor
