/- What the law SubtypeDecides's card asks of the program's own text: facts that the kernel reckons, one by one. -/
import Derived.Test.YtefbdgenddbehaaGreatDoorCards
import Derived.Test.YtefbdgenddbehaaGreatDoorTie
import Derived.SevenTiedAt
set_option linter.all false
set_option maxRecDepth 100000
set_option maxHeartbeats 16000000
namespace Go.Proofs.YtefbdgenddbehaaGreatDoor
open Go
theorem j1:(Rows.subtypeDecidesUptoRow.inPlace==Tryz.pinned.checked.prog.inPlace 3)=true:=by kernel_rfl
theorem j2:(Rows.subtypeDecidesUptoRow.unfollowed==Tryz.pinned.checked.prog.unfollowed 3)=true:=by kernel_rfl
theorem j3:(Rows.subtypeDecidesUptoRow.recurses==Tryz.pinned.checked.prog.recurses 3)=true:=by kernel_rfl
theorem j4:(Rows.subtypeDecidesUptoRow.named==Tryz.pinned.checked.prog.varsNamed 3)=true:=by kernel_rfl
theorem jF:joinedFacts Tryz.pinned.checked.prog 3 Tryz.f3 (Rows.OpenSpec.upto Rows.subtypeDecidesSpec).bare Rows.subtypeDecidesUptoRow=true:=by
 unfold joinedFacts
 rw[j1,j2,j3,j4]
 kernel_rfl
theorem gB:false=Rows.subtypeDecidesUptoRow.goesBy Tryz.pinned.checked.prog:=by kernel_rfl
end Go.Proofs.YtefbdgenddbehaaGreatDoor
