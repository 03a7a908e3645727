/- Part 15 of the common texts. -/
import Derived.Test.YtflmompnagpjeaaGreatDoorCards
import Derived.Test.YtflmompnagpjeaaGreatDoorTie
import Derived.SevenTiedAt
set_option linter.all false
set_option maxRecDepth 100000
set_option maxHeartbeats 16000000
set_option maxRecDepth 100000
namespace Go.Proofs.YtflmompnagpjeaaGreatDoor
open Go
theorem j1:(Rows.conditionShowsUptoRow.inPlace==Tryz.pinned.checked.prog.inPlace 4)=true:=by kernel_rfl
theorem j2:(Rows.conditionShowsUptoRow.unfollowed==Tryz.pinned.checked.prog.unfollowed 4)=true:=by kernel_rfl
theorem j3:(Rows.conditionShowsUptoRow.recurses==Tryz.pinned.checked.prog.recurses 4)=true:=by kernel_rfl
theorem j4:(Rows.conditionShowsUptoRow.named==Tryz.pinned.checked.prog.varsNamed 4)=true:=by kernel_rfl
theorem jF:joinedFacts Tryz.pinned.checked.prog 4 Tryz.f4 (Rows.OpenSpec.upto Rows.conditionShowsSpec).bare Rows.conditionShowsUptoRow=true:=by unfold joinedFacts;rw[j1,j2,j3,j4];kernel_rfl
theorem gB:false=Rows.conditionShowsUptoRow.goesBy Tryz.pinned.checked.prog:=by kernel_rfl
end Go.Proofs.YtflmompnagpjeaaGreatDoor
