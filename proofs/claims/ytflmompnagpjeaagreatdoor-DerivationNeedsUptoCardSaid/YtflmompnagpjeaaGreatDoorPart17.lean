/- Part 17 of the common texts. -/
import Derived.Test.YtflmompnagpjeaaGreatDoorCards
import Derived.Test.YtflmompnagpjeaaGreatDoorTie
import Derived.SevenTiedAt
set_option linter.all false
set_option maxRecDepth 100000
set_option maxHeartbeats 16000000
set_option maxRecDepth 100000
namespace Go.Proofs.YtflmompnagpjeaaGreatDoor
open Go
theorem j1:(Rows.derivationNeedsUptoRow.inPlace==Tryz.pinned.checked.prog.inPlace 3)=true:=by kernel_rfl
theorem j2:(Rows.derivationNeedsUptoRow.unfollowed==Tryz.pinned.checked.prog.unfollowed 3)=true:=by kernel_rfl
theorem j3:(Rows.derivationNeedsUptoRow.recurses==Tryz.pinned.checked.prog.recurses 3)=true:=by kernel_rfl
theorem j4:(Rows.derivationNeedsUptoRow.named==Tryz.pinned.checked.prog.varsNamed 3)=true:=by kernel_rfl
theorem jF:joinedFacts Tryz.pinned.checked.prog 3 Tryz.f3 (Rows.OpenSpec.upto Rows.derivationNeedsSpec).bare Rows.derivationNeedsUptoRow=true:=by unfold joinedFacts;rw[j1,j2,j3,j4];kernel_rfl
theorem gB:false=Rows.derivationNeedsUptoRow.goesBy Tryz.pinned.checked.prog:=by kernel_rfl
end Go.Proofs.YtflmompnagpjeaaGreatDoor
