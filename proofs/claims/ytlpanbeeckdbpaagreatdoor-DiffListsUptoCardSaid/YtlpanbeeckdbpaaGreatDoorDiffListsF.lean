/- What the law DiffLists's card asks of the program's own text: facts that the kernel reckons, one by one. -/
import Derived.Test.YtlpanbeeckdbpaaGreatDoorCards
import Derived.Test.YtlpanbeeckdbpaaGreatDoorTie
import Derived.SevenTiedAt
set_option linter.all false
set_option maxRecDepth 100000
set_option maxHeartbeats 16000000
set_option maxRecDepth 100000
namespace Go.Proofs.YtlpanbeeckdbpaaGreatDoor
open Go
theorem j1 : (Rows.diffListsUptoRow.inPlace == Tryz.pinned.checked.prog.inPlace 4) = true := by kernel_rfl
theorem j2 : (Rows.diffListsUptoRow.unfollowed == Tryz.pinned.checked.prog.unfollowed 4) = true := by kernel_rfl
theorem j3 : (Rows.diffListsUptoRow.recurses == Tryz.pinned.checked.prog.recurses 4) = true := by kernel_rfl
theorem j4 : (Rows.diffListsUptoRow.named == Tryz.pinned.checked.prog.varsNamed 4) = true := by kernel_rfl
theorem jF : joinedFacts Tryz.pinned.checked.prog 4 Tryz.f4 (Rows.OpenSpec.upto Rows.diffListsSpec).bare Rows.diffListsUptoRow = true := by
  unfold joinedFacts
  rw [j1, j2, j3, j4]
  kernel_rfl
theorem gB : false = Rows.diffListsUptoRow.goesBy Tryz.pinned.checked.prog := by kernel_rfl
end Go.Proofs.YtlpanbeeckdbpaaGreatDoor
