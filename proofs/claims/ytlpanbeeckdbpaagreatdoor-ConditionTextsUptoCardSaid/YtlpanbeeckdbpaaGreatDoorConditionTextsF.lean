/- What the law ConditionTexts's card asks of the program's own text: facts that the kernel reckons, one by one. -/
import Derived.Test.YtlpanbeeckdbpaaGreatDoorCards
import Derived.Test.YtlpanbeeckdbpaaGreatDoorTie
import Derived.SevenTiedAt
set_option linter.all false
set_option maxRecDepth 100000
set_option maxHeartbeats 16000000
set_option maxRecDepth 100000
namespace Go.Proofs.YtlpanbeeckdbpaaGreatDoor
open Go
theorem j1 : (Rows.conditionTextsUptoRow.inPlace == Tryz.pinned.checked.prog.inPlace 3) = true := by kernel_rfl
theorem j2 : (Rows.conditionTextsUptoRow.unfollowed == Tryz.pinned.checked.prog.unfollowed 3) = true := by kernel_rfl
theorem j3 : (Rows.conditionTextsUptoRow.recurses == Tryz.pinned.checked.prog.recurses 3) = true := by kernel_rfl
theorem j4 : (Rows.conditionTextsUptoRow.named == Tryz.pinned.checked.prog.varsNamed 3) = true := by kernel_rfl
theorem jF : joinedFacts Tryz.pinned.checked.prog 3 Tryz.f3 (Rows.OpenSpec.upto Rows.conditionTextsSpec).bare Rows.conditionTextsUptoRow = true := by
  unfold joinedFacts
  rw [j1, j2, j3, j4]
  kernel_rfl
theorem gB : false = Rows.conditionTextsUptoRow.goesBy Tryz.pinned.checked.prog := by kernel_rfl
end Go.Proofs.YtlpanbeeckdbpaaGreatDoor
