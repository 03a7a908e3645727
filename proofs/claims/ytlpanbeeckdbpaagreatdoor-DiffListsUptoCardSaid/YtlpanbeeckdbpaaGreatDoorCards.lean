/-
  DERIVED. GIVEN WITH THE SEED: THE CARDS: each row of YtlpanbeeckdbpaaGreatDoorRows.lean that lists a variable, with what it lists TIED to the program's text (the seventh form; the later family's looks); each row that meets fmt, with fmt's text TOLD by the authors' own Lean function (tested against real Go, not proved from fmt's source: count such statements apart). THE CARD IS WHAT COUNTS. Prove the row's statement (the work); the ties are given (YtlpanbeeckdbpaaGreatDoorTie.lean); close each card by the builder's one call (the guide's Derived/Test/ToyasCard.lean, 'card_holds'). Laid BY PROGRAM, IN A SANDBOX (cutbox-door.mjs). By AI agents, Wed Nov 11 2026. No macro, syntax, notation, axiom, sorry.
-/
import Derived.Test.YtlpanbeeckdbpaaGreatDoorRows
import GoSem.ClaimSeven
namespace Go.Proofs.YtlpanbeeckdbpaaGreatDoor
namespace Rows

/-- THE TIED CARD OF 'modcertlaw17.ConditionTexts'. -/
def conditionTextsCard : Claim7 := { stood := { row := conditionTextsRow, standIns := [], harness := (true, "6a8ffabead83f5d4a754420ba49ac911594b330b14361c83e13e2dea099df50f"), looks := false }, kinds := [], alts := [], laidByText := true, laidKinds := [.data, .data, .data, .data, .pinned], laidTests := true, laidLooks := .later }
def ConditionTextsCardSaid : Prop := Claim7.holds Tryz.pinned (.plain (OpenSpec.ofChange conditionTextsSpec)) conditionTextsCard

/-- THE TIED CARD OF 'modcertlaw19.DiffLists'. -/
def diffListsCard : Claim7 := { stood := { row := diffListsRow, standIns := [], harness := (true, "6a8ffabead83f5d4a754420ba49ac911594b330b14361c83e13e2dea099df50f"), looks := false }, kinds := [], alts := [], laidByText := true, laidKinds := [.data, .data, .data, .data, .listed, .data, .pinned], laidTests := true, laidLooks := .later }
def DiffListsCardSaid : Prop := Claim7.holds Tryz.pinned (.plain (OpenSpec.ofChange diffListsSpec)) diffListsCard

/-- THE SECOND FORM's CARD OF 'modcertlaw17.ConditionTexts'. -/
def conditionTextsUptoCard : Claim7 := { stood := { row := conditionTextsUptoRow, standIns := [], harness := (true, "6a8ffabead83f5d4a754420ba49ac911594b330b14361c83e13e2dea099df50f"), looks := false }, kinds := [], alts := [], laidByText := true, laidKinds := [.data, .data, .data, .data, .pinned], laidTests := true, laidLooks := .later }
def ConditionTextsUptoCardSaid : Prop := Claim7.holds Tryz.pinned (.plain (OpenSpec.upto conditionTextsSpec)) conditionTextsUptoCard

/-- THE SECOND FORM's CARD OF 'modcertlaw19.DiffLists'. -/
def diffListsUptoCard : Claim7 := { stood := { row := diffListsUptoRow, standIns := [], harness := (true, "6a8ffabead83f5d4a754420ba49ac911594b330b14361c83e13e2dea099df50f"), looks := false }, kinds := [], alts := [], laidByText := true, laidKinds := [.data, .data, .data, .data, .listed, .data, .pinned], laidTests := true, laidLooks := .later }
def DiffListsUptoCardSaid : Prop := Claim7.holds Tryz.pinned (.plain (OpenSpec.upto diffListsSpec)) diffListsUptoCard
end Rows
end Go.Proofs.YtlpanbeeckdbpaaGreatDoor
