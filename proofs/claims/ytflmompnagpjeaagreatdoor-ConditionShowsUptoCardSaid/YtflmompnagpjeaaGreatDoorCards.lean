/-
  DERIVED. GIVEN WITH THE SEED: THE CARDS: each row of YtflmompnagpjeaaGreatDoorRows.lean that lists a variable, with what it lists TIED to the program's text (the seventh form; the later family's looks); each row that meets fmt, with fmt's text TOLD by the authors' own Lean function (tested against real Go, not proved from fmt's source: count such statements apart). THE CARD IS WHAT COUNTS. Prove the row's statement (the work); the ties are given (YtflmompnagpjeaaGreatDoorTie.lean); close each card by the builder's one call (the guide's Derived/Test/ToyasCard.lean, 'card_holds'). Laid BY PROGRAM, IN A SANDBOX (cutbox-door.mjs). By AI agents, Wed Nov 11 2026. No macro, syntax, notation, axiom, sorry.
-/
import Derived.Test.YtflmompnagpjeaaGreatDoorRows
import GoSem.ClaimSeven
namespace Go.Proofs.YtflmompnagpjeaaGreatDoor
namespace Rows

/-- THE TIED CARD OF 'modcertlaw16.DerivationNeeds'. -/
def derivationNeedsCard : Claim7 := { stood := { row := derivationNeedsRow, standIns := [], harness := (true, "1318e35d316de67a8666f676d3f2b6c1d3064fa8b07a4a4195c331b6889e204f"), looks := false }, kinds := [], alts := [], laidByText := true, laidKinds := [.data, .data, .data, .data, .pinned], laidTests := true, laidLooks := .later }
def DerivationNeedsCardSaid : Prop := Claim7.holds Tryz.pinned (.plain (OpenSpec.ofChange derivationNeedsSpec)) derivationNeedsCard

/-- THE TIED CARD OF 'modcertlaw17.ConditionShows'. -/
def conditionShowsCard : Claim7 := { stood := { row := conditionShowsRow, standIns := [], harness := (true, "1318e35d316de67a8666f676d3f2b6c1d3064fa8b07a4a4195c331b6889e204f"), looks := false }, kinds := [], alts := [], laidByText := true, laidKinds := [.data, .data, .data, .data, .pinned], laidTests := true, laidLooks := .later }
def ConditionShowsCardSaid : Prop := Claim7.holds Tryz.pinned (.plain (OpenSpec.ofChange conditionShowsSpec)) conditionShowsCard

/-- THE SECOND FORM's CARD OF 'modcertlaw16.DerivationNeeds'. -/
def derivationNeedsUptoCard : Claim7 := { stood := { row := derivationNeedsUptoRow, standIns := [], harness := (true, "1318e35d316de67a8666f676d3f2b6c1d3064fa8b07a4a4195c331b6889e204f"), looks := false }, kinds := [], alts := [], laidByText := true, laidKinds := [.data, .data, .data, .data, .pinned], laidTests := true, laidLooks := .later }
def DerivationNeedsUptoCardSaid : Prop := Claim7.holds Tryz.pinned (.plain (OpenSpec.upto derivationNeedsSpec)) derivationNeedsUptoCard

/-- THE SECOND FORM's CARD OF 'modcertlaw17.ConditionShows'. -/
def conditionShowsUptoCard : Claim7 := { stood := { row := conditionShowsUptoRow, standIns := [], harness := (true, "1318e35d316de67a8666f676d3f2b6c1d3064fa8b07a4a4195c331b6889e204f"), looks := false }, kinds := [], alts := [], laidByText := true, laidKinds := [.data, .data, .data, .data, .pinned], laidTests := true, laidLooks := .later }
def ConditionShowsUptoCardSaid : Prop := Claim7.holds Tryz.pinned (.plain (OpenSpec.upto conditionShowsSpec)) conditionShowsUptoCard
end Rows
end Go.Proofs.YtflmompnagpjeaaGreatDoor
