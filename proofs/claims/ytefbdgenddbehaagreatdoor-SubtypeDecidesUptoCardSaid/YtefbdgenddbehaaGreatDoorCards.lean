/-
  DERIVED. GIVEN WITH THE SEED: THE CARDS: each row of YtefbdgenddbehaaGreatDoorRows.lean that lists a variable, with what it lists TIED to the program's text (the seventh form; the later family's looks); each row that meets fmt, with fmt's text TOLD by the authors' own Lean function (tested against real Go, not proved from fmt's source: count such statements apart). THE CARD IS WHAT COUNTS. Prove the row's statement (the work); the ties are given (YtefbdgenddbehaaGreatDoorTie.lean); close each card by the builder's one call (the guide's Derived/Test/ToyasCard.lean, 'card_holds'). Laid BY PROGRAM, IN A SANDBOX (cutbox-door.mjs). By AI agents, Wed Nov 11 2026. No macro, syntax, notation, axiom, sorry.
-/
import Derived.Test.YtefbdgenddbehaaGreatDoorRows
import GoSem.ClaimSeven
namespace Go.Proofs.YtefbdgenddbehaaGreatDoor
namespace Rows

/-- THE TIED CARD OF 'modcertlaw09.SubtypeDecides'. -/
def subtypeDecidesCard : Claim7 := { stood := { row := subtypeDecidesRow, standIns := [], harness := (true, "b5251eb14e8711e5ecf9c67b457d5b1a5545b9caf4a268e7619b824f81478e39"), looks := false }, kinds := [], alts := [], laidByText := true, laidKinds := [.data, .data, .data, .data, .pinned], laidTests := true, laidLooks := .later }
def SubtypeDecidesCardSaid : Prop := Claim7.holds Tryz.pinned (.plain (OpenSpec.ofChange subtypeDecidesSpec)) subtypeDecidesCard

/-- THE TIED CARD OF 'modcertlaw09.SubtypeValid'. -/
def subtypeValidCard : Claim7 := { stood := { row := subtypeValidRow, standIns := [], harness := (true, "b5251eb14e8711e5ecf9c67b457d5b1a5545b9caf4a268e7619b824f81478e39"), looks := false }, kinds := [], alts := [], laidByText := true, laidKinds := [.data, .data, .data, .data, .pinned], laidTests := true, laidLooks := .later }
def SubtypeValidCardSaid : Prop := Claim7.holds Tryz.pinned (.plain (OpenSpec.ofChange subtypeValidSpec)) subtypeValidCard

/-- THE SECOND FORM's CARD OF 'modcertlaw09.SubtypeDecides'. -/
def subtypeDecidesUptoCard : Claim7 := { stood := { row := subtypeDecidesUptoRow, standIns := [], harness := (true, "b5251eb14e8711e5ecf9c67b457d5b1a5545b9caf4a268e7619b824f81478e39"), looks := false }, kinds := [], alts := [], laidByText := true, laidKinds := [.data, .data, .data, .data, .pinned], laidTests := true, laidLooks := .later }
def SubtypeDecidesUptoCardSaid : Prop := Claim7.holds Tryz.pinned (.plain (OpenSpec.upto subtypeDecidesSpec)) subtypeDecidesUptoCard

/-- THE SECOND FORM's CARD OF 'modcertlaw09.SubtypeValid'. -/
def subtypeValidUptoCard : Claim7 := { stood := { row := subtypeValidUptoRow, standIns := [], harness := (true, "b5251eb14e8711e5ecf9c67b457d5b1a5545b9caf4a268e7619b824f81478e39"), looks := false }, kinds := [], alts := [], laidByText := true, laidKinds := [.data, .data, .data, .data, .pinned], laidTests := true, laidLooks := .later }
def SubtypeValidUptoCardSaid : Prop := Claim7.holds Tryz.pinned (.plain (OpenSpec.upto subtypeValidSpec)) subtypeValidUptoCard
end Rows
end Go.Proofs.YtefbdgenddbehaaGreatDoor
