/-
  NARROWER THAN 'FOR EVERY INPUT', by the rows' own cells (each row's printed sentence says how): EnvironFinds: loops · EnvironBounds: loops · EnvironChanges: loops · EnvironAdds: loops · EnvironArguments: loops · EnvironClosed: loops · EnvironChains: loops.
  DERIVED. THE GIVEN ROWS OF THIS SEAT. 7 by the template 'for every input the law returns true; each argument reads behind the call as it read before'; 0 by the template 'total and deterministic' (their statements: YtcdafdklkhdjeaaGreatTotals.lean).
  GIVEN WITH THE SEED: the statements are not yours to turn. If you find one false, say at which input.
  Laid BY PROGRAM, IN A SANDBOX (cutbox-rows.mjs): the forced cells as the released guide's own fill.sh prints them over the translation 4e823f5d801d9550… (all of the seat's roots in one cut). By AI agents, Wed Nov 11 2026. No macro, syntax, notation, axiom, sorry.
-/
import Derived.Test.YtcdafdklkhdjeaaGreatChecked
import GoSem.Claim
import GoSem.ClaimJoined
import GoSem.ClaimMapViews
import Derived.JoinedTies
import Derived.KernelRfl
namespace Go.Proofs.YtcdafdklkhdjeaaGreat
/- THE CELL 'sum', in the pinned program and in every row, IS THE sha256 OF THE DUMP (.gsa) THAT YtcdafdklkhdjeaaGreatProg.lean LOADS. Nothing in Lean hashes anything: it is a label: what it is worth is what the hold of that sum in a sandbox is worth. -/
noncomputable def Tryz.pinned : Pinned := { name := "ytcdafdklkhdjeaagreat", sum := "4e823f5d801d9550c11c3282d5673300b624e11ad0a002a1c0955001dade121e", checked := Tryz.checked }
namespace Rows
def none {H : Type} : Left H := { results := [], args := [] }

/-- 'modcertlaw07.EnvironFinds': WHATEVER THE INPUT: true; the input reads as it did. -/
def environFindsSpec : ChangeSpec := { name := "environFinds", fn := fun _ => fun
  | [d1, d2, d3] => { results := [.lit (.bool true)], args := [d1, d2, d3] }
  | _ => none }
def environFindsRow : OpenClaim := { program := "ytcdafdklkhdjeaagreat", sum := "4e823f5d801d9550c11c3282d5673300b624e11ad0a002a1c0955001dade121e", func := "modcert/modcertlaw07.EnvironFinds", spec := "environFinds", inPlace := ["slices.overlaps[modcert/api.Interface]"], unfollowed := true, recurses := true, loops := true, plainKeys := false, apart := false }
def EnvironFindsSaid : Prop := environFindsRow.holds Tryz.pinned (OpenSpec.ofChange environFindsSpec)

/-- ITS FALSE NEIGHBOUR: 'it returns false'. Refute it at one input. -/
def environFindsWrong : ChangeSpec := { name := "environFinds", fn := fun _ => fun
  | [d1, d2, d3] => { results := [.lit (.bool false)], args := [d1, d2, d3] }
  | _ => none }
def EnvironFindsWrongFalsely : Prop := environFindsRow.holds Tryz.pinned (OpenSpec.ofChange environFindsWrong)

/-- 'modcertlaw07.EnvironBounds': WHATEVER THE INPUT: true; the input reads as it did. -/
def environBoundsSpec : ChangeSpec := { name := "environBounds", fn := fun _ => fun
  | [d1, d2] => { results := [.lit (.bool true)], args := [d1, d2] }
  | _ => none }
def environBoundsRow : OpenClaim := { program := "ytcdafdklkhdjeaagreat", sum := "4e823f5d801d9550c11c3282d5673300b624e11ad0a002a1c0955001dade121e", func := "modcert/modcertlaw07.EnvironBounds", spec := "environBounds", inPlace := ["slices.overlaps[modcert/api.Interface]"], unfollowed := true, recurses := true, loops := true, plainKeys := false, apart := false }
def EnvironBoundsSaid : Prop := environBoundsRow.holds Tryz.pinned (OpenSpec.ofChange environBoundsSpec)

/-- ITS FALSE NEIGHBOUR: 'it returns false'. Refute it at one input. -/
def environBoundsWrong : ChangeSpec := { name := "environBounds", fn := fun _ => fun
  | [d1, d2] => { results := [.lit (.bool false)], args := [d1, d2] }
  | _ => none }
def EnvironBoundsWrongFalsely : Prop := environBoundsRow.holds Tryz.pinned (OpenSpec.ofChange environBoundsWrong)

/-- 'modcertlaw07.EnvironChanges': WHATEVER THE INPUT: true; the input reads as it did. -/
def environChangesSpec : ChangeSpec := { name := "environChanges", fn := fun _ => fun
  | [d1, d2, d3] => { results := [.lit (.bool true)], args := [d1, d2, d3] }
  | _ => none }
def environChangesRow : OpenClaim := { program := "ytcdafdklkhdjeaagreat", sum := "4e823f5d801d9550c11c3282d5673300b624e11ad0a002a1c0955001dade121e", func := "modcert/modcertlaw07.EnvironChanges", spec := "environChanges", inPlace := ["slices.overlaps[modcert/api.Interface]"], unfollowed := true, recurses := true, loops := true, plainKeys := false, apart := false }
def EnvironChangesSaid : Prop := environChangesRow.holds Tryz.pinned (OpenSpec.ofChange environChangesSpec)

/-- ITS FALSE NEIGHBOUR: 'it returns false'. Refute it at one input. -/
def environChangesWrong : ChangeSpec := { name := "environChanges", fn := fun _ => fun
  | [d1, d2, d3] => { results := [.lit (.bool false)], args := [d1, d2, d3] }
  | _ => none }
def EnvironChangesWrongFalsely : Prop := environChangesRow.holds Tryz.pinned (OpenSpec.ofChange environChangesWrong)

/-- 'modcertlaw07.EnvironAdds': WHATEVER THE INPUT: true; the input reads as it did. -/
def environAddsSpec : ChangeSpec := { name := "environAdds", fn := fun _ => fun
  | [d1, d2, d3] => { results := [.lit (.bool true)], args := [d1, d2, d3] }
  | _ => none }
def environAddsRow : OpenClaim := { program := "ytcdafdklkhdjeaagreat", sum := "4e823f5d801d9550c11c3282d5673300b624e11ad0a002a1c0955001dade121e", func := "modcert/modcertlaw07.EnvironAdds", spec := "environAdds", inPlace := ["slices.overlaps[modcert/api.Interface]"], unfollowed := true, recurses := true, loops := true, plainKeys := false, apart := false }
def EnvironAddsSaid : Prop := environAddsRow.holds Tryz.pinned (OpenSpec.ofChange environAddsSpec)

/-- ITS FALSE NEIGHBOUR: 'it returns false'. Refute it at one input. -/
def environAddsWrong : ChangeSpec := { name := "environAdds", fn := fun _ => fun
  | [d1, d2, d3] => { results := [.lit (.bool false)], args := [d1, d2, d3] }
  | _ => none }
def EnvironAddsWrongFalsely : Prop := environAddsRow.holds Tryz.pinned (OpenSpec.ofChange environAddsWrong)

/-- 'modcertlaw07.EnvironArguments': WHATEVER THE INPUT: true; the input reads as it did. -/
def environArgumentsSpec : ChangeSpec := { name := "environArguments", fn := fun _ => fun
  | [d1, d2, d3, d4] => { results := [.lit (.bool true)], args := [d1, d2, d3, d4] }
  | _ => none }
def environArgumentsRow : OpenClaim := { program := "ytcdafdklkhdjeaagreat", sum := "4e823f5d801d9550c11c3282d5673300b624e11ad0a002a1c0955001dade121e", func := "modcert/modcertlaw07.EnvironArguments", spec := "environArguments", inPlace := ["slices.overlaps[modcert/api.Interface]"], unfollowed := true, recurses := true, loops := true, plainKeys := false, apart := false }
def EnvironArgumentsSaid : Prop := environArgumentsRow.holds Tryz.pinned (OpenSpec.ofChange environArgumentsSpec)

/-- ITS FALSE NEIGHBOUR: 'it returns false'. Refute it at one input. -/
def environArgumentsWrong : ChangeSpec := { name := "environArguments", fn := fun _ => fun
  | [d1, d2, d3, d4] => { results := [.lit (.bool false)], args := [d1, d2, d3, d4] }
  | _ => none }
def EnvironArgumentsWrongFalsely : Prop := environArgumentsRow.holds Tryz.pinned (OpenSpec.ofChange environArgumentsWrong)

/-- 'modcertlaw07.EnvironClosed': WHATEVER THE INPUT: true; the input reads as it did. -/
def environClosedSpec : ChangeSpec := { name := "environClosed", fn := fun _ => fun
  | [d1, d2] => { results := [.lit (.bool true)], args := [d1, d2] }
  | _ => none }
def environClosedRow : OpenClaim := { program := "ytcdafdklkhdjeaagreat", sum := "4e823f5d801d9550c11c3282d5673300b624e11ad0a002a1c0955001dade121e", func := "modcert/modcertlaw07.EnvironClosed", spec := "environClosed", inPlace := ["slices.overlaps[modcert/api.Interface]"], unfollowed := true, recurses := true, loops := true, plainKeys := false, apart := false }
def EnvironClosedSaid : Prop := environClosedRow.holds Tryz.pinned (OpenSpec.ofChange environClosedSpec)

/-- ITS FALSE NEIGHBOUR: 'it returns false'. Refute it at one input. -/
def environClosedWrong : ChangeSpec := { name := "environClosed", fn := fun _ => fun
  | [d1, d2] => { results := [.lit (.bool false)], args := [d1, d2] }
  | _ => none }
def EnvironClosedWrongFalsely : Prop := environClosedRow.holds Tryz.pinned (OpenSpec.ofChange environClosedWrong)

/-- 'modcertlaw07.EnvironChains': WHATEVER THE INPUT: true; the input reads as it did. -/
def environChainsSpec : ChangeSpec := { name := "environChains", fn := fun _ => fun
  | [d1, d2] => { results := [.lit (.bool true)], args := [d1, d2] }
  | _ => none }
def environChainsRow : OpenClaim := { program := "ytcdafdklkhdjeaagreat", sum := "4e823f5d801d9550c11c3282d5673300b624e11ad0a002a1c0955001dade121e", func := "modcert/modcertlaw07.EnvironChains", spec := "environChains", inPlace := ["slices.overlaps[modcert/api.Interface]"], unfollowed := true, recurses := true, loops := true, plainKeys := false, apart := false }
def EnvironChainsSaid : Prop := environChainsRow.holds Tryz.pinned (OpenSpec.ofChange environChainsSpec)

/-- ITS FALSE NEIGHBOUR: 'it returns false'. Refute it at one input. -/
def environChainsWrong : ChangeSpec := { name := "environChains", fn := fun _ => fun
  | [d1, d2] => { results := [.lit (.bool false)], args := [d1, d2] }
  | _ => none }
def EnvironChainsWrongFalsely : Prop := environChainsRow.holds Tryz.pinned (OpenSpec.ofChange environChainsWrong)

/- THE SECOND FORM. 'bulk': how many values and letters a reading holds, each counted each time it is reached (what is shared counts as often as it is met; a slice's spare places count too). A statement '..UptoSaid' is the law's where the arguments, and the package variables that the reading takes, are together of bulk at most 1048576: NARROWER than '..Said'. Prove '..Said' where nothing that the law and all that it calls make is longer than what came in: it says more and counts as full. Else prove '..UptoSaid'. A law counts once. -/
mutual
def uptoBulk {H : Type} : DataW H → Nat
  | .lit (.string bytes) => bytes.length + 1
  | .lit _ => 1
  | .nil => 1
  | .ptr d => uptoBulk d + 1
  | .slice elems spare => uptoBulkAll elems + uptoBulkAll spare + 1
  | .agg parts => uptoBulkAll parts + 1
  | .iface _ d => uptoBulk d + 1
  | .map entries => uptoBulkEntries entries + 1
  | .held _ => 1
def uptoBulkAll {H : Type} : List (DataW H) → Nat
  | [] => 0
  | d :: r => uptoBulk d + uptoBulkAll r
def uptoBulkEntries {H : Type} : List (Lit × DataW H) → Nat
  | [] => 0
  | x :: r => uptoBulkEntry x + uptoBulkEntries r
def uptoBulkEntry {H : Type} : Lit × DataW H → Nat
  | (.string bytes, d) => bytes.length + uptoBulk d + 1
  | (_, d) => uptoBulk d + 1
 end
def uptoSmall : (H : Type) → List (DataW H) → Bool := fun _ ds => decide (uptoBulkAll ds ≤ 1048576)
def OpenSpec.upto (s : _root_.Go.ChangeSpec) : _root_.Go.OpenSpec := { _root_.Go.OpenSpec.ofChange s with cond := some uptoSmall }

/-- 'modcertlaw07.EnvironFinds', WHERE WHAT IT READS IS OF BULK AT MOST 1048576: true; the input reads as it did. -/
def environFindsUptoRow : OpenClaim := { program := "ytcdafdklkhdjeaagreat", sum := "4e823f5d801d9550c11c3282d5673300b624e11ad0a002a1c0955001dade121e", func := "modcert/modcertlaw07.EnvironFinds", spec := "environFinds", inPlace := ["slices.overlaps[modcert/api.Interface]"], unfollowed := true, recurses := true, loops := true, plainKeys := false, apart := false, narrowed := true }
def EnvironFindsUptoSaid : Prop := environFindsUptoRow.holds Tryz.pinned (OpenSpec.upto environFindsSpec)

/-- 'modcertlaw07.EnvironBounds', WHERE WHAT IT READS IS OF BULK AT MOST 1048576: true; the input reads as it did. -/
def environBoundsUptoRow : OpenClaim := { program := "ytcdafdklkhdjeaagreat", sum := "4e823f5d801d9550c11c3282d5673300b624e11ad0a002a1c0955001dade121e", func := "modcert/modcertlaw07.EnvironBounds", spec := "environBounds", inPlace := ["slices.overlaps[modcert/api.Interface]"], unfollowed := true, recurses := true, loops := true, plainKeys := false, apart := false, narrowed := true }
def EnvironBoundsUptoSaid : Prop := environBoundsUptoRow.holds Tryz.pinned (OpenSpec.upto environBoundsSpec)

/-- 'modcertlaw07.EnvironChanges', WHERE WHAT IT READS IS OF BULK AT MOST 1048576: true; the input reads as it did. -/
def environChangesUptoRow : OpenClaim := { program := "ytcdafdklkhdjeaagreat", sum := "4e823f5d801d9550c11c3282d5673300b624e11ad0a002a1c0955001dade121e", func := "modcert/modcertlaw07.EnvironChanges", spec := "environChanges", inPlace := ["slices.overlaps[modcert/api.Interface]"], unfollowed := true, recurses := true, loops := true, plainKeys := false, apart := false, narrowed := true }
def EnvironChangesUptoSaid : Prop := environChangesUptoRow.holds Tryz.pinned (OpenSpec.upto environChangesSpec)

/-- 'modcertlaw07.EnvironAdds', WHERE WHAT IT READS IS OF BULK AT MOST 1048576: true; the input reads as it did. -/
def environAddsUptoRow : OpenClaim := { program := "ytcdafdklkhdjeaagreat", sum := "4e823f5d801d9550c11c3282d5673300b624e11ad0a002a1c0955001dade121e", func := "modcert/modcertlaw07.EnvironAdds", spec := "environAdds", inPlace := ["slices.overlaps[modcert/api.Interface]"], unfollowed := true, recurses := true, loops := true, plainKeys := false, apart := false, narrowed := true }
def EnvironAddsUptoSaid : Prop := environAddsUptoRow.holds Tryz.pinned (OpenSpec.upto environAddsSpec)

/-- 'modcertlaw07.EnvironArguments', WHERE WHAT IT READS IS OF BULK AT MOST 1048576: true; the input reads as it did. -/
def environArgumentsUptoRow : OpenClaim := { program := "ytcdafdklkhdjeaagreat", sum := "4e823f5d801d9550c11c3282d5673300b624e11ad0a002a1c0955001dade121e", func := "modcert/modcertlaw07.EnvironArguments", spec := "environArguments", inPlace := ["slices.overlaps[modcert/api.Interface]"], unfollowed := true, recurses := true, loops := true, plainKeys := false, apart := false, narrowed := true }
def EnvironArgumentsUptoSaid : Prop := environArgumentsUptoRow.holds Tryz.pinned (OpenSpec.upto environArgumentsSpec)

/-- 'modcertlaw07.EnvironClosed', WHERE WHAT IT READS IS OF BULK AT MOST 1048576: true; the input reads as it did. -/
def environClosedUptoRow : OpenClaim := { program := "ytcdafdklkhdjeaagreat", sum := "4e823f5d801d9550c11c3282d5673300b624e11ad0a002a1c0955001dade121e", func := "modcert/modcertlaw07.EnvironClosed", spec := "environClosed", inPlace := ["slices.overlaps[modcert/api.Interface]"], unfollowed := true, recurses := true, loops := true, plainKeys := false, apart := false, narrowed := true }
def EnvironClosedUptoSaid : Prop := environClosedUptoRow.holds Tryz.pinned (OpenSpec.upto environClosedSpec)

/-- 'modcertlaw07.EnvironChains', WHERE WHAT IT READS IS OF BULK AT MOST 1048576: true; the input reads as it did. -/
def environChainsUptoRow : OpenClaim := { program := "ytcdafdklkhdjeaagreat", sum := "4e823f5d801d9550c11c3282d5673300b624e11ad0a002a1c0955001dade121e", func := "modcert/modcertlaw07.EnvironChains", spec := "environChains", inPlace := ["slices.overlaps[modcert/api.Interface]"], unfollowed := true, recurses := true, loops := true, plainKeys := false, apart := false, narrowed := true }
def EnvironChainsUptoSaid : Prop := environChainsUptoRow.holds Tryz.pinned (OpenSpec.upto environChainsSpec)

end Rows
end Go.Proofs.YtcdafdklkhdjeaaGreat
