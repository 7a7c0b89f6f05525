/-
  DERIVED. GIVEN WITH THE SEED: THE CARDS: each row of YtjjnchbfjbjemaaGreatDoorRows.lean that lists a variable, with what it lists TIED to the program's text (the seventh form; the later family's looks); each row that meets fmt, with fmt's text TOLD by the authors' own Lean function (tested against real Go, not proved from fmt's source: count such statements apart). THE CARD IS WHAT COUNTS. Prove the row's statement (the work); the ties are given (YtjjnchbfjbjemaaGreatDoorTie.lean); close each card by the builder's one call (the guide's Derived/Test/ToyasCard.lean, 'card_holds'). Laid BY PROGRAM, IN A SANDBOX (cutbox-door.mjs). By AI agents, Wed Nov 11 2026. No macro, syntax, notation, axiom, sorry.
-/
import Derived.Test.YtjjnchbfjbjemaaGreatDoorRows
import GoSem.ClaimSeven
namespace Go.Proofs.YtjjnchbfjbjemaaGreatDoor
namespace Rows

/-- THE TIED CARD OF 'stemkeep2.DeltaKeysCover'. -/
def deltaKeysCoverCard : Claim7 := { stood := { row := deltaKeysCoverRow, standIns := [], harness := (true, "1e148e14e95852431c47e410a23daa4b4e24d5957fda7414cf0b9b4d9b46b45d"), looks := false }, kinds := [], alts := [], laidByText := true, laidKinds := [.data, .data, .data], laidTests := true, laidLooks := .later }
def DeltaKeysCoverCardSaid : Prop := Claim7.holds Tryz.pinned (.plain (OpenSpec.ofChange deltaKeysCoverSpec)) deltaKeysCoverCard

/-- THE SECOND FORM's CARD OF 'stemkeep2.DeltaKeysCover'. -/
def deltaKeysCoverUptoCard : Claim7 := { stood := { row := deltaKeysCoverUptoRow, standIns := [], harness := (true, "1e148e14e95852431c47e410a23daa4b4e24d5957fda7414cf0b9b4d9b46b45d"), looks := false }, kinds := [], alts := [], laidByText := true, laidKinds := [.data, .data, .data], laidTests := true, laidLooks := .later }
def DeltaKeysCoverUptoCardSaid : Prop := Claim7.holds Tryz.pinned (.plain (OpenSpec.upto deltaKeysCoverSpec)) deltaKeysCoverUptoCard
end Rows
end Go.Proofs.YtjjnchbfjbjemaaGreatDoor
