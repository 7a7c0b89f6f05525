/-
  DERIVED. GIVEN WITH THE SEED: THE CARDS: each row of YtmmbghbkpjmifaaDoorRows.lean that lists a variable, with what it lists TIED to the program's text (the seventh form; the later family's looks); each row that meets fmt, with fmt's text TOLD by the authors' own Lean function (tested against real Go, not proved from fmt's source: count such statements apart). THE CARD IS WHAT COUNTS. Prove the row's statement (the work); the ties are given (YtmmbghbkpjmifaaDoorTie.lean); close each card by the builder's one call (the guide's Derived/Test/ToyasCard.lean, 'card_holds'). Laid BY PROGRAM, IN A SANDBOX (cutbox-door.mjs). By AI agents, Wed Nov 11 2026. No macro, syntax, notation, axiom, sorry.
-/
import Derived.Test.YtmmbghbkpjmifaaDoorRows
import GoSem.ClaimSeven
namespace Go.Proofs.YtmmbghbkpjmifaaDoor
namespace Rows

/-- THE TIED CARD OF 'stemkeep2.RelationUpsertFind'. -/
def relationUpsertFindCard : Claim7 := { stood := { row := relationUpsertFindRow, standIns := [], harness := (true, "f3f1bff7b00144ec9a770cdd314329ae50495140c17c136536df96553270ee44"), looks := false }, kinds := [], alts := [], laidByText := true, laidKinds := [.data, .data, .data], laidTests := true, laidLooks := .later }
def RelationUpsertFindCardSaid : Prop := Claim7.holds Tryd.pinned (.plain (OpenSpec.ofChange relationUpsertFindSpec)) relationUpsertFindCard

/-- THE TIED CARD OF 'stemkeep2.RelationUpsertCommutes'. -/
def relationUpsertCommutesCard : Claim7 := { stood := { row := relationUpsertCommutesRow, standIns := [], harness := (true, "f3f1bff7b00144ec9a770cdd314329ae50495140c17c136536df96553270ee44"), looks := false }, kinds := [], alts := [], laidByText := true, laidKinds := [.data, .data, .data], laidTests := true, laidLooks := .later }
def RelationUpsertCommutesCardSaid : Prop := Claim7.holds Tryd.pinned (.plain (OpenSpec.ofChange relationUpsertCommutesSpec)) relationUpsertCommutesCard

/-- THE TIED CARD OF 'stemkeep2.SchemaCloneIndependent'. -/
def schemaCloneIndependentCard : Claim7 := { stood := { row := schemaCloneIndependentRow, standIns := [], harness := (true, "f3f1bff7b00144ec9a770cdd314329ae50495140c17c136536df96553270ee44"), looks := false }, kinds := [], alts := [], laidByText := true, laidKinds := [.data, .data, .data], laidTests := true, laidLooks := .later }
def SchemaCloneIndependentCardSaid : Prop := Claim7.holds Tryd.pinned (.plain (OpenSpec.ofChange schemaCloneIndependentSpec)) schemaCloneIndependentCard

/-- THE TIED CARD OF 'stemkeep2.ChangeCompactSame'. -/
def changeCompactSameCard : Claim7 := { stood := { row := changeCompactSameRow, standIns := [], harness := (true, "f3f1bff7b00144ec9a770cdd314329ae50495140c17c136536df96553270ee44"), looks := false }, kinds := [], alts := [], laidByText := true, laidKinds := [.data, .data, .data], laidTests := true, laidLooks := .later }
def ChangeCompactSameCardSaid : Prop := Claim7.holds Tryd.pinned (.plain (OpenSpec.ofChange changeCompactSameSpec)) changeCompactSameCard

/-- THE TIED CARD OF 'stemkeep2.ChangeIndependentCommute'. -/
def changeIndependentCommuteCard : Claim7 := { stood := { row := changeIndependentCommuteRow, standIns := [], harness := (true, "f3f1bff7b00144ec9a770cdd314329ae50495140c17c136536df96553270ee44"), looks := false }, kinds := [], alts := [], laidByText := true, laidKinds := [.data, .data, .data], laidTests := true, laidLooks := .later }
def ChangeIndependentCommuteCardSaid : Prop := Claim7.holds Tryd.pinned (.plain (OpenSpec.ofChange changeIndependentCommuteSpec)) changeIndependentCommuteCard

/-- THE TIED CARD OF 'stemkeep2.ArgumentsUnchanged'. -/
def argumentsUnchangedCard : Claim7 := { stood := { row := argumentsUnchangedRow, standIns := [], harness := (true, "f3f1bff7b00144ec9a770cdd314329ae50495140c17c136536df96553270ee44"), looks := false }, kinds := [], alts := [], laidByText := true, laidKinds := [.data, .data, .data], laidTests := true, laidLooks := .later }
def ArgumentsUnchangedCardSaid : Prop := Claim7.holds Tryd.pinned (.plain (OpenSpec.ofChange argumentsUnchangedSpec)) argumentsUnchangedCard

/-- THE SECOND FORM's CARD OF 'stemkeep2.RelationUpsertFind'. -/
def relationUpsertFindUptoCard : Claim7 := { stood := { row := relationUpsertFindUptoRow, standIns := [], harness := (true, "f3f1bff7b00144ec9a770cdd314329ae50495140c17c136536df96553270ee44"), looks := false }, kinds := [], alts := [], laidByText := true, laidKinds := [.data, .data, .data], laidTests := true, laidLooks := .later }
def RelationUpsertFindUptoCardSaid : Prop := Claim7.holds Tryd.pinned (.plain (OpenSpec.upto relationUpsertFindSpec)) relationUpsertFindUptoCard

/-- THE SECOND FORM's CARD OF 'stemkeep2.RelationUpsertCommutes'. -/
def relationUpsertCommutesUptoCard : Claim7 := { stood := { row := relationUpsertCommutesUptoRow, standIns := [], harness := (true, "f3f1bff7b00144ec9a770cdd314329ae50495140c17c136536df96553270ee44"), looks := false }, kinds := [], alts := [], laidByText := true, laidKinds := [.data, .data, .data], laidTests := true, laidLooks := .later }
def RelationUpsertCommutesUptoCardSaid : Prop := Claim7.holds Tryd.pinned (.plain (OpenSpec.upto relationUpsertCommutesSpec)) relationUpsertCommutesUptoCard

/-- THE SECOND FORM's CARD OF 'stemkeep2.SchemaCloneIndependent'. -/
def schemaCloneIndependentUptoCard : Claim7 := { stood := { row := schemaCloneIndependentUptoRow, standIns := [], harness := (true, "f3f1bff7b00144ec9a770cdd314329ae50495140c17c136536df96553270ee44"), looks := false }, kinds := [], alts := [], laidByText := true, laidKinds := [.data, .data, .data], laidTests := true, laidLooks := .later }
def SchemaCloneIndependentUptoCardSaid : Prop := Claim7.holds Tryd.pinned (.plain (OpenSpec.upto schemaCloneIndependentSpec)) schemaCloneIndependentUptoCard

/-- THE SECOND FORM's CARD OF 'stemkeep2.ChangeCompactSame'. -/
def changeCompactSameUptoCard : Claim7 := { stood := { row := changeCompactSameUptoRow, standIns := [], harness := (true, "f3f1bff7b00144ec9a770cdd314329ae50495140c17c136536df96553270ee44"), looks := false }, kinds := [], alts := [], laidByText := true, laidKinds := [.data, .data, .data], laidTests := true, laidLooks := .later }
def ChangeCompactSameUptoCardSaid : Prop := Claim7.holds Tryd.pinned (.plain (OpenSpec.upto changeCompactSameSpec)) changeCompactSameUptoCard

/-- THE SECOND FORM's CARD OF 'stemkeep2.ChangeIndependentCommute'. -/
def changeIndependentCommuteUptoCard : Claim7 := { stood := { row := changeIndependentCommuteUptoRow, standIns := [], harness := (true, "f3f1bff7b00144ec9a770cdd314329ae50495140c17c136536df96553270ee44"), looks := false }, kinds := [], alts := [], laidByText := true, laidKinds := [.data, .data, .data], laidTests := true, laidLooks := .later }
def ChangeIndependentCommuteUptoCardSaid : Prop := Claim7.holds Tryd.pinned (.plain (OpenSpec.upto changeIndependentCommuteSpec)) changeIndependentCommuteUptoCard

/-- THE SECOND FORM's CARD OF 'stemkeep2.ArgumentsUnchanged'. -/
def argumentsUnchangedUptoCard : Claim7 := { stood := { row := argumentsUnchangedUptoRow, standIns := [], harness := (true, "f3f1bff7b00144ec9a770cdd314329ae50495140c17c136536df96553270ee44"), looks := false }, kinds := [], alts := [], laidByText := true, laidKinds := [.data, .data, .data], laidTests := true, laidLooks := .later }
def ArgumentsUnchangedUptoCardSaid : Prop := Claim7.holds Tryd.pinned (.plain (OpenSpec.upto argumentsUnchangedSpec)) argumentsUnchangedUptoCard
end Rows
end Go.Proofs.YtmmbghbkpjmifaaDoor
