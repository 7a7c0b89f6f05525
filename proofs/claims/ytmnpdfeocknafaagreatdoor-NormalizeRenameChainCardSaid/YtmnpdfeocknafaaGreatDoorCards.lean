/-
  DERIVED. GIVEN WITH THE SEED: THE CARDS: each row of YtmnpdfeocknafaaGreatDoorRows.lean that lists a variable, with what it lists TIED to the program's text (the seventh form; the later family's looks); each row that meets fmt, with fmt's text TOLD by the authors' own Lean function (tested against real Go, not proved from fmt's source: count such statements apart). THE CARD IS WHAT COUNTS. Prove the row's statement (the work); the ties are given (YtmnpdfeocknafaaGreatDoorTie.lean); close each card by the builder's one call (the guide's Derived/Test/ToyasCard.lean, 'card_holds'). Laid BY PROGRAM, IN A SANDBOX (cutbox-door.mjs). By AI agents, Wed Nov 11 2026. No macro, syntax, notation, axiom, sorry.
-/
import Derived.Test.YtmnpdfeocknafaaGreatDoorRows
import GoSem.ClaimSeven
namespace Go.Proofs.YtmnpdfeocknafaaGreatDoor
namespace Rows

/-- THE TIED CARD OF 'stemkeep2.LensHiddenSurvives'. -/
def lensHiddenSurvivesCard : Claim7 := { stood := { row := lensHiddenSurvivesRow, standIns := [], harness := (true, "3ee9ca199f427a10390d2cd2994a9456cbfec29ffcd2da10a555765c6bec38a8"), looks := true }, kinds := [], alts := [], laidByText := true, laidKinds := [.data, .data, .data, .sentinel, .sentinel], laidTests := true, laidLooks := .later }
def LensHiddenSurvivesCardSaid : Prop := Claim7.holds Tryz.pinned (.plain (OpenSpec.ofChange lensHiddenSurvivesSpec)) lensHiddenSurvivesCard

/-- THE TIED CARD OF 'stemkeep2.LensConstraintHides'. -/
def lensConstraintHidesCard : Claim7 := { stood := { row := lensConstraintHidesRow, standIns := [], harness := (true, "3ee9ca199f427a10390d2cd2994a9456cbfec29ffcd2da10a555765c6bec38a8"), looks := true }, kinds := [], alts := [], laidByText := true, laidKinds := [.data, .data, .data, .sentinel, .sentinel], laidTests := true, laidLooks := .later }
def LensConstraintHidesCardSaid : Prop := Claim7.holds Tryz.pinned (.plain (OpenSpec.ofChange lensConstraintHidesSpec)) lensConstraintHidesCard

/-- THE TIED CARD OF 'stemkeep2.LensEmptyConsistent'. -/
def lensEmptyConsistentCard : Claim7 := { stood := { row := lensEmptyConsistentRow, standIns := [], harness := (true, "3ee9ca199f427a10390d2cd2994a9456cbfec29ffcd2da10a555765c6bec38a8"), looks := true }, kinds := [], alts := [], laidByText := true, laidKinds := [.data, .data, .data, .sentinel, .sentinel], laidTests := true, laidLooks := .later }
def LensEmptyConsistentCardSaid : Prop := Claim7.holds Tryz.pinned (.plain (OpenSpec.ofChange lensEmptyConsistentSpec)) lensEmptyConsistentCard

/-- THE TIED CARD OF 'stemkeep2.NormalizeRenameChain'. -/
def normalizeRenameChainCard : Claim7 := { stood := { row := normalizeRenameChainRow, standIns := [], harness := (true, "3ee9ca199f427a10390d2cd2994a9456cbfec29ffcd2da10a555765c6bec38a8"), looks := true }, kinds := [], alts := [], laidByText := true, laidKinds := [.data, .data, .data, .sentinel, .sentinel], laidTests := true, laidLooks := .later }
def NormalizeRenameChainCardSaid : Prop := Claim7.holds Tryz.pinned (.plain (OpenSpec.ofChange normalizeRenameChainSpec)) normalizeRenameChainCard

/-- THE TIED CARD OF 'stemkeep2.NormalizeSameSchema'. -/
def normalizeSameSchemaCard : Claim7 := { stood := { row := normalizeSameSchemaRow, standIns := [], harness := (true, "3ee9ca199f427a10390d2cd2994a9456cbfec29ffcd2da10a555765c6bec38a8"), looks := true }, kinds := [], alts := [], laidByText := true, laidKinds := [.data, .data, .data, .sentinel, .sentinel], laidTests := true, laidLooks := .later }
def NormalizeSameSchemaCardSaid : Prop := Claim7.holds Tryz.pinned (.plain (OpenSpec.ofChange normalizeSameSchemaSpec)) normalizeSameSchemaCard

/-- THE TIED CARD OF 'stemkeep2.NormalizeFactorSchemas'. -/
def normalizeFactorSchemasCard : Claim7 := { stood := { row := normalizeFactorSchemasRow, standIns := [], harness := (true, "3ee9ca199f427a10390d2cd2994a9456cbfec29ffcd2da10a555765c6bec38a8"), looks := true }, kinds := [], alts := [], laidByText := true, laidKinds := [.data, .data, .data, .sentinel, .sentinel], laidTests := true, laidLooks := .later }
def NormalizeFactorSchemasCardSaid : Prop := Claim7.holds Tryz.pinned (.plain (OpenSpec.ofChange normalizeFactorSchemasSpec)) normalizeFactorSchemasCard

/-- THE SECOND FORM's CARD OF 'stemkeep2.LensHiddenSurvives'. -/
def lensHiddenSurvivesUptoCard : Claim7 := { stood := { row := lensHiddenSurvivesUptoRow, standIns := [], harness := (true, "3ee9ca199f427a10390d2cd2994a9456cbfec29ffcd2da10a555765c6bec38a8"), looks := true }, kinds := [], alts := [], laidByText := true, laidKinds := [.data, .data, .data, .sentinel, .sentinel], laidTests := true, laidLooks := .later }
def LensHiddenSurvivesUptoCardSaid : Prop := Claim7.holds Tryz.pinned (.plain (OpenSpec.upto lensHiddenSurvivesSpec)) lensHiddenSurvivesUptoCard

/-- THE SECOND FORM's CARD OF 'stemkeep2.LensConstraintHides'. -/
def lensConstraintHidesUptoCard : Claim7 := { stood := { row := lensConstraintHidesUptoRow, standIns := [], harness := (true, "3ee9ca199f427a10390d2cd2994a9456cbfec29ffcd2da10a555765c6bec38a8"), looks := true }, kinds := [], alts := [], laidByText := true, laidKinds := [.data, .data, .data, .sentinel, .sentinel], laidTests := true, laidLooks := .later }
def LensConstraintHidesUptoCardSaid : Prop := Claim7.holds Tryz.pinned (.plain (OpenSpec.upto lensConstraintHidesSpec)) lensConstraintHidesUptoCard

/-- THE SECOND FORM's CARD OF 'stemkeep2.LensEmptyConsistent'. -/
def lensEmptyConsistentUptoCard : Claim7 := { stood := { row := lensEmptyConsistentUptoRow, standIns := [], harness := (true, "3ee9ca199f427a10390d2cd2994a9456cbfec29ffcd2da10a555765c6bec38a8"), looks := true }, kinds := [], alts := [], laidByText := true, laidKinds := [.data, .data, .data, .sentinel, .sentinel], laidTests := true, laidLooks := .later }
def LensEmptyConsistentUptoCardSaid : Prop := Claim7.holds Tryz.pinned (.plain (OpenSpec.upto lensEmptyConsistentSpec)) lensEmptyConsistentUptoCard

/-- THE SECOND FORM's CARD OF 'stemkeep2.NormalizeRenameChain'. -/
def normalizeRenameChainUptoCard : Claim7 := { stood := { row := normalizeRenameChainUptoRow, standIns := [], harness := (true, "3ee9ca199f427a10390d2cd2994a9456cbfec29ffcd2da10a555765c6bec38a8"), looks := true }, kinds := [], alts := [], laidByText := true, laidKinds := [.data, .data, .data, .sentinel, .sentinel], laidTests := true, laidLooks := .later }
def NormalizeRenameChainUptoCardSaid : Prop := Claim7.holds Tryz.pinned (.plain (OpenSpec.upto normalizeRenameChainSpec)) normalizeRenameChainUptoCard

/-- THE SECOND FORM's CARD OF 'stemkeep2.NormalizeSameSchema'. -/
def normalizeSameSchemaUptoCard : Claim7 := { stood := { row := normalizeSameSchemaUptoRow, standIns := [], harness := (true, "3ee9ca199f427a10390d2cd2994a9456cbfec29ffcd2da10a555765c6bec38a8"), looks := true }, kinds := [], alts := [], laidByText := true, laidKinds := [.data, .data, .data, .sentinel, .sentinel], laidTests := true, laidLooks := .later }
def NormalizeSameSchemaUptoCardSaid : Prop := Claim7.holds Tryz.pinned (.plain (OpenSpec.upto normalizeSameSchemaSpec)) normalizeSameSchemaUptoCard

/-- THE SECOND FORM's CARD OF 'stemkeep2.NormalizeFactorSchemas'. -/
def normalizeFactorSchemasUptoCard : Claim7 := { stood := { row := normalizeFactorSchemasUptoRow, standIns := [], harness := (true, "3ee9ca199f427a10390d2cd2994a9456cbfec29ffcd2da10a555765c6bec38a8"), looks := true }, kinds := [], alts := [], laidByText := true, laidKinds := [.data, .data, .data, .sentinel, .sentinel], laidTests := true, laidLooks := .later }
def NormalizeFactorSchemasUptoCardSaid : Prop := Claim7.holds Tryz.pinned (.plain (OpenSpec.upto normalizeFactorSchemasSpec)) normalizeFactorSchemasUptoCard
end Rows
end Go.Proofs.YtmnpdfeocknafaaGreatDoor
