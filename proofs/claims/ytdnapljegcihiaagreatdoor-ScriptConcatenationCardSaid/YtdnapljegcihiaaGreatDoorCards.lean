/-
  DERIVED. GIVEN WITH THE SEED: THE CARDS: each row of YtdnapljegcihiaaGreatDoorRows.lean that lists a variable, with what it lists TIED to the program's text (the seventh form; the later family's looks); each row that meets fmt, with fmt's text TOLD by the authors' own Lean function (tested against real Go, not proved from fmt's source: count such statements apart). THE CARD IS WHAT COUNTS. Prove the row's statement (the work); the ties are given (YtdnapljegcihiaaGreatDoorTie.lean); close each card by the builder's one call (the guide's Derived/Test/ToyasCard.lean, 'card_holds'). Laid BY PROGRAM, IN A SANDBOX (cutbox-door.mjs). By AI agents, Wed Nov 11 2026. No macro, syntax, notation, axiom, sorry.
-/
import Derived.Test.YtdnapljegcihiaaGreatDoorRows
import GoSem.ClaimSeven
namespace Go.Proofs.YtdnapljegcihiaaGreatDoor
namespace Rows

/-- THE TIED CARD OF 'stemkeep2.EvolutionValid'. -/
def evolutionValidCard : Claim7 := { stood := { row := evolutionValidRow, standIns := [], harness := (true, "44be7ab985994737626768a5aed9e53801e71f6af69e465e77bb5aa78118a39b"), looks := true }, kinds := [], alts := [], laidByText := true, laidKinds := [.data, .data, .data, .sentinel, .sentinel], laidTests := true, laidLooks := .later }
def EvolutionValidCardSaid : Prop := Claim7.holds Tryz.pinned (.plain (OpenSpec.ofChange evolutionValidSpec)) evolutionValidCard

/-- THE TIED CARD OF 'stemkeep2.EvolutionSplitJoin'. -/
def evolutionSplitJoinCard : Claim7 := { stood := { row := evolutionSplitJoinRow, standIns := [], harness := (true, "44be7ab985994737626768a5aed9e53801e71f6af69e465e77bb5aa78118a39b"), looks := true }, kinds := [], alts := [], laidByText := true, laidKinds := [.data, .data, .data, .sentinel, .sentinel], laidTests := true, laidLooks := .later }
def EvolutionSplitJoinCardSaid : Prop := Claim7.holds Tryz.pinned (.plain (OpenSpec.ofChange evolutionSplitJoinSpec)) evolutionSplitJoinCard

/-- THE TIED CARD OF 'stemkeep2.ComplementConforms'. -/
def complementConformsCard : Claim7 := { stood := { row := complementConformsRow, standIns := [], harness := (true, "44be7ab985994737626768a5aed9e53801e71f6af69e465e77bb5aa78118a39b"), looks := true }, kinds := [], alts := [], laidByText := true, laidKinds := [.data, .data, .data, .sentinel, .sentinel], laidTests := true, laidLooks := .later }
def ComplementConformsCardSaid : Prop := Claim7.holds Tryz.pinned (.plain (OpenSpec.ofChange complementConformsSpec)) complementConformsCard

/-- THE TIED CARD OF 'stemkeep2.LensHiddenSurvives'. -/
def lensHiddenSurvivesCard : Claim7 := { stood := { row := lensHiddenSurvivesRow, standIns := [], harness := (true, "44be7ab985994737626768a5aed9e53801e71f6af69e465e77bb5aa78118a39b"), looks := true }, kinds := [], alts := [], laidByText := true, laidKinds := [.data, .data, .data, .sentinel, .sentinel], laidTests := true, laidLooks := .later }
def LensHiddenSurvivesCardSaid : Prop := Claim7.holds Tryz.pinned (.plain (OpenSpec.ofChange lensHiddenSurvivesSpec)) lensHiddenSurvivesCard

/-- THE TIED CARD OF 'stemkeep2.LensConstraintHides'. -/
def lensConstraintHidesCard : Claim7 := { stood := { row := lensConstraintHidesRow, standIns := [], harness := (true, "44be7ab985994737626768a5aed9e53801e71f6af69e465e77bb5aa78118a39b"), looks := true }, kinds := [], alts := [], laidByText := true, laidKinds := [.data, .data, .data, .sentinel, .sentinel], laidTests := true, laidLooks := .later }
def LensConstraintHidesCardSaid : Prop := Claim7.holds Tryz.pinned (.plain (OpenSpec.ofChange lensConstraintHidesSpec)) lensConstraintHidesCard

/-- THE TIED CARD OF 'stemkeep2.EvolutionRenameBack'. -/
def evolutionRenameBackCard : Claim7 := { stood := { row := evolutionRenameBackRow, standIns := [], harness := (true, "44be7ab985994737626768a5aed9e53801e71f6af69e465e77bb5aa78118a39b"), looks := true }, kinds := [], alts := [], laidByText := true, laidKinds := [.data, .data, .data, .sentinel, .sentinel], laidTests := true, laidLooks := .later }
def EvolutionRenameBackCardSaid : Prop := Claim7.holds Tryz.pinned (.plain (OpenSpec.ofChange evolutionRenameBackSpec)) evolutionRenameBackCard

/-- THE TIED CARD OF 'stemkeep2.EvolutionUndo'. -/
def evolutionUndoCard : Claim7 := { stood := { row := evolutionUndoRow, standIns := [], harness := (true, "44be7ab985994737626768a5aed9e53801e71f6af69e465e77bb5aa78118a39b"), looks := true }, kinds := [], alts := [], laidByText := true, laidKinds := [.data, .data, .data, .sentinel, .sentinel], laidTests := true, laidLooks := .later }
def EvolutionUndoCardSaid : Prop := Claim7.holds Tryz.pinned (.plain (OpenSpec.ofChange evolutionUndoSpec)) evolutionUndoCard

/-- THE TIED CARD OF 'stemkeep2.LensEmptyConsistent'. -/
def lensEmptyConsistentCard : Claim7 := { stood := { row := lensEmptyConsistentRow, standIns := [], harness := (true, "44be7ab985994737626768a5aed9e53801e71f6af69e465e77bb5aa78118a39b"), looks := true }, kinds := [], alts := [], laidByText := true, laidKinds := [.data, .data, .data, .sentinel, .sentinel], laidTests := true, laidLooks := .later }
def LensEmptyConsistentCardSaid : Prop := Claim7.holds Tryz.pinned (.plain (OpenSpec.ofChange lensEmptyConsistentSpec)) lensEmptyConsistentCard

/-- THE TIED CARD OF 'stemkeep2.ScriptConcatenation'. -/
def scriptConcatenationCard : Claim7 := { stood := { row := scriptConcatenationRow, standIns := [], harness := (true, "44be7ab985994737626768a5aed9e53801e71f6af69e465e77bb5aa78118a39b"), looks := true }, kinds := [], alts := [], laidByText := true, laidKinds := [.data, .data, .data, .sentinel, .sentinel], laidTests := true, laidLooks := .later }
def ScriptConcatenationCardSaid : Prop := Claim7.holds Tryz.pinned (.plain (OpenSpec.ofChange scriptConcatenationSpec)) scriptConcatenationCard

/-- THE SECOND FORM's CARD OF 'stemkeep2.EvolutionValid'. -/
def evolutionValidUptoCard : Claim7 := { stood := { row := evolutionValidUptoRow, standIns := [], harness := (true, "44be7ab985994737626768a5aed9e53801e71f6af69e465e77bb5aa78118a39b"), looks := true }, kinds := [], alts := [], laidByText := true, laidKinds := [.data, .data, .data, .sentinel, .sentinel], laidTests := true, laidLooks := .later }
def EvolutionValidUptoCardSaid : Prop := Claim7.holds Tryz.pinned (.plain (OpenSpec.upto evolutionValidSpec)) evolutionValidUptoCard

/-- THE SECOND FORM's CARD OF 'stemkeep2.EvolutionSplitJoin'. -/
def evolutionSplitJoinUptoCard : Claim7 := { stood := { row := evolutionSplitJoinUptoRow, standIns := [], harness := (true, "44be7ab985994737626768a5aed9e53801e71f6af69e465e77bb5aa78118a39b"), looks := true }, kinds := [], alts := [], laidByText := true, laidKinds := [.data, .data, .data, .sentinel, .sentinel], laidTests := true, laidLooks := .later }
def EvolutionSplitJoinUptoCardSaid : Prop := Claim7.holds Tryz.pinned (.plain (OpenSpec.upto evolutionSplitJoinSpec)) evolutionSplitJoinUptoCard

/-- THE SECOND FORM's CARD OF 'stemkeep2.ComplementConforms'. -/
def complementConformsUptoCard : Claim7 := { stood := { row := complementConformsUptoRow, standIns := [], harness := (true, "44be7ab985994737626768a5aed9e53801e71f6af69e465e77bb5aa78118a39b"), looks := true }, kinds := [], alts := [], laidByText := true, laidKinds := [.data, .data, .data, .sentinel, .sentinel], laidTests := true, laidLooks := .later }
def ComplementConformsUptoCardSaid : Prop := Claim7.holds Tryz.pinned (.plain (OpenSpec.upto complementConformsSpec)) complementConformsUptoCard

/-- THE SECOND FORM's CARD OF 'stemkeep2.LensHiddenSurvives'. -/
def lensHiddenSurvivesUptoCard : Claim7 := { stood := { row := lensHiddenSurvivesUptoRow, standIns := [], harness := (true, "44be7ab985994737626768a5aed9e53801e71f6af69e465e77bb5aa78118a39b"), looks := true }, kinds := [], alts := [], laidByText := true, laidKinds := [.data, .data, .data, .sentinel, .sentinel], laidTests := true, laidLooks := .later }
def LensHiddenSurvivesUptoCardSaid : Prop := Claim7.holds Tryz.pinned (.plain (OpenSpec.upto lensHiddenSurvivesSpec)) lensHiddenSurvivesUptoCard

/-- THE SECOND FORM's CARD OF 'stemkeep2.LensConstraintHides'. -/
def lensConstraintHidesUptoCard : Claim7 := { stood := { row := lensConstraintHidesUptoRow, standIns := [], harness := (true, "44be7ab985994737626768a5aed9e53801e71f6af69e465e77bb5aa78118a39b"), looks := true }, kinds := [], alts := [], laidByText := true, laidKinds := [.data, .data, .data, .sentinel, .sentinel], laidTests := true, laidLooks := .later }
def LensConstraintHidesUptoCardSaid : Prop := Claim7.holds Tryz.pinned (.plain (OpenSpec.upto lensConstraintHidesSpec)) lensConstraintHidesUptoCard

/-- THE SECOND FORM's CARD OF 'stemkeep2.EvolutionRenameBack'. -/
def evolutionRenameBackUptoCard : Claim7 := { stood := { row := evolutionRenameBackUptoRow, standIns := [], harness := (true, "44be7ab985994737626768a5aed9e53801e71f6af69e465e77bb5aa78118a39b"), looks := true }, kinds := [], alts := [], laidByText := true, laidKinds := [.data, .data, .data, .sentinel, .sentinel], laidTests := true, laidLooks := .later }
def EvolutionRenameBackUptoCardSaid : Prop := Claim7.holds Tryz.pinned (.plain (OpenSpec.upto evolutionRenameBackSpec)) evolutionRenameBackUptoCard

/-- THE SECOND FORM's CARD OF 'stemkeep2.EvolutionUndo'. -/
def evolutionUndoUptoCard : Claim7 := { stood := { row := evolutionUndoUptoRow, standIns := [], harness := (true, "44be7ab985994737626768a5aed9e53801e71f6af69e465e77bb5aa78118a39b"), looks := true }, kinds := [], alts := [], laidByText := true, laidKinds := [.data, .data, .data, .sentinel, .sentinel], laidTests := true, laidLooks := .later }
def EvolutionUndoUptoCardSaid : Prop := Claim7.holds Tryz.pinned (.plain (OpenSpec.upto evolutionUndoSpec)) evolutionUndoUptoCard

/-- THE SECOND FORM's CARD OF 'stemkeep2.LensEmptyConsistent'. -/
def lensEmptyConsistentUptoCard : Claim7 := { stood := { row := lensEmptyConsistentUptoRow, standIns := [], harness := (true, "44be7ab985994737626768a5aed9e53801e71f6af69e465e77bb5aa78118a39b"), looks := true }, kinds := [], alts := [], laidByText := true, laidKinds := [.data, .data, .data, .sentinel, .sentinel], laidTests := true, laidLooks := .later }
def LensEmptyConsistentUptoCardSaid : Prop := Claim7.holds Tryz.pinned (.plain (OpenSpec.upto lensEmptyConsistentSpec)) lensEmptyConsistentUptoCard

/-- THE SECOND FORM's CARD OF 'stemkeep2.ScriptConcatenation'. -/
def scriptConcatenationUptoCard : Claim7 := { stood := { row := scriptConcatenationUptoRow, standIns := [], harness := (true, "44be7ab985994737626768a5aed9e53801e71f6af69e465e77bb5aa78118a39b"), looks := true }, kinds := [], alts := [], laidByText := true, laidKinds := [.data, .data, .data, .sentinel, .sentinel], laidTests := true, laidLooks := .later }
def ScriptConcatenationUptoCardSaid : Prop := Claim7.holds Tryz.pinned (.plain (OpenSpec.upto scriptConcatenationSpec)) scriptConcatenationUptoCard
end Rows
end Go.Proofs.YtdnapljegcihiaaGreatDoor
