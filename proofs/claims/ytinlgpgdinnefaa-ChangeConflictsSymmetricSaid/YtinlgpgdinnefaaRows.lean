/-
  No cell of these rows narrows 'for every input' (looked for: loops, veiled, ifaces, maps, wideKeys, modest, calm, conditions, laid).
  DERIVED. THE GIVEN ROWS OF THIS SEAT. 10 by the template 'for every input the law returns true; each argument reads behind the call as it read before'; 0 by the template 'total and deterministic' (their statements: YtinlgpgdinnefaaTotals.lean).
  GIVEN WITH THE SEED: the statements are not yours to turn. If you find one false, say at which input.
  Laid BY PROGRAM, IN A SANDBOX (cutbox-rows.mjs): the forced cells as the released guide's own fill.sh prints them over the translation 4ddd542e3ee89f04… (all of the seat's roots in one cut). By AI agents, Wed Nov 11 2026. No macro, syntax, notation, axiom, sorry.
-/
import Derived.Test.YtinlgpgdinnefaaChecked
import GoSem.Claim
import GoSem.ClaimJoined
import GoSem.ClaimMapViews
import Derived.JoinedTies
import Derived.KernelRfl
namespace Go.Proofs.Ytinlgpgdinnefaa
/- THE CELL 'sum', in the pinned program and in every row, IS THE sha256 OF THE DUMP (.gsa) THAT YtinlgpgdinnefaaProg.lean LOADS. Nothing in Lean hashes anything: it is a label: what it is worth is what the hold of that sum in a sandbox is worth. -/
noncomputable def Try.pinned : Pinned := { name := "ytinlgpgdinnefaa", sum := "4ddd542e3ee89f04a16acba6b9dfc857116e9b23347790fe8f90531df752cae5", checked := Try.checked }
namespace Rows
def none {H : Type} : Left H := { results := [], args := [] }

/-- 'stemkeep2.SchemaFind': WHATEVER THE INPUT: true; the input reads as it did. -/
def schemaFindSpec : ChangeSpec := { name := "schemaFind", fn := fun _ => fun
  | [d] => { results := [.lit (.bool true)], args := [d] }
  | _ => none }
def schemaFindRow : OpenClaim := { program := "ytinlgpgdinnefaa", sum := "4ddd542e3ee89f04a16acba6b9dfc857116e9b23347790fe8f90531df752cae5", func := "stemma/stemkeep2.SchemaFind", spec := "schemaFind", inPlace := ["internal/bytealg.abigen_runtime_cmpstring"], unfollowed := true, recurses := true, apart := false }
def SchemaFindSaid : Prop := schemaFindRow.holds Try.pinned (OpenSpec.ofChange schemaFindSpec)

/-- ITS FALSE NEIGHBOUR: 'it returns false'. Refute it at one input. -/
def schemaFindWrong : ChangeSpec := { name := "schemaFind", fn := fun _ => fun
  | [d] => { results := [.lit (.bool false)], args := [d] }
  | _ => none }
def SchemaFindWrongFalsely : Prop := schemaFindRow.holds Try.pinned (OpenSpec.ofChange schemaFindWrong)

/-- 'stemkeep2.RelationDeleteFind': WHATEVER THE INPUT: true; the input reads as it did. -/
def relationDeleteFindSpec : ChangeSpec := { name := "relationDeleteFind", fn := fun _ => fun
  | [d1, d2, d3] => { results := [.lit (.bool true)], args := [d1, d2, d3] }
  | _ => none }
def relationDeleteFindRow : OpenClaim := { program := "ytinlgpgdinnefaa", sum := "4ddd542e3ee89f04a16acba6b9dfc857116e9b23347790fe8f90531df752cae5", func := "stemma/stemkeep2.RelationDeleteFind", spec := "relationDeleteFind", inPlace := ["internal/bytealg.abigen_runtime_cmpstring", "slices.overlaps[stemma/api.Row]"], unfollowed := true, recurses := true, apart := false }
def RelationDeleteFindSaid : Prop := relationDeleteFindRow.holds Try.pinned (OpenSpec.ofChange relationDeleteFindSpec)

/-- ITS FALSE NEIGHBOUR: 'it returns false'. Refute it at one input. -/
def relationDeleteFindWrong : ChangeSpec := { name := "relationDeleteFind", fn := fun _ => fun
  | [d1, d2, d3] => { results := [.lit (.bool false)], args := [d1, d2, d3] }
  | _ => none }
def RelationDeleteFindWrongFalsely : Prop := relationDeleteFindRow.holds Try.pinned (OpenSpec.ofChange relationDeleteFindWrong)

/-- 'stemkeep2.SchemaValidSubset': WHATEVER THE INPUT: true; the input reads as it did. -/
def schemaValidSubsetSpec : ChangeSpec := { name := "schemaValidSubset", fn := fun _ => fun
  | [d1, d2] => { results := [.lit (.bool true)], args := [d1, d2] }
  | _ => none }
def schemaValidSubsetRow : OpenClaim := { program := "ytinlgpgdinnefaa", sum := "4ddd542e3ee89f04a16acba6b9dfc857116e9b23347790fe8f90531df752cae5", func := "stemma/stemkeep2.SchemaValidSubset", spec := "schemaValidSubset", inPlace := ["internal/bytealg.abigen_runtime_cmpstring"], unfollowed := true, recurses := true, apart := false }
def SchemaValidSubsetSaid : Prop := schemaValidSubsetRow.holds Try.pinned (OpenSpec.ofChange schemaValidSubsetSpec)

/-- ITS FALSE NEIGHBOUR: 'it returns false'. Refute it at one input. -/
def schemaValidSubsetWrong : ChangeSpec := { name := "schemaValidSubset", fn := fun _ => fun
  | [d1, d2] => { results := [.lit (.bool false)], args := [d1, d2] }
  | _ => none }
def SchemaValidSubsetWrongFalsely : Prop := schemaValidSubsetRow.holds Try.pinned (OpenSpec.ofChange schemaValidSubsetWrong)

/-- 'stemkeep2.InstanceRulesMonotone': WHATEVER THE INPUT: true; the input reads as it did. -/
def instanceRulesMonotoneSpec : ChangeSpec := { name := "instanceRulesMonotone", fn := fun _ => fun
  | [d1, d2] => { results := [.lit (.bool true)], args := [d1, d2] }
  | _ => none }
def instanceRulesMonotoneRow : OpenClaim := { program := "ytinlgpgdinnefaa", sum := "4ddd542e3ee89f04a16acba6b9dfc857116e9b23347790fe8f90531df752cae5", func := "stemma/stemkeep2.InstanceRulesMonotone", spec := "instanceRulesMonotone", inPlace := ["internal/bytealg.abigen_runtime_cmpstring"], unfollowed := true, recurses := true, apart := false }
def InstanceRulesMonotoneSaid : Prop := instanceRulesMonotoneRow.holds Try.pinned (OpenSpec.ofChange instanceRulesMonotoneSpec)

/-- ITS FALSE NEIGHBOUR: 'it returns false'. Refute it at one input. -/
def instanceRulesMonotoneWrong : ChangeSpec := { name := "instanceRulesMonotone", fn := fun _ => fun
  | [d1, d2] => { results := [.lit (.bool false)], args := [d1, d2] }
  | _ => none }
def InstanceRulesMonotoneWrongFalsely : Prop := instanceRulesMonotoneRow.holds Try.pinned (OpenSpec.ofChange instanceRulesMonotoneWrong)

/-- 'stemkeep2.InstanceEmptyValid': WHATEVER THE INPUT: true; the input reads as it did. -/
def instanceEmptyValidSpec : ChangeSpec := { name := "instanceEmptyValid", fn := fun _ => fun
  | [d] => { results := [.lit (.bool true)], args := [d] }
  | _ => none }
def instanceEmptyValidRow : OpenClaim := { program := "ytinlgpgdinnefaa", sum := "4ddd542e3ee89f04a16acba6b9dfc857116e9b23347790fe8f90531df752cae5", func := "stemma/stemkeep2.InstanceEmptyValid", spec := "instanceEmptyValid", inPlace := ["internal/bytealg.abigen_runtime_cmpstring"], unfollowed := true, recurses := true, apart := false }
def InstanceEmptyValidSaid : Prop := instanceEmptyValidRow.holds Try.pinned (OpenSpec.ofChange instanceEmptyValidSpec)

/-- ITS FALSE NEIGHBOUR: 'it returns false'. Refute it at one input. -/
def instanceEmptyValidWrong : ChangeSpec := { name := "instanceEmptyValid", fn := fun _ => fun
  | [d] => { results := [.lit (.bool false)], args := [d] }
  | _ => none }
def InstanceEmptyValidWrongFalsely : Prop := instanceEmptyValidRow.holds Try.pinned (OpenSpec.ofChange instanceEmptyValidWrong)

/-- 'stemkeep2.InstanceRemoveRow': WHATEVER THE INPUT: true; the input reads as it did. -/
def instanceRemoveRowSpec : ChangeSpec := { name := "instanceRemoveRow", fn := fun _ => fun
  | [d1, d2, d3] => { results := [.lit (.bool true)], args := [d1, d2, d3] }
  | _ => none }
def instanceRemoveRowRow : OpenClaim := { program := "ytinlgpgdinnefaa", sum := "4ddd542e3ee89f04a16acba6b9dfc857116e9b23347790fe8f90531df752cae5", func := "stemma/stemkeep2.InstanceRemoveRow", spec := "instanceRemoveRow", inPlace := ["internal/bytealg.abigen_runtime_cmpstring"], unfollowed := true, recurses := true, apart := false }
def InstanceRemoveRowSaid : Prop := instanceRemoveRowRow.holds Try.pinned (OpenSpec.ofChange instanceRemoveRowSpec)

/-- ITS FALSE NEIGHBOUR: 'it returns false'. Refute it at one input. -/
def instanceRemoveRowWrong : ChangeSpec := { name := "instanceRemoveRow", fn := fun _ => fun
  | [d1, d2, d3] => { results := [.lit (.bool false)], args := [d1, d2, d3] }
  | _ => none }
def InstanceRemoveRowWrongFalsely : Prop := instanceRemoveRowRow.holds Try.pinned (OpenSpec.ofChange instanceRemoveRowWrong)

/-- 'stemkeep2.ChangeSequential': WHATEVER THE INPUT: true; the input reads as it did. -/
def changeSequentialSpec : ChangeSpec := { name := "changeSequential", fn := fun _ => fun
  | [d1, d2, d3, d4] => { results := [.lit (.bool true)], args := [d1, d2, d3, d4] }
  | _ => none }
def changeSequentialRow : OpenClaim := { program := "ytinlgpgdinnefaa", sum := "4ddd542e3ee89f04a16acba6b9dfc857116e9b23347790fe8f90531df752cae5", func := "stemma/stemkeep2.ChangeSequential", spec := "changeSequential", inPlace := ["internal/bytealg.abigen_runtime_cmpstring", "slices.overlaps[stemma/api.Row]"], unfollowed := true, recurses := true, apart := false }
def ChangeSequentialSaid : Prop := changeSequentialRow.holds Try.pinned (OpenSpec.ofChange changeSequentialSpec)

/-- ITS FALSE NEIGHBOUR: 'it returns false'. Refute it at one input. -/
def changeSequentialWrong : ChangeSpec := { name := "changeSequential", fn := fun _ => fun
  | [d1, d2, d3, d4] => { results := [.lit (.bool false)], args := [d1, d2, d3, d4] }
  | _ => none }
def ChangeSequentialWrongFalsely : Prop := changeSequentialRow.holds Try.pinned (OpenSpec.ofChange changeSequentialWrong)

/-- 'stemkeep2.ChangeDiffApply': WHATEVER THE INPUT: true; the input reads as it did. -/
def changeDiffApplySpec : ChangeSpec := { name := "changeDiffApply", fn := fun _ => fun
  | [d1, d2, d3] => { results := [.lit (.bool true)], args := [d1, d2, d3] }
  | _ => none }
def changeDiffApplyRow : OpenClaim := { program := "ytinlgpgdinnefaa", sum := "4ddd542e3ee89f04a16acba6b9dfc857116e9b23347790fe8f90531df752cae5", func := "stemma/stemkeep2.ChangeDiffApply", spec := "changeDiffApply", inPlace := ["internal/bytealg.abigen_runtime_cmpstring", "slices.overlaps[stemma/api.Row]"], unfollowed := true, recurses := true, apart := false }
def ChangeDiffApplySaid : Prop := changeDiffApplyRow.holds Try.pinned (OpenSpec.ofChange changeDiffApplySpec)

/-- ITS FALSE NEIGHBOUR: 'it returns false'. Refute it at one input. -/
def changeDiffApplyWrong : ChangeSpec := { name := "changeDiffApply", fn := fun _ => fun
  | [d1, d2, d3] => { results := [.lit (.bool false)], args := [d1, d2, d3] }
  | _ => none }
def ChangeDiffApplyWrongFalsely : Prop := changeDiffApplyRow.holds Try.pinned (OpenSpec.ofChange changeDiffApplyWrong)

/-- 'stemkeep2.ChangeInvertRestores': WHATEVER THE INPUT: true; the input reads as it did. -/
def changeInvertRestoresSpec : ChangeSpec := { name := "changeInvertRestores", fn := fun _ => fun
  | [d1, d2, d3] => { results := [.lit (.bool true)], args := [d1, d2, d3] }
  | _ => none }
def changeInvertRestoresRow : OpenClaim := { program := "ytinlgpgdinnefaa", sum := "4ddd542e3ee89f04a16acba6b9dfc857116e9b23347790fe8f90531df752cae5", func := "stemma/stemkeep2.ChangeInvertRestores", spec := "changeInvertRestores", inPlace := ["internal/bytealg.abigen_runtime_cmpstring", "slices.overlaps[stemma/api.Row]"], unfollowed := true, recurses := true, apart := false }
def ChangeInvertRestoresSaid : Prop := changeInvertRestoresRow.holds Try.pinned (OpenSpec.ofChange changeInvertRestoresSpec)

/-- ITS FALSE NEIGHBOUR: 'it returns false'. Refute it at one input. -/
def changeInvertRestoresWrong : ChangeSpec := { name := "changeInvertRestores", fn := fun _ => fun
  | [d1, d2, d3] => { results := [.lit (.bool false)], args := [d1, d2, d3] }
  | _ => none }
def ChangeInvertRestoresWrongFalsely : Prop := changeInvertRestoresRow.holds Try.pinned (OpenSpec.ofChange changeInvertRestoresWrong)

/-- 'stemkeep2.ChangeConflictsSymmetric': WHATEVER THE INPUT: true; the input reads as it did. -/
def changeConflictsSymmetricSpec : ChangeSpec := { name := "changeConflictsSymmetric", fn := fun _ => fun
  | [d1, d2, d3] => { results := [.lit (.bool true)], args := [d1, d2, d3] }
  | _ => none }
def changeConflictsSymmetricRow : OpenClaim := { program := "ytinlgpgdinnefaa", sum := "4ddd542e3ee89f04a16acba6b9dfc857116e9b23347790fe8f90531df752cae5", func := "stemma/stemkeep2.ChangeConflictsSymmetric", spec := "changeConflictsSymmetric", inPlace := ["internal/bytealg.abigen_runtime_cmpstring", "slices.overlaps[stemma/api.Row]"], unfollowed := true, recurses := true, apart := false }
def ChangeConflictsSymmetricSaid : Prop := changeConflictsSymmetricRow.holds Try.pinned (OpenSpec.ofChange changeConflictsSymmetricSpec)

/-- ITS FALSE NEIGHBOUR: 'it returns false'. Refute it at one input. -/
def changeConflictsSymmetricWrong : ChangeSpec := { name := "changeConflictsSymmetric", fn := fun _ => fun
  | [d1, d2, d3] => { results := [.lit (.bool false)], args := [d1, d2, d3] }
  | _ => none }
def ChangeConflictsSymmetricWrongFalsely : Prop := changeConflictsSymmetricRow.holds Try.pinned (OpenSpec.ofChange changeConflictsSymmetricWrong)

/- THE SECOND FORM. 'bulk': how many values and letters a reading holds, each counted each time it is reached (what is shared counts as often as it is met; a slice's spare places count too). A statement '..UptoSaid' is the law's where the arguments, and the package variables that the reading takes, are together of bulk at most 1048576: NARROWER than '..Said'. Prove '..Said' where nothing that the law and all that it calls make is longer than what came in: it says more and counts as full. Else prove '..UptoSaid'. A law counts once. -/
mutual
def uptoBulk {H : Type} : DataW H → Nat
  | .lit (.string bytes) => bytes.length + 1
  | .lit _ => 1
  | .nil => 1
  | .ptr d => uptoBulk d + 1
  | .slice elems spare => uptoBulkAll elems + uptoBulkAll spare + 1
  | .agg parts => uptoBulkAll parts + 1
  | .iface _ d => uptoBulk d + 1
  | .map entries => uptoBulkEntries entries + 1
  | .held _ => 1
def uptoBulkAll {H : Type} : List (DataW H) → Nat
  | [] => 0
  | d :: r => uptoBulk d + uptoBulkAll r
def uptoBulkEntries {H : Type} : List (Lit × DataW H) → Nat
  | [] => 0
  | x :: r => uptoBulkEntry x + uptoBulkEntries r
def uptoBulkEntry {H : Type} : Lit × DataW H → Nat
  | (.string bytes, d) => bytes.length + uptoBulk d + 1
  | (_, d) => uptoBulk d + 1
 end
def uptoSmall : (H : Type) → List (DataW H) → Bool := fun _ ds => decide (uptoBulkAll ds ≤ 1048576)
def OpenSpec.upto (s : _root_.Go.ChangeSpec) : _root_.Go.OpenSpec := { _root_.Go.OpenSpec.ofChange s with cond := some uptoSmall }

/-- 'stemkeep2.SchemaFind', WHERE WHAT IT READS IS OF BULK AT MOST 1048576: true; the input reads as it did. -/
def schemaFindUptoRow : OpenClaim := { program := "ytinlgpgdinnefaa", sum := "4ddd542e3ee89f04a16acba6b9dfc857116e9b23347790fe8f90531df752cae5", func := "stemma/stemkeep2.SchemaFind", spec := "schemaFind", inPlace := ["internal/bytealg.abigen_runtime_cmpstring"], unfollowed := true, recurses := true, apart := false, narrowed := true }
def SchemaFindUptoSaid : Prop := schemaFindUptoRow.holds Try.pinned (OpenSpec.upto schemaFindSpec)

/-- 'stemkeep2.RelationDeleteFind', WHERE WHAT IT READS IS OF BULK AT MOST 1048576: true; the input reads as it did. -/
def relationDeleteFindUptoRow : OpenClaim := { program := "ytinlgpgdinnefaa", sum := "4ddd542e3ee89f04a16acba6b9dfc857116e9b23347790fe8f90531df752cae5", func := "stemma/stemkeep2.RelationDeleteFind", spec := "relationDeleteFind", inPlace := ["internal/bytealg.abigen_runtime_cmpstring", "slices.overlaps[stemma/api.Row]"], unfollowed := true, recurses := true, apart := false, narrowed := true }
def RelationDeleteFindUptoSaid : Prop := relationDeleteFindUptoRow.holds Try.pinned (OpenSpec.upto relationDeleteFindSpec)

/-- 'stemkeep2.SchemaValidSubset', WHERE WHAT IT READS IS OF BULK AT MOST 1048576: true; the input reads as it did. -/
def schemaValidSubsetUptoRow : OpenClaim := { program := "ytinlgpgdinnefaa", sum := "4ddd542e3ee89f04a16acba6b9dfc857116e9b23347790fe8f90531df752cae5", func := "stemma/stemkeep2.SchemaValidSubset", spec := "schemaValidSubset", inPlace := ["internal/bytealg.abigen_runtime_cmpstring"], unfollowed := true, recurses := true, apart := false, narrowed := true }
def SchemaValidSubsetUptoSaid : Prop := schemaValidSubsetUptoRow.holds Try.pinned (OpenSpec.upto schemaValidSubsetSpec)

/-- 'stemkeep2.InstanceRulesMonotone', WHERE WHAT IT READS IS OF BULK AT MOST 1048576: true; the input reads as it did. -/
def instanceRulesMonotoneUptoRow : OpenClaim := { program := "ytinlgpgdinnefaa", sum := "4ddd542e3ee89f04a16acba6b9dfc857116e9b23347790fe8f90531df752cae5", func := "stemma/stemkeep2.InstanceRulesMonotone", spec := "instanceRulesMonotone", inPlace := ["internal/bytealg.abigen_runtime_cmpstring"], unfollowed := true, recurses := true, apart := false, narrowed := true }
def InstanceRulesMonotoneUptoSaid : Prop := instanceRulesMonotoneUptoRow.holds Try.pinned (OpenSpec.upto instanceRulesMonotoneSpec)

/-- 'stemkeep2.InstanceEmptyValid', WHERE WHAT IT READS IS OF BULK AT MOST 1048576: true; the input reads as it did. -/
def instanceEmptyValidUptoRow : OpenClaim := { program := "ytinlgpgdinnefaa", sum := "4ddd542e3ee89f04a16acba6b9dfc857116e9b23347790fe8f90531df752cae5", func := "stemma/stemkeep2.InstanceEmptyValid", spec := "instanceEmptyValid", inPlace := ["internal/bytealg.abigen_runtime_cmpstring"], unfollowed := true, recurses := true, apart := false, narrowed := true }
def InstanceEmptyValidUptoSaid : Prop := instanceEmptyValidUptoRow.holds Try.pinned (OpenSpec.upto instanceEmptyValidSpec)

/-- 'stemkeep2.InstanceRemoveRow', WHERE WHAT IT READS IS OF BULK AT MOST 1048576: true; the input reads as it did. -/
def instanceRemoveRowUptoRow : OpenClaim := { program := "ytinlgpgdinnefaa", sum := "4ddd542e3ee89f04a16acba6b9dfc857116e9b23347790fe8f90531df752cae5", func := "stemma/stemkeep2.InstanceRemoveRow", spec := "instanceRemoveRow", inPlace := ["internal/bytealg.abigen_runtime_cmpstring"], unfollowed := true, recurses := true, apart := false, narrowed := true }
def InstanceRemoveRowUptoSaid : Prop := instanceRemoveRowUptoRow.holds Try.pinned (OpenSpec.upto instanceRemoveRowSpec)

/-- 'stemkeep2.ChangeSequential', WHERE WHAT IT READS IS OF BULK AT MOST 1048576: true; the input reads as it did. -/
def changeSequentialUptoRow : OpenClaim := { program := "ytinlgpgdinnefaa", sum := "4ddd542e3ee89f04a16acba6b9dfc857116e9b23347790fe8f90531df752cae5", func := "stemma/stemkeep2.ChangeSequential", spec := "changeSequential", inPlace := ["internal/bytealg.abigen_runtime_cmpstring", "slices.overlaps[stemma/api.Row]"], unfollowed := true, recurses := true, apart := false, narrowed := true }
def ChangeSequentialUptoSaid : Prop := changeSequentialUptoRow.holds Try.pinned (OpenSpec.upto changeSequentialSpec)

/-- 'stemkeep2.ChangeDiffApply', WHERE WHAT IT READS IS OF BULK AT MOST 1048576: true; the input reads as it did. -/
def changeDiffApplyUptoRow : OpenClaim := { program := "ytinlgpgdinnefaa", sum := "4ddd542e3ee89f04a16acba6b9dfc857116e9b23347790fe8f90531df752cae5", func := "stemma/stemkeep2.ChangeDiffApply", spec := "changeDiffApply", inPlace := ["internal/bytealg.abigen_runtime_cmpstring", "slices.overlaps[stemma/api.Row]"], unfollowed := true, recurses := true, apart := false, narrowed := true }
def ChangeDiffApplyUptoSaid : Prop := changeDiffApplyUptoRow.holds Try.pinned (OpenSpec.upto changeDiffApplySpec)

/-- 'stemkeep2.ChangeInvertRestores', WHERE WHAT IT READS IS OF BULK AT MOST 1048576: true; the input reads as it did. -/
def changeInvertRestoresUptoRow : OpenClaim := { program := "ytinlgpgdinnefaa", sum := "4ddd542e3ee89f04a16acba6b9dfc857116e9b23347790fe8f90531df752cae5", func := "stemma/stemkeep2.ChangeInvertRestores", spec := "changeInvertRestores", inPlace := ["internal/bytealg.abigen_runtime_cmpstring", "slices.overlaps[stemma/api.Row]"], unfollowed := true, recurses := true, apart := false, narrowed := true }
def ChangeInvertRestoresUptoSaid : Prop := changeInvertRestoresUptoRow.holds Try.pinned (OpenSpec.upto changeInvertRestoresSpec)

/-- 'stemkeep2.ChangeConflictsSymmetric', WHERE WHAT IT READS IS OF BULK AT MOST 1048576: true; the input reads as it did. -/
def changeConflictsSymmetricUptoRow : OpenClaim := { program := "ytinlgpgdinnefaa", sum := "4ddd542e3ee89f04a16acba6b9dfc857116e9b23347790fe8f90531df752cae5", func := "stemma/stemkeep2.ChangeConflictsSymmetric", spec := "changeConflictsSymmetric", inPlace := ["internal/bytealg.abigen_runtime_cmpstring", "slices.overlaps[stemma/api.Row]"], unfollowed := true, recurses := true, apart := false, narrowed := true }
def ChangeConflictsSymmetricUptoSaid : Prop := changeConflictsSymmetricUptoRow.holds Try.pinned (OpenSpec.upto changeConflictsSymmetricSpec)

end Rows
end Go.Proofs.Ytinlgpgdinnefaa
