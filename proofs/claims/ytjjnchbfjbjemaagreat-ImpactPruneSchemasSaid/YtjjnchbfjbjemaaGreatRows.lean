/-
  No cell of these rows narrows 'for every input' (looked for: loops, veiled, ifaces, maps, wideKeys, modest, calm, conditions, laid).
  DERIVED. THE GIVEN ROWS OF THIS SEAT. 6 by the template 'for every input the law returns true; each argument reads behind the call as it read before'; 0 by the template 'total and deterministic' (their statements: YtjjnchbfjbjemaaGreatTotals.lean).
  GIVEN WITH THE SEED: the statements are not yours to turn. If you find one false, say at which input.
  Laid BY PROGRAM, IN A SANDBOX (cutbox-rows.mjs): the forced cells as the released guide's own fill.sh prints them over the translation 88ee275861066d18… (all of the seat's roots in one cut). By AI agents, Wed Nov 11 2026. No macro, syntax, notation, axiom, sorry.
-/
import Derived.Test.YtjjnchbfjbjemaaGreatChecked
import GoSem.Claim
import GoSem.ClaimJoined
import GoSem.ClaimMapViews
import Derived.JoinedTies
import Derived.KernelRfl
namespace Go.Proofs.YtjjnchbfjbjemaaGreat
/- THE CELL 'sum', in the pinned program and in every row, IS THE sha256 OF THE DUMP (.gsa) THAT YtjjnchbfjbjemaaGreatProg.lean LOADS. Nothing in Lean hashes anything: it is a label: what it is worth is what the hold of that sum in a sandbox is worth. -/
noncomputable def Tryz.pinned : Pinned := { name := "ytjjnchbfjbjemaagreat", sum := "88ee275861066d18f38e8abe03d83267d1524c542b4a1593b0a2d28c1a15a817", checked := Tryz.checked }
namespace Rows
def none {H : Type} : Left H := { results := [], args := [] }

/-- 'stemkeep2.VersionsPathReverse': WHATEVER THE INPUT: true; the input reads as it did. -/
def versionsPathReverseSpec : ChangeSpec := { name := "versionsPathReverse", fn := fun _ => fun
  | [d1, d2, d3] => { results := [.lit (.bool true)], args := [d1, d2, d3] }
  | _ => none }
def versionsPathReverseRow : OpenClaim := { program := "ytjjnchbfjbjemaagreat", sum := "88ee275861066d18f38e8abe03d83267d1524c542b4a1593b0a2d28c1a15a817", func := "stemma/stemkeep2.VersionsPathReverse", spec := "versionsPathReverse", inPlace := ["internal/bytealg.abigen_runtime_cmpstring"], unfollowed := true, recurses := true, apart := false }
def VersionsPathReverseSaid : Prop := versionsPathReverseRow.holds Tryz.pinned (OpenSpec.ofChange versionsPathReverseSpec)

/-- ITS FALSE NEIGHBOUR: 'it returns false'. Refute it at one input. -/
def versionsPathReverseWrong : ChangeSpec := { name := "versionsPathReverse", fn := fun _ => fun
  | [d1, d2, d3] => { results := [.lit (.bool false)], args := [d1, d2, d3] }
  | _ => none }
def VersionsPathReverseWrongFalsely : Prop := versionsPathReverseRow.holds Tryz.pinned (OpenSpec.ofChange versionsPathReverseWrong)

/-- 'stemkeep2.VersionsExtend': WHATEVER THE INPUT: true; the input reads as it did. -/
def versionsExtendSpec : ChangeSpec := { name := "versionsExtend", fn := fun _ => fun
  | [d1, d2, d3] => { results := [.lit (.bool true)], args := [d1, d2, d3] }
  | _ => none }
def versionsExtendRow : OpenClaim := { program := "ytjjnchbfjbjemaagreat", sum := "88ee275861066d18f38e8abe03d83267d1524c542b4a1593b0a2d28c1a15a817", func := "stemma/stemkeep2.VersionsExtend", spec := "versionsExtend", inPlace := ["internal/bytealg.abigen_runtime_cmpstring"], unfollowed := true, recurses := true, apart := false }
def VersionsExtendSaid : Prop := versionsExtendRow.holds Tryz.pinned (OpenSpec.ofChange versionsExtendSpec)

/-- ITS FALSE NEIGHBOUR: 'it returns false'. Refute it at one input. -/
def versionsExtendWrong : ChangeSpec := { name := "versionsExtend", fn := fun _ => fun
  | [d1, d2, d3] => { results := [.lit (.bool false)], args := [d1, d2, d3] }
  | _ => none }
def VersionsExtendWrongFalsely : Prop := versionsExtendRow.holds Tryz.pinned (OpenSpec.ofChange versionsExtendWrong)

/-- 'stemkeep2.VersionsTraverseDistance': WHATEVER THE INPUT: true; the input reads as it did. -/
def versionsTraverseDistanceSpec : ChangeSpec := { name := "versionsTraverseDistance", fn := fun _ => fun
  | [d1, d2] => { results := [.lit (.bool true)], args := [d1, d2] }
  | _ => none }
def versionsTraverseDistanceRow : OpenClaim := { program := "ytjjnchbfjbjemaagreat", sum := "88ee275861066d18f38e8abe03d83267d1524c542b4a1593b0a2d28c1a15a817", func := "stemma/stemkeep2.VersionsTraverseDistance", spec := "versionsTraverseDistance", inPlace := ["internal/bytealg.abigen_runtime_cmpstring"], unfollowed := true, recurses := true, apart := false }
def VersionsTraverseDistanceSaid : Prop := versionsTraverseDistanceRow.holds Tryz.pinned (OpenSpec.ofChange versionsTraverseDistanceSpec)

/-- ITS FALSE NEIGHBOUR: 'it returns false'. Refute it at one input. -/
def versionsTraverseDistanceWrong : ChangeSpec := { name := "versionsTraverseDistance", fn := fun _ => fun
  | [d1, d2] => { results := [.lit (.bool false)], args := [d1, d2] }
  | _ => none }
def VersionsTraverseDistanceWrongFalsely : Prop := versionsTraverseDistanceRow.holds Tryz.pinned (OpenSpec.ofChange versionsTraverseDistanceWrong)

/-- 'stemkeep2.ImpactRequiredMonotone': WHATEVER THE INPUT: true; the input reads as it did. -/
def impactRequiredMonotoneSpec : ChangeSpec := { name := "impactRequiredMonotone", fn := fun _ => fun
  | [d1, d2, d3] => { results := [.lit (.bool true)], args := [d1, d2, d3] }
  | _ => none }
def impactRequiredMonotoneRow : OpenClaim := { program := "ytjjnchbfjbjemaagreat", sum := "88ee275861066d18f38e8abe03d83267d1524c542b4a1593b0a2d28c1a15a817", func := "stemma/stemkeep2.ImpactRequiredMonotone", spec := "impactRequiredMonotone", inPlace := ["internal/bytealg.abigen_runtime_cmpstring"], unfollowed := true, recurses := true, apart := false }
def ImpactRequiredMonotoneSaid : Prop := impactRequiredMonotoneRow.holds Tryz.pinned (OpenSpec.ofChange impactRequiredMonotoneSpec)

/-- ITS FALSE NEIGHBOUR: 'it returns false'. Refute it at one input. -/
def impactRequiredMonotoneWrong : ChangeSpec := { name := "impactRequiredMonotone", fn := fun _ => fun
  | [d1, d2, d3] => { results := [.lit (.bool false)], args := [d1, d2, d3] }
  | _ => none }
def ImpactRequiredMonotoneWrongFalsely : Prop := impactRequiredMonotoneRow.holds Tryz.pinned (OpenSpec.ofChange impactRequiredMonotoneWrong)

/-- 'stemkeep2.ImpactPruneSchemas': WHATEVER THE INPUT: true; the input reads as it did. -/
def impactPruneSchemasSpec : ChangeSpec := { name := "impactPruneSchemas", fn := fun _ => fun
  | [d1, d2] => { results := [.lit (.bool true)], args := [d1, d2] }
  | _ => none }
def impactPruneSchemasRow : OpenClaim := { program := "ytjjnchbfjbjemaagreat", sum := "88ee275861066d18f38e8abe03d83267d1524c542b4a1593b0a2d28c1a15a817", func := "stemma/stemkeep2.ImpactPruneSchemas", spec := "impactPruneSchemas", inPlace := ["internal/bytealg.abigen_runtime_cmpstring"], unfollowed := true, recurses := true, apart := false }
def ImpactPruneSchemasSaid : Prop := impactPruneSchemasRow.holds Tryz.pinned (OpenSpec.ofChange impactPruneSchemasSpec)

/-- ITS FALSE NEIGHBOUR: 'it returns false'. Refute it at one input. -/
def impactPruneSchemasWrong : ChangeSpec := { name := "impactPruneSchemas", fn := fun _ => fun
  | [d1, d2] => { results := [.lit (.bool false)], args := [d1, d2] }
  | _ => none }
def ImpactPruneSchemasWrongFalsely : Prop := impactPruneSchemasRow.holds Tryz.pinned (OpenSpec.ofChange impactPruneSchemasWrong)

/-- 'stemkeep2.VersionsMergeCommutes': WHATEVER THE INPUT: true; the input reads as it did. -/
def versionsMergeCommutesSpec : ChangeSpec := { name := "versionsMergeCommutes", fn := fun _ => fun
  | [d1, d2, d3] => { results := [.lit (.bool true)], args := [d1, d2, d3] }
  | _ => none }
def versionsMergeCommutesRow : OpenClaim := { program := "ytjjnchbfjbjemaagreat", sum := "88ee275861066d18f38e8abe03d83267d1524c542b4a1593b0a2d28c1a15a817", func := "stemma/stemkeep2.VersionsMergeCommutes", spec := "versionsMergeCommutes", inPlace := ["internal/bytealg.abigen_runtime_cmpstring"], unfollowed := true, recurses := true, apart := false }
def VersionsMergeCommutesSaid : Prop := versionsMergeCommutesRow.holds Tryz.pinned (OpenSpec.ofChange versionsMergeCommutesSpec)

/-- ITS FALSE NEIGHBOUR: 'it returns false'. Refute it at one input. -/
def versionsMergeCommutesWrong : ChangeSpec := { name := "versionsMergeCommutes", fn := fun _ => fun
  | [d1, d2, d3] => { results := [.lit (.bool false)], args := [d1, d2, d3] }
  | _ => none }
def VersionsMergeCommutesWrongFalsely : Prop := versionsMergeCommutesRow.holds Tryz.pinned (OpenSpec.ofChange versionsMergeCommutesWrong)

/- THE SECOND FORM. 'bulk': how many values and letters a reading holds, each counted each time it is reached (what is shared counts as often as it is met; a slice's spare places count too). A statement '..UptoSaid' is the law's where the arguments, and the package variables that the reading takes, are together of bulk at most 1048576: NARROWER than '..Said'. Prove '..Said' where nothing that the law and all that it calls make is longer than what came in: it says more and counts as full. Else prove '..UptoSaid'. A law counts once. -/
mutual
def uptoBulk {H : Type} : DataW H → Nat
  | .lit (.string bytes) => bytes.length + 1
  | .lit _ => 1
  | .nil => 1
  | .ptr d => uptoBulk d + 1
  | .slice elems spare => uptoBulkAll elems + uptoBulkAll spare + 1
  | .agg parts => uptoBulkAll parts + 1
  | .iface _ d => uptoBulk d + 1
  | .map entries => uptoBulkEntries entries + 1
  | .held _ => 1
def uptoBulkAll {H : Type} : List (DataW H) → Nat
  | [] => 0
  | d :: r => uptoBulk d + uptoBulkAll r
def uptoBulkEntries {H : Type} : List (Lit × DataW H) → Nat
  | [] => 0
  | x :: r => uptoBulkEntry x + uptoBulkEntries r
def uptoBulkEntry {H : Type} : Lit × DataW H → Nat
  | (.string bytes, d) => bytes.length + uptoBulk d + 1
  | (_, d) => uptoBulk d + 1
 end
def uptoSmall : (H : Type) → List (DataW H) → Bool := fun _ ds => decide (uptoBulkAll ds ≤ 1048576)
def OpenSpec.upto (s : _root_.Go.ChangeSpec) : _root_.Go.OpenSpec := { _root_.Go.OpenSpec.ofChange s with cond := some uptoSmall }

/-- 'stemkeep2.VersionsPathReverse', WHERE WHAT IT READS IS OF BULK AT MOST 1048576: true; the input reads as it did. -/
def versionsPathReverseUptoRow : OpenClaim := { program := "ytjjnchbfjbjemaagreat", sum := "88ee275861066d18f38e8abe03d83267d1524c542b4a1593b0a2d28c1a15a817", func := "stemma/stemkeep2.VersionsPathReverse", spec := "versionsPathReverse", inPlace := ["internal/bytealg.abigen_runtime_cmpstring"], unfollowed := true, recurses := true, apart := false, narrowed := true }
def VersionsPathReverseUptoSaid : Prop := versionsPathReverseUptoRow.holds Tryz.pinned (OpenSpec.upto versionsPathReverseSpec)

/-- 'stemkeep2.VersionsExtend', WHERE WHAT IT READS IS OF BULK AT MOST 1048576: true; the input reads as it did. -/
def versionsExtendUptoRow : OpenClaim := { program := "ytjjnchbfjbjemaagreat", sum := "88ee275861066d18f38e8abe03d83267d1524c542b4a1593b0a2d28c1a15a817", func := "stemma/stemkeep2.VersionsExtend", spec := "versionsExtend", inPlace := ["internal/bytealg.abigen_runtime_cmpstring"], unfollowed := true, recurses := true, apart := false, narrowed := true }
def VersionsExtendUptoSaid : Prop := versionsExtendUptoRow.holds Tryz.pinned (OpenSpec.upto versionsExtendSpec)

/-- 'stemkeep2.VersionsTraverseDistance', WHERE WHAT IT READS IS OF BULK AT MOST 1048576: true; the input reads as it did. -/
def versionsTraverseDistanceUptoRow : OpenClaim := { program := "ytjjnchbfjbjemaagreat", sum := "88ee275861066d18f38e8abe03d83267d1524c542b4a1593b0a2d28c1a15a817", func := "stemma/stemkeep2.VersionsTraverseDistance", spec := "versionsTraverseDistance", inPlace := ["internal/bytealg.abigen_runtime_cmpstring"], unfollowed := true, recurses := true, apart := false, narrowed := true }
def VersionsTraverseDistanceUptoSaid : Prop := versionsTraverseDistanceUptoRow.holds Tryz.pinned (OpenSpec.upto versionsTraverseDistanceSpec)

/-- 'stemkeep2.ImpactRequiredMonotone', WHERE WHAT IT READS IS OF BULK AT MOST 1048576: true; the input reads as it did. -/
def impactRequiredMonotoneUptoRow : OpenClaim := { program := "ytjjnchbfjbjemaagreat", sum := "88ee275861066d18f38e8abe03d83267d1524c542b4a1593b0a2d28c1a15a817", func := "stemma/stemkeep2.ImpactRequiredMonotone", spec := "impactRequiredMonotone", inPlace := ["internal/bytealg.abigen_runtime_cmpstring"], unfollowed := true, recurses := true, apart := false, narrowed := true }
def ImpactRequiredMonotoneUptoSaid : Prop := impactRequiredMonotoneUptoRow.holds Tryz.pinned (OpenSpec.upto impactRequiredMonotoneSpec)

/-- 'stemkeep2.ImpactPruneSchemas', WHERE WHAT IT READS IS OF BULK AT MOST 1048576: true; the input reads as it did. -/
def impactPruneSchemasUptoRow : OpenClaim := { program := "ytjjnchbfjbjemaagreat", sum := "88ee275861066d18f38e8abe03d83267d1524c542b4a1593b0a2d28c1a15a817", func := "stemma/stemkeep2.ImpactPruneSchemas", spec := "impactPruneSchemas", inPlace := ["internal/bytealg.abigen_runtime_cmpstring"], unfollowed := true, recurses := true, apart := false, narrowed := true }
def ImpactPruneSchemasUptoSaid : Prop := impactPruneSchemasUptoRow.holds Tryz.pinned (OpenSpec.upto impactPruneSchemasSpec)

/-- 'stemkeep2.VersionsMergeCommutes', WHERE WHAT IT READS IS OF BULK AT MOST 1048576: true; the input reads as it did. -/
def versionsMergeCommutesUptoRow : OpenClaim := { program := "ytjjnchbfjbjemaagreat", sum := "88ee275861066d18f38e8abe03d83267d1524c542b4a1593b0a2d28c1a15a817", func := "stemma/stemkeep2.VersionsMergeCommutes", spec := "versionsMergeCommutes", inPlace := ["internal/bytealg.abigen_runtime_cmpstring"], unfollowed := true, recurses := true, apart := false, narrowed := true }
def VersionsMergeCommutesUptoSaid : Prop := versionsMergeCommutesUptoRow.holds Tryz.pinned (OpenSpec.upto versionsMergeCommutesSpec)

end Rows
end Go.Proofs.YtjjnchbfjbjemaaGreat
