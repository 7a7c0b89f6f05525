/-
  NARROWER THAN 'FOR EVERY INPUT', by the rows' own cells (each row's printed sentence says how): EvolutionValid: laid · EvolutionSplitJoin: laid · ComplementConforms: laid · LensHiddenSurvives: laid · LensConstraintHides: laid · EvolutionRenameBack: laid · EvolutionUndo: laid · LensEmptyConsistent: laid · ScriptConcatenation: laid.
  DERIVED. THE GIVEN ROWS OF THIS SEAT. 9 by the template 'for every input the law returns true; each argument reads behind the call as it read before'; 0 by the template 'total and deterministic' (their statements: YtdnapljegcihiaaGreatDoorTotals.lean).
  GIVEN WITH THE SEED: the statements are not yours to turn. If you find one false, say at which input.
  Laid BY PROGRAM, IN A SANDBOX (cutbox-rows.mjs): the forced cells as the released guide's own fill.sh prints them over the translation 5f39dac00e97147a… (all of the seat's roots in one cut). By AI agents, Wed Nov 11 2026. No macro, syntax, notation, axiom, sorry.
-/
import Derived.Test.YtdnapljegcihiaaGreatDoorChecked
import GoSem.Claim
import GoSem.ClaimJoined
import GoSem.ClaimMapViews
import Derived.JoinedTies
import Derived.KernelRfl
namespace Go.Proofs.YtdnapljegcihiaaGreatDoor
/- THE CELL 'sum', in the pinned program and in every row, IS THE sha256 OF THE DUMP (.gsa) THAT YtdnapljegcihiaaGreatDoorProg.lean LOADS. Nothing in Lean hashes anything: it is a label: what it is worth is what the hold of that sum in a sandbox is worth. -/
noncomputable def Tryz.pinned : Pinned := { name := "ytdnapljegcihiaagreatdoor", sum := "5f39dac00e97147a9197146fc0383fe2d5b4a7ab3ef6c9b1a612c9a69e7554c7", checked := Tryz.checked }
namespace Rows
def none {H : Type} : Left H := { results := [], args := [] }

/- WHAT THE LISTED PACKAGE-LEVEL VARIABLES READ AS WHEN THE CALL BEGINS. Each datum BY PROGRAM (the guide's laid-datum.mjs) off the statement by which the dump's own 'gosem.cut.vars' lays the variable. In a bare row this is a premise. The card (YtdnapljegcihiaaGreatDoorCards.lean) ties it to the program's text. -/
def laid_math_bits_deBruijn32tab {H : Type} : DataW H := .agg [.lit (.int .u8 0), .lit (.int .u8 1), .lit (.int .u8 28), .lit (.int .u8 2), .lit (.int .u8 29), .lit (.int .u8 14), .lit (.int .u8 24), .lit (.int .u8 3), .lit (.int .u8 30), .lit (.int .u8 22), .lit (.int .u8 20), .lit (.int .u8 15), .lit (.int .u8 25), .lit (.int .u8 17), .lit (.int .u8 4), .lit (.int .u8 8), .lit (.int .u8 31), .lit (.int .u8 27), .lit (.int .u8 13), .lit (.int .u8 23), .lit (.int .u8 21), .lit (.int .u8 19), .lit (.int .u8 16), .lit (.int .u8 7), .lit (.int .u8 26), .lit (.int .u8 12), .lit (.int .u8 18), .lit (.int .u8 6), .lit (.int .u8 11), .lit (.int .u8 5), .lit (.int .u8 10), .lit (.int .u8 9)]
def laid_math_bits_deBruijn64tab {H : Type} : DataW H := .agg [.lit (.int .u8 0), .lit (.int .u8 1), .lit (.int .u8 56), .lit (.int .u8 2), .lit (.int .u8 57), .lit (.int .u8 49), .lit (.int .u8 28), .lit (.int .u8 3), .lit (.int .u8 61), .lit (.int .u8 58), .lit (.int .u8 42), .lit (.int .u8 50), .lit (.int .u8 38), .lit (.int .u8 29), .lit (.int .u8 17), .lit (.int .u8 4), .lit (.int .u8 62), .lit (.int .u8 47), .lit (.int .u8 59), .lit (.int .u8 36), .lit (.int .u8 45), .lit (.int .u8 43), .lit (.int .u8 51), .lit (.int .u8 22), .lit (.int .u8 53), .lit (.int .u8 39), .lit (.int .u8 33), .lit (.int .u8 30), .lit (.int .u8 24), .lit (.int .u8 18), .lit (.int .u8 12), .lit (.int .u8 5), .lit (.int .u8 63), .lit (.int .u8 55), .lit (.int .u8 48), .lit (.int .u8 27), .lit (.int .u8 60), .lit (.int .u8 41), .lit (.int .u8 37), .lit (.int .u8 16), .lit (.int .u8 46), .lit (.int .u8 35), .lit (.int .u8 44), .lit (.int .u8 21), .lit (.int .u8 52), .lit (.int .u8 32), .lit (.int .u8 23), .lit (.int .u8 11), .lit (.int .u8 54), .lit (.int .u8 26), .lit (.int .u8 40), .lit (.int .u8 15), .lit (.int .u8 34), .lit (.int .u8 20), .lit (.int .u8 31), .lit (.int .u8 10), .lit (.int .u8 25), .lit (.int .u8 14), .lit (.int .u8 19), .lit (.int .u8 9), .lit (.int .u8 13), .lit (.int .u8 8), .lit (.int .u8 7), .lit (.int .u8 6)]
def laid_internal_strconv_uint64pow10 {H : Type} : DataW H := .agg [.lit (.int .u64 1), .lit (.int .u64 10), .lit (.int .u64 100), .lit (.int .u64 1000), .lit (.int .u64 10000), .lit (.int .u64 100000), .lit (.int .u64 1000000), .lit (.int .u64 10000000), .lit (.int .u64 100000000), .lit (.int .u64 1000000000), .lit (.int .u64 10000000000), .lit (.int .u64 100000000000), .lit (.int .u64 1000000000000), .lit (.int .u64 10000000000000), .lit (.int .u64 100000000000000), .lit (.int .u64 1000000000000000), .lit (.int .u64 10000000000000000), .lit (.int .u64 100000000000000000), .lit (.int .u64 1000000000000000000), .lit (.int .u64 10000000000000000000)]
def laid_strconv_ErrRange {H : Type} : DataW H := .iface "*errors.errorString" (.ptr (.agg [.lit (.string [118, 97, 108, 117, 101, 32, 111, 117, 116, 32, 111, 102, 32, 114, 97, 110, 103, 101])]))
def laid_strconv_ErrSyntax {H : Type} : DataW H := .iface "*errors.errorString" (.ptr (.agg [.lit (.string [105, 110, 118, 97, 108, 105, 100, 32, 115, 121, 110, 116, 97, 120])]))

/-- 'stemkeep2.EvolutionValid': WHATEVER THE INPUT: true; the input reads as it did. -/
def evolutionValidSpec : ChangeSpec := { name := "evolutionValid", fn := fun _ => fun
  | [d1, d2] => { results := [.lit (.bool true)], args := [d1, d2] }
  | _ => none }
def evolutionValidRow : OpenClaim := { program := "ytdnapljegcihiaagreatdoor", sum := "5f39dac00e97147a9197146fc0383fe2d5b4a7ab3ef6c9b1a612c9a69e7554c7", func := "stemma/stemkeep2.EvolutionValid", spec := "evolutionValid", inPlace := ["internal/bytealg.abigen_runtime_cmpstring", "slices.overlaps[stemma/api.Value]", "internal/bytealg.IndexByteString", "internal/bytealg.IndexString", "slices.overlaps[stemma/api.Row]", "internal/abi.NoEscape"], unfollowed := true, recurses := true, named := ["internal/strconv.uint64pow10", "math/bits.deBruijn32tab", "math/bits.deBruijn64tab", "strconv.ErrSyntax", "strconv.ErrRange", "internal/bytealg.MaxLen"], apart := false, laid := [("math/bits.deBruijn32tab", laid_math_bits_deBruijn32tab), ("math/bits.deBruijn64tab", laid_math_bits_deBruijn64tab), ("internal/strconv.uint64pow10", laid_internal_strconv_uint64pow10), ("strconv.ErrRange", laid_strconv_ErrRange), ("strconv.ErrSyntax", laid_strconv_ErrSyntax)] }
def EvolutionValidSaid : Prop := evolutionValidRow.holds Tryz.pinned (OpenSpec.ofChange evolutionValidSpec)

/-- ITS FALSE NEIGHBOUR: 'it returns false'. Refute it at one input. -/
def evolutionValidWrong : ChangeSpec := { name := "evolutionValid", fn := fun _ => fun
  | [d1, d2] => { results := [.lit (.bool false)], args := [d1, d2] }
  | _ => none }
def EvolutionValidWrongFalsely : Prop := evolutionValidRow.holds Tryz.pinned (OpenSpec.ofChange evolutionValidWrong)

/-- 'stemkeep2.EvolutionSplitJoin': WHATEVER THE INPUT: true; the input reads as it did. -/
def evolutionSplitJoinSpec : ChangeSpec := { name := "evolutionSplitJoin", fn := fun _ => fun
  | [d1, d2] => { results := [.lit (.bool true)], args := [d1, d2] }
  | _ => none }
def evolutionSplitJoinRow : OpenClaim := { program := "ytdnapljegcihiaagreatdoor", sum := "5f39dac00e97147a9197146fc0383fe2d5b4a7ab3ef6c9b1a612c9a69e7554c7", func := "stemma/stemkeep2.EvolutionSplitJoin", spec := "evolutionSplitJoin", inPlace := ["internal/bytealg.abigen_runtime_cmpstring", "slices.overlaps[stemma/api.Value]", "internal/bytealg.IndexByteString", "internal/bytealg.IndexString", "slices.overlaps[stemma/api.Row]", "internal/abi.NoEscape"], unfollowed := true, recurses := true, named := ["internal/strconv.uint64pow10", "math/bits.deBruijn32tab", "math/bits.deBruijn64tab", "strconv.ErrSyntax", "strconv.ErrRange", "internal/bytealg.MaxLen"], apart := false, laid := [("math/bits.deBruijn32tab", laid_math_bits_deBruijn32tab), ("math/bits.deBruijn64tab", laid_math_bits_deBruijn64tab), ("internal/strconv.uint64pow10", laid_internal_strconv_uint64pow10), ("strconv.ErrRange", laid_strconv_ErrRange), ("strconv.ErrSyntax", laid_strconv_ErrSyntax)] }
def EvolutionSplitJoinSaid : Prop := evolutionSplitJoinRow.holds Tryz.pinned (OpenSpec.ofChange evolutionSplitJoinSpec)

/-- ITS FALSE NEIGHBOUR: 'it returns false'. Refute it at one input. -/
def evolutionSplitJoinWrong : ChangeSpec := { name := "evolutionSplitJoin", fn := fun _ => fun
  | [d1, d2] => { results := [.lit (.bool false)], args := [d1, d2] }
  | _ => none }
def EvolutionSplitJoinWrongFalsely : Prop := evolutionSplitJoinRow.holds Tryz.pinned (OpenSpec.ofChange evolutionSplitJoinWrong)

/-- 'stemkeep2.ComplementConforms': WHATEVER THE INPUT: true; the input reads as it did. -/
def complementConformsSpec : ChangeSpec := { name := "complementConforms", fn := fun _ => fun
  | [d1, d2] => { results := [.lit (.bool true)], args := [d1, d2] }
  | _ => none }
def complementConformsRow : OpenClaim := { program := "ytdnapljegcihiaagreatdoor", sum := "5f39dac00e97147a9197146fc0383fe2d5b4a7ab3ef6c9b1a612c9a69e7554c7", func := "stemma/stemkeep2.ComplementConforms", spec := "complementConforms", inPlace := ["internal/bytealg.abigen_runtime_cmpstring", "slices.overlaps[stemma/api.Value]", "internal/bytealg.IndexByteString", "internal/bytealg.IndexString", "slices.overlaps[stemma/api.Row]", "internal/abi.NoEscape"], unfollowed := true, recurses := true, named := ["internal/strconv.uint64pow10", "math/bits.deBruijn32tab", "math/bits.deBruijn64tab", "strconv.ErrSyntax", "strconv.ErrRange", "internal/bytealg.MaxLen"], apart := false, laid := [("math/bits.deBruijn32tab", laid_math_bits_deBruijn32tab), ("math/bits.deBruijn64tab", laid_math_bits_deBruijn64tab), ("internal/strconv.uint64pow10", laid_internal_strconv_uint64pow10), ("strconv.ErrRange", laid_strconv_ErrRange), ("strconv.ErrSyntax", laid_strconv_ErrSyntax)] }
def ComplementConformsSaid : Prop := complementConformsRow.holds Tryz.pinned (OpenSpec.ofChange complementConformsSpec)

/-- ITS FALSE NEIGHBOUR: 'it returns false'. Refute it at one input. -/
def complementConformsWrong : ChangeSpec := { name := "complementConforms", fn := fun _ => fun
  | [d1, d2] => { results := [.lit (.bool false)], args := [d1, d2] }
  | _ => none }
def ComplementConformsWrongFalsely : Prop := complementConformsRow.holds Tryz.pinned (OpenSpec.ofChange complementConformsWrong)

/-- 'stemkeep2.LensHiddenSurvives': WHATEVER THE INPUT: true; the input reads as it did. -/
def lensHiddenSurvivesSpec : ChangeSpec := { name := "lensHiddenSurvives", fn := fun _ => fun
  | [d1, d2, d3] => { results := [.lit (.bool true)], args := [d1, d2, d3] }
  | _ => none }
def lensHiddenSurvivesRow : OpenClaim := { program := "ytdnapljegcihiaagreatdoor", sum := "5f39dac00e97147a9197146fc0383fe2d5b4a7ab3ef6c9b1a612c9a69e7554c7", func := "stemma/stemkeep2.LensHiddenSurvives", spec := "lensHiddenSurvives", inPlace := ["internal/bytealg.abigen_runtime_cmpstring", "slices.overlaps[stemma/api.Value]", "internal/bytealg.IndexByteString", "internal/bytealg.IndexString", "slices.overlaps[stemma/api.Row]", "internal/abi.NoEscape"], unfollowed := true, recurses := true, named := ["internal/strconv.uint64pow10", "math/bits.deBruijn32tab", "math/bits.deBruijn64tab", "strconv.ErrSyntax", "strconv.ErrRange", "internal/bytealg.MaxLen"], apart := false, laid := [("math/bits.deBruijn32tab", laid_math_bits_deBruijn32tab), ("math/bits.deBruijn64tab", laid_math_bits_deBruijn64tab), ("internal/strconv.uint64pow10", laid_internal_strconv_uint64pow10), ("strconv.ErrRange", laid_strconv_ErrRange), ("strconv.ErrSyntax", laid_strconv_ErrSyntax)] }
def LensHiddenSurvivesSaid : Prop := lensHiddenSurvivesRow.holds Tryz.pinned (OpenSpec.ofChange lensHiddenSurvivesSpec)

/-- ITS FALSE NEIGHBOUR: 'it returns false'. Refute it at one input. -/
def lensHiddenSurvivesWrong : ChangeSpec := { name := "lensHiddenSurvives", fn := fun _ => fun
  | [d1, d2, d3] => { results := [.lit (.bool false)], args := [d1, d2, d3] }
  | _ => none }
def LensHiddenSurvivesWrongFalsely : Prop := lensHiddenSurvivesRow.holds Tryz.pinned (OpenSpec.ofChange lensHiddenSurvivesWrong)

/-- 'stemkeep2.LensConstraintHides': WHATEVER THE INPUT: true; the input reads as it did. -/
def lensConstraintHidesSpec : ChangeSpec := { name := "lensConstraintHides", fn := fun _ => fun
  | [d1, d2] => { results := [.lit (.bool true)], args := [d1, d2] }
  | _ => none }
def lensConstraintHidesRow : OpenClaim := { program := "ytdnapljegcihiaagreatdoor", sum := "5f39dac00e97147a9197146fc0383fe2d5b4a7ab3ef6c9b1a612c9a69e7554c7", func := "stemma/stemkeep2.LensConstraintHides", spec := "lensConstraintHides", inPlace := ["internal/bytealg.abigen_runtime_cmpstring", "slices.overlaps[stemma/api.Value]", "internal/bytealg.IndexByteString", "internal/bytealg.IndexString", "slices.overlaps[stemma/api.Row]", "internal/abi.NoEscape"], unfollowed := true, recurses := true, named := ["internal/strconv.uint64pow10", "math/bits.deBruijn32tab", "math/bits.deBruijn64tab", "strconv.ErrSyntax", "strconv.ErrRange", "internal/bytealg.MaxLen"], apart := false, laid := [("math/bits.deBruijn32tab", laid_math_bits_deBruijn32tab), ("math/bits.deBruijn64tab", laid_math_bits_deBruijn64tab), ("internal/strconv.uint64pow10", laid_internal_strconv_uint64pow10), ("strconv.ErrRange", laid_strconv_ErrRange), ("strconv.ErrSyntax", laid_strconv_ErrSyntax)] }
def LensConstraintHidesSaid : Prop := lensConstraintHidesRow.holds Tryz.pinned (OpenSpec.ofChange lensConstraintHidesSpec)

/-- ITS FALSE NEIGHBOUR: 'it returns false'. Refute it at one input. -/
def lensConstraintHidesWrong : ChangeSpec := { name := "lensConstraintHides", fn := fun _ => fun
  | [d1, d2] => { results := [.lit (.bool false)], args := [d1, d2] }
  | _ => none }
def LensConstraintHidesWrongFalsely : Prop := lensConstraintHidesRow.holds Tryz.pinned (OpenSpec.ofChange lensConstraintHidesWrong)

/-- 'stemkeep2.EvolutionRenameBack': WHATEVER THE INPUT: true; the input reads as it did. -/
def evolutionRenameBackSpec : ChangeSpec := { name := "evolutionRenameBack", fn := fun _ => fun
  | [d1, d2] => { results := [.lit (.bool true)], args := [d1, d2] }
  | _ => none }
def evolutionRenameBackRow : OpenClaim := { program := "ytdnapljegcihiaagreatdoor", sum := "5f39dac00e97147a9197146fc0383fe2d5b4a7ab3ef6c9b1a612c9a69e7554c7", func := "stemma/stemkeep2.EvolutionRenameBack", spec := "evolutionRenameBack", inPlace := ["internal/bytealg.abigen_runtime_cmpstring", "slices.overlaps[stemma/api.Value]", "internal/bytealg.IndexByteString", "internal/bytealg.IndexString", "slices.overlaps[stemma/api.Row]", "internal/abi.NoEscape"], unfollowed := true, recurses := true, named := ["internal/strconv.uint64pow10", "math/bits.deBruijn32tab", "math/bits.deBruijn64tab", "strconv.ErrSyntax", "strconv.ErrRange", "internal/bytealg.MaxLen"], apart := false, laid := [("math/bits.deBruijn32tab", laid_math_bits_deBruijn32tab), ("math/bits.deBruijn64tab", laid_math_bits_deBruijn64tab), ("internal/strconv.uint64pow10", laid_internal_strconv_uint64pow10), ("strconv.ErrRange", laid_strconv_ErrRange), ("strconv.ErrSyntax", laid_strconv_ErrSyntax)] }
def EvolutionRenameBackSaid : Prop := evolutionRenameBackRow.holds Tryz.pinned (OpenSpec.ofChange evolutionRenameBackSpec)

/-- ITS FALSE NEIGHBOUR: 'it returns false'. Refute it at one input. -/
def evolutionRenameBackWrong : ChangeSpec := { name := "evolutionRenameBack", fn := fun _ => fun
  | [d1, d2] => { results := [.lit (.bool false)], args := [d1, d2] }
  | _ => none }
def EvolutionRenameBackWrongFalsely : Prop := evolutionRenameBackRow.holds Tryz.pinned (OpenSpec.ofChange evolutionRenameBackWrong)

/-- 'stemkeep2.EvolutionUndo': WHATEVER THE INPUT: true; the input reads as it did. -/
def evolutionUndoSpec : ChangeSpec := { name := "evolutionUndo", fn := fun _ => fun
  | [d1, d2] => { results := [.lit (.bool true)], args := [d1, d2] }
  | _ => none }
def evolutionUndoRow : OpenClaim := { program := "ytdnapljegcihiaagreatdoor", sum := "5f39dac00e97147a9197146fc0383fe2d5b4a7ab3ef6c9b1a612c9a69e7554c7", func := "stemma/stemkeep2.EvolutionUndo", spec := "evolutionUndo", inPlace := ["internal/bytealg.abigen_runtime_cmpstring", "slices.overlaps[stemma/api.Value]", "internal/bytealg.IndexByteString", "internal/bytealg.IndexString", "slices.overlaps[stemma/api.Row]", "internal/abi.NoEscape"], unfollowed := true, recurses := true, named := ["internal/strconv.uint64pow10", "math/bits.deBruijn32tab", "math/bits.deBruijn64tab", "strconv.ErrSyntax", "strconv.ErrRange", "internal/bytealg.MaxLen"], apart := false, laid := [("math/bits.deBruijn32tab", laid_math_bits_deBruijn32tab), ("math/bits.deBruijn64tab", laid_math_bits_deBruijn64tab), ("internal/strconv.uint64pow10", laid_internal_strconv_uint64pow10), ("strconv.ErrRange", laid_strconv_ErrRange), ("strconv.ErrSyntax", laid_strconv_ErrSyntax)] }
def EvolutionUndoSaid : Prop := evolutionUndoRow.holds Tryz.pinned (OpenSpec.ofChange evolutionUndoSpec)

/-- ITS FALSE NEIGHBOUR: 'it returns false'. Refute it at one input. -/
def evolutionUndoWrong : ChangeSpec := { name := "evolutionUndo", fn := fun _ => fun
  | [d1, d2] => { results := [.lit (.bool false)], args := [d1, d2] }
  | _ => none }
def EvolutionUndoWrongFalsely : Prop := evolutionUndoRow.holds Tryz.pinned (OpenSpec.ofChange evolutionUndoWrong)

/-- 'stemkeep2.LensEmptyConsistent': WHATEVER THE INPUT: true; the input reads as it did. -/
def lensEmptyConsistentSpec : ChangeSpec := { name := "lensEmptyConsistent", fn := fun _ => fun
  | [d1, d2] => { results := [.lit (.bool true)], args := [d1, d2] }
  | _ => none }
def lensEmptyConsistentRow : OpenClaim := { program := "ytdnapljegcihiaagreatdoor", sum := "5f39dac00e97147a9197146fc0383fe2d5b4a7ab3ef6c9b1a612c9a69e7554c7", func := "stemma/stemkeep2.LensEmptyConsistent", spec := "lensEmptyConsistent", inPlace := ["internal/bytealg.abigen_runtime_cmpstring", "slices.overlaps[stemma/api.Value]", "internal/bytealg.IndexByteString", "internal/bytealg.IndexString", "slices.overlaps[stemma/api.Row]", "internal/abi.NoEscape"], unfollowed := true, recurses := true, named := ["internal/strconv.uint64pow10", "math/bits.deBruijn32tab", "math/bits.deBruijn64tab", "strconv.ErrSyntax", "strconv.ErrRange", "internal/bytealg.MaxLen"], apart := false, laid := [("math/bits.deBruijn32tab", laid_math_bits_deBruijn32tab), ("math/bits.deBruijn64tab", laid_math_bits_deBruijn64tab), ("internal/strconv.uint64pow10", laid_internal_strconv_uint64pow10), ("strconv.ErrRange", laid_strconv_ErrRange), ("strconv.ErrSyntax", laid_strconv_ErrSyntax)] }
def LensEmptyConsistentSaid : Prop := lensEmptyConsistentRow.holds Tryz.pinned (OpenSpec.ofChange lensEmptyConsistentSpec)

/-- ITS FALSE NEIGHBOUR: 'it returns false'. Refute it at one input. -/
def lensEmptyConsistentWrong : ChangeSpec := { name := "lensEmptyConsistent", fn := fun _ => fun
  | [d1, d2] => { results := [.lit (.bool false)], args := [d1, d2] }
  | _ => none }
def LensEmptyConsistentWrongFalsely : Prop := lensEmptyConsistentRow.holds Tryz.pinned (OpenSpec.ofChange lensEmptyConsistentWrong)

/-- 'stemkeep2.ScriptConcatenation': WHATEVER THE INPUT: true; the input reads as it did. -/
def scriptConcatenationSpec : ChangeSpec := { name := "scriptConcatenation", fn := fun _ => fun
  | [d1, d2, d3] => { results := [.lit (.bool true)], args := [d1, d2, d3] }
  | _ => none }
def scriptConcatenationRow : OpenClaim := { program := "ytdnapljegcihiaagreatdoor", sum := "5f39dac00e97147a9197146fc0383fe2d5b4a7ab3ef6c9b1a612c9a69e7554c7", func := "stemma/stemkeep2.ScriptConcatenation", spec := "scriptConcatenation", inPlace := ["internal/bytealg.abigen_runtime_cmpstring", "slices.overlaps[stemma/api.Value]", "internal/bytealg.IndexByteString", "internal/bytealg.IndexString", "slices.overlaps[stemma/api.Row]", "internal/abi.NoEscape"], unfollowed := true, recurses := true, named := ["internal/strconv.uint64pow10", "math/bits.deBruijn32tab", "math/bits.deBruijn64tab", "strconv.ErrSyntax", "strconv.ErrRange", "internal/bytealg.MaxLen"], apart := false, laid := [("math/bits.deBruijn32tab", laid_math_bits_deBruijn32tab), ("math/bits.deBruijn64tab", laid_math_bits_deBruijn64tab), ("internal/strconv.uint64pow10", laid_internal_strconv_uint64pow10), ("strconv.ErrRange", laid_strconv_ErrRange), ("strconv.ErrSyntax", laid_strconv_ErrSyntax)] }
def ScriptConcatenationSaid : Prop := scriptConcatenationRow.holds Tryz.pinned (OpenSpec.ofChange scriptConcatenationSpec)

/-- ITS FALSE NEIGHBOUR: 'it returns false'. Refute it at one input. -/
def scriptConcatenationWrong : ChangeSpec := { name := "scriptConcatenation", fn := fun _ => fun
  | [d1, d2, d3] => { results := [.lit (.bool false)], args := [d1, d2, d3] }
  | _ => none }
def ScriptConcatenationWrongFalsely : Prop := scriptConcatenationRow.holds Tryz.pinned (OpenSpec.ofChange scriptConcatenationWrong)

/- THE SECOND FORM. 'bulk': how many values and letters a reading holds, each counted each time it is reached (what is shared counts as often as it is met; a slice's spare places count too). A statement '..UptoSaid' is the law's where the arguments, and the package variables that the reading takes, are together of bulk at most 1048576: NARROWER than '..Said'. Prove '..Said' where nothing that the law and all that it calls make is longer than what came in: it says more and counts as full. Else prove '..UptoSaid'. A law counts once. -/
mutual
def uptoBulk {H : Type} : DataW H → Nat
  | .lit (.string bytes) => bytes.length + 1
  | .lit _ => 1
  | .nil => 1
  | .ptr d => uptoBulk d + 1
  | .slice elems spare => uptoBulkAll elems + uptoBulkAll spare + 1
  | .agg parts => uptoBulkAll parts + 1
  | .iface _ d => uptoBulk d + 1
  | .map entries => uptoBulkEntries entries + 1
  | .held _ => 1
def uptoBulkAll {H : Type} : List (DataW H) → Nat
  | [] => 0
  | d :: r => uptoBulk d + uptoBulkAll r
def uptoBulkEntries {H : Type} : List (Lit × DataW H) → Nat
  | [] => 0
  | x :: r => uptoBulkEntry x + uptoBulkEntries r
def uptoBulkEntry {H : Type} : Lit × DataW H → Nat
  | (.string bytes, d) => bytes.length + uptoBulk d + 1
  | (_, d) => uptoBulk d + 1
 end
def uptoSmall : (H : Type) → List (DataW H) → Bool := fun _ ds => decide (uptoBulkAll ds ≤ 1048576)
def OpenSpec.upto (s : _root_.Go.ChangeSpec) : _root_.Go.OpenSpec := { _root_.Go.OpenSpec.ofChange s with cond := some uptoSmall }

/-- 'stemkeep2.EvolutionValid', WHERE WHAT IT READS IS OF BULK AT MOST 1048576: true; the input reads as it did. -/
def evolutionValidUptoRow : OpenClaim := { program := "ytdnapljegcihiaagreatdoor", sum := "5f39dac00e97147a9197146fc0383fe2d5b4a7ab3ef6c9b1a612c9a69e7554c7", func := "stemma/stemkeep2.EvolutionValid", spec := "evolutionValid", inPlace := ["internal/bytealg.abigen_runtime_cmpstring", "slices.overlaps[stemma/api.Value]", "internal/bytealg.IndexByteString", "internal/bytealg.IndexString", "slices.overlaps[stemma/api.Row]", "internal/abi.NoEscape"], unfollowed := true, recurses := true, named := ["internal/strconv.uint64pow10", "math/bits.deBruijn32tab", "math/bits.deBruijn64tab", "strconv.ErrSyntax", "strconv.ErrRange", "internal/bytealg.MaxLen"], apart := false, laid := [("math/bits.deBruijn32tab", laid_math_bits_deBruijn32tab), ("math/bits.deBruijn64tab", laid_math_bits_deBruijn64tab), ("internal/strconv.uint64pow10", laid_internal_strconv_uint64pow10), ("strconv.ErrRange", laid_strconv_ErrRange), ("strconv.ErrSyntax", laid_strconv_ErrSyntax)], narrowed := true }
def EvolutionValidUptoSaid : Prop := evolutionValidUptoRow.holds Tryz.pinned (OpenSpec.upto evolutionValidSpec)

/-- 'stemkeep2.EvolutionSplitJoin', WHERE WHAT IT READS IS OF BULK AT MOST 1048576: true; the input reads as it did. -/
def evolutionSplitJoinUptoRow : OpenClaim := { program := "ytdnapljegcihiaagreatdoor", sum := "5f39dac00e97147a9197146fc0383fe2d5b4a7ab3ef6c9b1a612c9a69e7554c7", func := "stemma/stemkeep2.EvolutionSplitJoin", spec := "evolutionSplitJoin", inPlace := ["internal/bytealg.abigen_runtime_cmpstring", "slices.overlaps[stemma/api.Value]", "internal/bytealg.IndexByteString", "internal/bytealg.IndexString", "slices.overlaps[stemma/api.Row]", "internal/abi.NoEscape"], unfollowed := true, recurses := true, named := ["internal/strconv.uint64pow10", "math/bits.deBruijn32tab", "math/bits.deBruijn64tab", "strconv.ErrSyntax", "strconv.ErrRange", "internal/bytealg.MaxLen"], apart := false, laid := [("math/bits.deBruijn32tab", laid_math_bits_deBruijn32tab), ("math/bits.deBruijn64tab", laid_math_bits_deBruijn64tab), ("internal/strconv.uint64pow10", laid_internal_strconv_uint64pow10), ("strconv.ErrRange", laid_strconv_ErrRange), ("strconv.ErrSyntax", laid_strconv_ErrSyntax)], narrowed := true }
def EvolutionSplitJoinUptoSaid : Prop := evolutionSplitJoinUptoRow.holds Tryz.pinned (OpenSpec.upto evolutionSplitJoinSpec)

/-- 'stemkeep2.ComplementConforms', WHERE WHAT IT READS IS OF BULK AT MOST 1048576: true; the input reads as it did. -/
def complementConformsUptoRow : OpenClaim := { program := "ytdnapljegcihiaagreatdoor", sum := "5f39dac00e97147a9197146fc0383fe2d5b4a7ab3ef6c9b1a612c9a69e7554c7", func := "stemma/stemkeep2.ComplementConforms", spec := "complementConforms", inPlace := ["internal/bytealg.abigen_runtime_cmpstring", "slices.overlaps[stemma/api.Value]", "internal/bytealg.IndexByteString", "internal/bytealg.IndexString", "slices.overlaps[stemma/api.Row]", "internal/abi.NoEscape"], unfollowed := true, recurses := true, named := ["internal/strconv.uint64pow10", "math/bits.deBruijn32tab", "math/bits.deBruijn64tab", "strconv.ErrSyntax", "strconv.ErrRange", "internal/bytealg.MaxLen"], apart := false, laid := [("math/bits.deBruijn32tab", laid_math_bits_deBruijn32tab), ("math/bits.deBruijn64tab", laid_math_bits_deBruijn64tab), ("internal/strconv.uint64pow10", laid_internal_strconv_uint64pow10), ("strconv.ErrRange", laid_strconv_ErrRange), ("strconv.ErrSyntax", laid_strconv_ErrSyntax)], narrowed := true }
def ComplementConformsUptoSaid : Prop := complementConformsUptoRow.holds Tryz.pinned (OpenSpec.upto complementConformsSpec)

/-- 'stemkeep2.LensHiddenSurvives', WHERE WHAT IT READS IS OF BULK AT MOST 1048576: true; the input reads as it did. -/
def lensHiddenSurvivesUptoRow : OpenClaim := { program := "ytdnapljegcihiaagreatdoor", sum := "5f39dac00e97147a9197146fc0383fe2d5b4a7ab3ef6c9b1a612c9a69e7554c7", func := "stemma/stemkeep2.LensHiddenSurvives", spec := "lensHiddenSurvives", inPlace := ["internal/bytealg.abigen_runtime_cmpstring", "slices.overlaps[stemma/api.Value]", "internal/bytealg.IndexByteString", "internal/bytealg.IndexString", "slices.overlaps[stemma/api.Row]", "internal/abi.NoEscape"], unfollowed := true, recurses := true, named := ["internal/strconv.uint64pow10", "math/bits.deBruijn32tab", "math/bits.deBruijn64tab", "strconv.ErrSyntax", "strconv.ErrRange", "internal/bytealg.MaxLen"], apart := false, laid := [("math/bits.deBruijn32tab", laid_math_bits_deBruijn32tab), ("math/bits.deBruijn64tab", laid_math_bits_deBruijn64tab), ("internal/strconv.uint64pow10", laid_internal_strconv_uint64pow10), ("strconv.ErrRange", laid_strconv_ErrRange), ("strconv.ErrSyntax", laid_strconv_ErrSyntax)], narrowed := true }
def LensHiddenSurvivesUptoSaid : Prop := lensHiddenSurvivesUptoRow.holds Tryz.pinned (OpenSpec.upto lensHiddenSurvivesSpec)

/-- 'stemkeep2.LensConstraintHides', WHERE WHAT IT READS IS OF BULK AT MOST 1048576: true; the input reads as it did. -/
def lensConstraintHidesUptoRow : OpenClaim := { program := "ytdnapljegcihiaagreatdoor", sum := "5f39dac00e97147a9197146fc0383fe2d5b4a7ab3ef6c9b1a612c9a69e7554c7", func := "stemma/stemkeep2.LensConstraintHides", spec := "lensConstraintHides", inPlace := ["internal/bytealg.abigen_runtime_cmpstring", "slices.overlaps[stemma/api.Value]", "internal/bytealg.IndexByteString", "internal/bytealg.IndexString", "slices.overlaps[stemma/api.Row]", "internal/abi.NoEscape"], unfollowed := true, recurses := true, named := ["internal/strconv.uint64pow10", "math/bits.deBruijn32tab", "math/bits.deBruijn64tab", "strconv.ErrSyntax", "strconv.ErrRange", "internal/bytealg.MaxLen"], apart := false, laid := [("math/bits.deBruijn32tab", laid_math_bits_deBruijn32tab), ("math/bits.deBruijn64tab", laid_math_bits_deBruijn64tab), ("internal/strconv.uint64pow10", laid_internal_strconv_uint64pow10), ("strconv.ErrRange", laid_strconv_ErrRange), ("strconv.ErrSyntax", laid_strconv_ErrSyntax)], narrowed := true }
def LensConstraintHidesUptoSaid : Prop := lensConstraintHidesUptoRow.holds Tryz.pinned (OpenSpec.upto lensConstraintHidesSpec)

/-- 'stemkeep2.EvolutionRenameBack', WHERE WHAT IT READS IS OF BULK AT MOST 1048576: true; the input reads as it did. -/
def evolutionRenameBackUptoRow : OpenClaim := { program := "ytdnapljegcihiaagreatdoor", sum := "5f39dac00e97147a9197146fc0383fe2d5b4a7ab3ef6c9b1a612c9a69e7554c7", func := "stemma/stemkeep2.EvolutionRenameBack", spec := "evolutionRenameBack", inPlace := ["internal/bytealg.abigen_runtime_cmpstring", "slices.overlaps[stemma/api.Value]", "internal/bytealg.IndexByteString", "internal/bytealg.IndexString", "slices.overlaps[stemma/api.Row]", "internal/abi.NoEscape"], unfollowed := true, recurses := true, named := ["internal/strconv.uint64pow10", "math/bits.deBruijn32tab", "math/bits.deBruijn64tab", "strconv.ErrSyntax", "strconv.ErrRange", "internal/bytealg.MaxLen"], apart := false, laid := [("math/bits.deBruijn32tab", laid_math_bits_deBruijn32tab), ("math/bits.deBruijn64tab", laid_math_bits_deBruijn64tab), ("internal/strconv.uint64pow10", laid_internal_strconv_uint64pow10), ("strconv.ErrRange", laid_strconv_ErrRange), ("strconv.ErrSyntax", laid_strconv_ErrSyntax)], narrowed := true }
def EvolutionRenameBackUptoSaid : Prop := evolutionRenameBackUptoRow.holds Tryz.pinned (OpenSpec.upto evolutionRenameBackSpec)

/-- 'stemkeep2.EvolutionUndo', WHERE WHAT IT READS IS OF BULK AT MOST 1048576: true; the input reads as it did. -/
def evolutionUndoUptoRow : OpenClaim := { program := "ytdnapljegcihiaagreatdoor", sum := "5f39dac00e97147a9197146fc0383fe2d5b4a7ab3ef6c9b1a612c9a69e7554c7", func := "stemma/stemkeep2.EvolutionUndo", spec := "evolutionUndo", inPlace := ["internal/bytealg.abigen_runtime_cmpstring", "slices.overlaps[stemma/api.Value]", "internal/bytealg.IndexByteString", "internal/bytealg.IndexString", "slices.overlaps[stemma/api.Row]", "internal/abi.NoEscape"], unfollowed := true, recurses := true, named := ["internal/strconv.uint64pow10", "math/bits.deBruijn32tab", "math/bits.deBruijn64tab", "strconv.ErrSyntax", "strconv.ErrRange", "internal/bytealg.MaxLen"], apart := false, laid := [("math/bits.deBruijn32tab", laid_math_bits_deBruijn32tab), ("math/bits.deBruijn64tab", laid_math_bits_deBruijn64tab), ("internal/strconv.uint64pow10", laid_internal_strconv_uint64pow10), ("strconv.ErrRange", laid_strconv_ErrRange), ("strconv.ErrSyntax", laid_strconv_ErrSyntax)], narrowed := true }
def EvolutionUndoUptoSaid : Prop := evolutionUndoUptoRow.holds Tryz.pinned (OpenSpec.upto evolutionUndoSpec)

/-- 'stemkeep2.LensEmptyConsistent', WHERE WHAT IT READS IS OF BULK AT MOST 1048576: true; the input reads as it did. -/
def lensEmptyConsistentUptoRow : OpenClaim := { program := "ytdnapljegcihiaagreatdoor", sum := "5f39dac00e97147a9197146fc0383fe2d5b4a7ab3ef6c9b1a612c9a69e7554c7", func := "stemma/stemkeep2.LensEmptyConsistent", spec := "lensEmptyConsistent", inPlace := ["internal/bytealg.abigen_runtime_cmpstring", "slices.overlaps[stemma/api.Value]", "internal/bytealg.IndexByteString", "internal/bytealg.IndexString", "slices.overlaps[stemma/api.Row]", "internal/abi.NoEscape"], unfollowed := true, recurses := true, named := ["internal/strconv.uint64pow10", "math/bits.deBruijn32tab", "math/bits.deBruijn64tab", "strconv.ErrSyntax", "strconv.ErrRange", "internal/bytealg.MaxLen"], apart := false, laid := [("math/bits.deBruijn32tab", laid_math_bits_deBruijn32tab), ("math/bits.deBruijn64tab", laid_math_bits_deBruijn64tab), ("internal/strconv.uint64pow10", laid_internal_strconv_uint64pow10), ("strconv.ErrRange", laid_strconv_ErrRange), ("strconv.ErrSyntax", laid_strconv_ErrSyntax)], narrowed := true }
def LensEmptyConsistentUptoSaid : Prop := lensEmptyConsistentUptoRow.holds Tryz.pinned (OpenSpec.upto lensEmptyConsistentSpec)

/-- 'stemkeep2.ScriptConcatenation', WHERE WHAT IT READS IS OF BULK AT MOST 1048576: true; the input reads as it did. -/
def scriptConcatenationUptoRow : OpenClaim := { program := "ytdnapljegcihiaagreatdoor", sum := "5f39dac00e97147a9197146fc0383fe2d5b4a7ab3ef6c9b1a612c9a69e7554c7", func := "stemma/stemkeep2.ScriptConcatenation", spec := "scriptConcatenation", inPlace := ["internal/bytealg.abigen_runtime_cmpstring", "slices.overlaps[stemma/api.Value]", "internal/bytealg.IndexByteString", "internal/bytealg.IndexString", "slices.overlaps[stemma/api.Row]", "internal/abi.NoEscape"], unfollowed := true, recurses := true, named := ["internal/strconv.uint64pow10", "math/bits.deBruijn32tab", "math/bits.deBruijn64tab", "strconv.ErrSyntax", "strconv.ErrRange", "internal/bytealg.MaxLen"], apart := false, laid := [("math/bits.deBruijn32tab", laid_math_bits_deBruijn32tab), ("math/bits.deBruijn64tab", laid_math_bits_deBruijn64tab), ("internal/strconv.uint64pow10", laid_internal_strconv_uint64pow10), ("strconv.ErrRange", laid_strconv_ErrRange), ("strconv.ErrSyntax", laid_strconv_ErrSyntax)], narrowed := true }
def ScriptConcatenationUptoSaid : Prop := scriptConcatenationUptoRow.holds Tryz.pinned (OpenSpec.upto scriptConcatenationSpec)

end Rows
end Go.Proofs.YtdnapljegcihiaaGreatDoor
