/-
  WHAT IS PROVED HERE, of this translation: look_mem, tyAll, tyOk, TT_2, TT_3, TT_4, TT_5, TT_9, TT_12, TT_13, TT_21, TT_22, TT_23, TT_24, TT_25, TT_26, TT_27, TT_28, TT_38, TT_39, TT_40, TT_41, TT_42, TT_45, TT_46, TT_47, TT_48, TT_49, TT_50, TT_51, .., rd_struct3, vrep_agg, var_kept, goodC_none, calls_of_sat, argsRep_nil, argsRep_cons, trodAll_carry, trodAll_below, post_of_below, rd_I, rd_S, cells_int, cells_string, cells_Value, rd_val, laid, ownK, gPow, gSyn, gRng, tPow, tSyn, tRng, errStar, errRow, errCells, strCells, laidW_vals.
  A theorem that ends in sat says what the function it names returns, whatever the state it is called in; the bounds on its arguments stand ahead of it.
-/
import Derived.Test.YtinlgpgdinnefaaDoorProg
import Derived.KernelRfl
import Derived.Lib.Bytealg
import Derived.Laws.Externs
import Derived.Lib.AppendIntMem
import Derived.Laws.Strings
import Derived.ChangeArms
import Derived.SizedLaws
import Derived.JoinedOf
import Derived.ChangeSame
import Derived.RowKit
import Derived.Carry
import Derived.Test.YtinlgpgdinnefaaDoorRows
import Derived.Test.YtinlgpgdinnefaaDoorTie
import Derived.Test.YtinlgpgdinnefaaDoorCards
import Derived.Lib.LaidTab
import Derived.Stop.LaidErr
import Derived.Stop.Joined
import Derived.OpenShut
import Derived.LaidMore
import Derived.SevenTiedAt
import Derived.Lay
import Derived.WalkKit
import Derived.ProofKit
import Derived.Test.YtinlgpgdinnefaaDoorKA
import Derived.Test.YtinlgpgdinnefaaDoorKB
import Derived.Test.YtinlgpgdinnefaaDoorKC
import Derived.Test.YtinlgpgdinnefaaDoorKD
import Derived.Test.YtinlgpgdinnefaaDoorKZ
import Derived.Test.YtinlgpgdinnefaaDoorKV
set_option linter.unusedSimpArgs false
set_option linter.unusedVariables false

namespace Go.Bw
open Go.Proofs
def tyTab : List (Nat × TI) := [
  (2, { size := 1, bytes := 8, agg := false, elem := none, fields := none, isStr := false, zero := some [.int .i64 0] }),
  (3, { size := 1, bytes := 8, agg := false, elem := none, fields := none, isStr := false, zero := some [.int .i64 0] }),
  (4, { size := 1, bytes := 1, agg := false, elem := none, fields := none, isStr := false, zero := some [.bool false] }),
  (5, { size := 1, bytes := 1, agg := false, elem := none, fields := none, isStr := false, zero := some [.int .u8 0] }),
  (9, { size := 1, bytes := 16, agg := false, elem := none, fields := none, isStr := true, zero := some [.str ByteArray.empty] }),
  (12, { size := 1, bytes := 8, agg := false, elem := none, fields := none, isStr := false, zero := some [.int .u64 0] }),
  (13, { size := 2, bytes := 24, agg := true, elem := none, fields := some [(0, 9), (1, 12)], isStr := false, zero := some [.str ByteArray.empty, .int .u64 0] }),
  (21, { size := 1, bytes := 4, agg := false, elem := none, fields := none, isStr := false, zero := some [.int .i32 0] }),
  (22, { size := 1, bytes := 24, agg := false, elem := some 46, fields := none, isStr := false, zero := some [.nil 3] }),
  (23, { size := 1, bytes := 24, agg := false, elem := some 3, fields := none, isStr := false, zero := some [.nil 1] }),
  (24, { size := 3, bytes := 64, agg := true, elem := none, fields := some [(0, 9), (1, 22), (2, 23)], isStr := false, zero := some [.str ByteArray.empty, .nil 3, .nil 1] }),
  (25, { size := 3, bytes := 64, agg := true, elem := none, fields := some [(0, 9), (1, 22), (2, 23)], isStr := false, zero := some [.str ByteArray.empty, .nil 3, .nil 1] }),
  (26, { size := 1, bytes := 24, agg := false, elem := some 28, fields := none, isStr := false, zero := some [.nil 1] }),
  (27, { size := 1, bytes := 24, agg := false, elem := some 50, fields := none, isStr := false, zero := some [.nil 3] }),
  (28, { size := 1, bytes := 24, agg := false, elem := some 50, fields := none, isStr := false, zero := some [.nil 3] }),
  (38, { size := 1, bytes := 24, agg := false, elem := some 25, fields := none, isStr := false, zero := some [.nil 3] }),
  (39, { size := 1, bytes := 24, agg := false, elem := some 48, fields := none, isStr := false, zero := some [.nil 3] }),
  (40, { size := 1, bytes := 24, agg := false, elem := some 52, fields := none, isStr := false, zero := some [.nil 7] }),
  (41, { size := 3, bytes := 72, agg := true, elem := none, fields := some [(0, 38), (1, 39), (2, 40)], isStr := false, zero := some [.nil 3, .nil 3, .nil 7] }),
  (42, { size := 3, bytes := 72, agg := true, elem := none, fields := some [(0, 38), (1, 39), (2, 40)], isStr := false, zero := some [.nil 3, .nil 3, .nil 7] }),
  (45, { size := 3, bytes := 32, agg := true, elem := none, fields := some [(0, 9), (1, 3), (2, 4)], isStr := false, zero := some [.str ByteArray.empty, .int .i64 0, .bool false] }),
  (46, { size := 3, bytes := 32, agg := true, elem := none, fields := some [(0, 9), (1, 3), (2, 4)], isStr := false, zero := some [.str ByteArray.empty, .int .i64 0, .bool false] }),
  (47, { size := 3, bytes := 56, agg := true, elem := none, fields := some [(0, 9), (1, 23), (2, 9)], isStr := false, zero := some [.str ByteArray.empty, .nil 1, .str ByteArray.empty] }),
  (48, { size := 3, bytes := 56, agg := true, elem := none, fields := some [(0, 9), (1, 23), (2, 9)], isStr := false, zero := some [.str ByteArray.empty, .nil 1, .str ByteArray.empty] }),
  (49, { size := 3, bytes := 32, agg := true, elem := none, fields := some [(0, 3), (1, 3), (2, 9)], isStr := false, zero := some [.int .i64 0, .int .i64 0, .str ByteArray.empty] }),
  (50, { size := 3, bytes := 32, agg := true, elem := none, fields := some [(0, 3), (1, 3), (2, 9)], isStr := false, zero := some [.int .i64 0, .int .i64 0, .str ByteArray.empty] }),
  (51, { size := 7, bytes := 80, agg := true, elem := none, fields := some [(0, 9), (1, 3), (2, 9), (3, 3), (4, 50)], isStr := false, zero := some [.str ByteArray.empty, .int .i64 0, .str ByteArray.empty, .int .i64 0, .int .i64 0, .int .i64 0, .str ByteArray.empty] }),
  (52, { size := 7, bytes := 80, agg := true, elem := none, fields := some [(0, 9), (1, 3), (2, 9), (3, 3), (4, 50)], isStr := false, zero := some [.str ByteArray.empty, .int .i64 0, .str ByteArray.empty, .int .i64 0, .int .i64 0, .int .i64 0, .str ByteArray.empty] }),
  (59, { size := 1, bytes := 8, agg := false, elem := none, fields := none, isStr := false, zero := some [.int .i64 0] }),
  (65, { size := 1, bytes := 24, agg := false, elem := some 4, fields := none, isStr := false, zero := some [.nil 1] }),
  (66, { size := 1, bytes := 24, agg := false, elem := some 115, fields := none, isStr := false, zero := some [.nil 2] }),
  (67, { size := 1, bytes := 24, agg := false, elem := some 115, fields := none, isStr := false, zero := some [.nil 2] }),
  (68, { size := 1, bytes := 24, agg := false, elem := some 77, fields := none, isStr := false, zero := some [.nil 4] }),
  (76, { size := 4, bytes := 72, agg := true, elem := none, fields := some [(0, 3), (1, 9), (2, 28), (3, 28)], isStr := false, zero := some [.int .i64 0, .str ByteArray.empty, .nil 3, .nil 3] }),
  (77, { size := 4, bytes := 72, agg := true, elem := none, fields := some [(0, 3), (1, 9), (2, 28), (3, 28)], isStr := false, zero := some [.int .i64 0, .str ByteArray.empty, .nil 3, .nil 3] }),
  (92, { size := 1, bytes := 24, agg := false, elem := some 5, fields := none, isStr := false, zero := some [.nil 1] }),
  (93, { size := 2, bytes := 32, agg := true, elem := none, fields := some [(0, 91), (1, 92)], isStr := false, zero := none }),
  (94, { size := 2, bytes := 32, agg := true, elem := none, fields := some [(0, 91), (1, 92)], isStr := false, zero := none }),
  (114, { size := 2, bytes := 40, agg := true, elem := none, fields := some [(0, 9), (1, 26)], isStr := false, zero := some [.str ByteArray.empty, .nil 1] }),
  (115, { size := 2, bytes := 40, agg := true, elem := none, fields := some [(0, 9), (1, 26)], isStr := false, zero := some [.str ByteArray.empty, .nil 1] }),
  (132, { size := 1, bytes := 24, agg := false, elem := some 67, fields := none, isStr := false, zero := some [.nil 1] }),
  (163, { size := 1, bytes := 8, agg := false, elem := none, fields := none, isStr := false, zero := some [.int .u64 0] }),
  (170, { size := 1, bytes := 8, agg := false, elem := none, fields := none, isStr := false, zero := some [.int .i64 0] }),
  (176, { size := 1, bytes := 8, agg := false, elem := none, fields := none, isStr := false, zero := some [.int .u64 0] }),
  (180, { size := 1, bytes := 4, agg := false, elem := none, fields := none, isStr := false, zero := some [.int .u32 0] }),
  (186, { size := 3, bytes := 48, agg := true, elem := none, fields := some [(0, 9), (1, 9), (2, 96)], isStr := false, zero := none }),
  (187, { size := 3, bytes := 48, agg := true, elem := none, fields := some [(0, 9), (1, 9), (2, 96)], isStr := false, zero := none }),
  (192, { size := 1, bytes := 16, agg := true, elem := none, fields := some [(0, 9)], isStr := false, zero := some [.str ByteArray.empty] }),
  (193, { size := 1, bytes := 16, agg := true, elem := none, fields := some [(0, 9)], isStr := false, zero := some [.str ByteArray.empty] })]
def TT (t : TypeId) : Option TI := look tyTab t
theorem look_mem {α : Type} {x : α} : ∀ (e : List (Nat × α)) (i : Nat), look e i = some x → (i, x) ∈ e
  | [], _, h => by cases h
  | (t, y) :: e, i, h => by
    simp only [look] at h
    split at h
    · injection h with h; subst h; subst t; simp
    · exact List.mem_cons_of_mem _ (look_mem e i h)
theorem tyAll : (tyTab.all fun p => tiOk Tryd.prog p.1 p.2) = true := by kernel_rfl
theorem tyOk : TabOk Tryd.prog TT := fun t i h => List.all_eq_true.1 tyAll (t, i) (look_mem tyTab t h)
theorem TT_2 : TT 2 = some { size := 1, bytes := 8, agg := false, elem := none, fields := none, isStr := false, zero := some [.int .i64 0] } := rfl
theorem TT_3 : TT 3 = some { size := 1, bytes := 8, agg := false, elem := none, fields := none, isStr := false, zero := some [.int .i64 0] } := rfl
theorem TT_4 : TT 4 = some { size := 1, bytes := 1, agg := false, elem := none, fields := none, isStr := false, zero := some [.bool false] } := rfl
theorem TT_5 : TT 5 = some { size := 1, bytes := 1, agg := false, elem := none, fields := none, isStr := false, zero := some [.int .u8 0] } := rfl
theorem TT_9 : TT 9 = some { size := 1, bytes := 16, agg := false, elem := none, fields := none, isStr := true, zero := some [.str ByteArray.empty] } := rfl
theorem TT_12 : TT 12 = some { size := 1, bytes := 8, agg := false, elem := none, fields := none, isStr := false, zero := some [.int .u64 0] } := rfl
theorem TT_13 : TT 13 = some { size := 2, bytes := 24, agg := true, elem := none, fields := some [(0, 9), (1, 12)], isStr := false, zero := some [.str ByteArray.empty, .int .u64 0] } := rfl
theorem TT_21 : TT 21 = some { size := 1, bytes := 4, agg := false, elem := none, fields := none, isStr := false, zero := some [.int .i32 0] } := rfl
theorem TT_22 : TT 22 = some { size := 1, bytes := 24, agg := false, elem := some 46, fields := none, isStr := false, zero := some [.nil 3] } := rfl
theorem TT_23 : TT 23 = some { size := 1, bytes := 24, agg := false, elem := some 3, fields := none, isStr := false, zero := some [.nil 1] } := rfl
theorem TT_24 : TT 24 = some { size := 3, bytes := 64, agg := true, elem := none, fields := some [(0, 9), (1, 22), (2, 23)], isStr := false, zero := some [.str ByteArray.empty, .nil 3, .nil 1] } := rfl
theorem TT_25 : TT 25 = some { size := 3, bytes := 64, agg := true, elem := none, fields := some [(0, 9), (1, 22), (2, 23)], isStr := false, zero := some [.str ByteArray.empty, .nil 3, .nil 1] } := rfl
theorem TT_26 : TT 26 = some { size := 1, bytes := 24, agg := false, elem := some 28, fields := none, isStr := false, zero := some [.nil 1] } := rfl
theorem TT_27 : TT 27 = some { size := 1, bytes := 24, agg := false, elem := some 50, fields := none, isStr := false, zero := some [.nil 3] } := rfl
theorem TT_28 : TT 28 = some { size := 1, bytes := 24, agg := false, elem := some 50, fields := none, isStr := false, zero := some [.nil 3] } := rfl
theorem TT_38 : TT 38 = some { size := 1, bytes := 24, agg := false, elem := some 25, fields := none, isStr := false, zero := some [.nil 3] } := rfl
theorem TT_39 : TT 39 = some { size := 1, bytes := 24, agg := false, elem := some 48, fields := none, isStr := false, zero := some [.nil 3] } := rfl
theorem TT_40 : TT 40 = some { size := 1, bytes := 24, agg := false, elem := some 52, fields := none, isStr := false, zero := some [.nil 7] } := rfl
theorem TT_41 : TT 41 = some { size := 3, bytes := 72, agg := true, elem := none, fields := some [(0, 38), (1, 39), (2, 40)], isStr := false, zero := some [.nil 3, .nil 3, .nil 7] } := rfl
theorem TT_42 : TT 42 = some { size := 3, bytes := 72, agg := true, elem := none, fields := some [(0, 38), (1, 39), (2, 40)], isStr := false, zero := some [.nil 3, .nil 3, .nil 7] } := rfl
theorem TT_45 : TT 45 = some { size := 3, bytes := 32, agg := true, elem := none, fields := some [(0, 9), (1, 3), (2, 4)], isStr := false, zero := some [.str ByteArray.empty, .int .i64 0, .bool false] } := rfl
theorem TT_46 : TT 46 = some { size := 3, bytes := 32, agg := true, elem := none, fields := some [(0, 9), (1, 3), (2, 4)], isStr := false, zero := some [.str ByteArray.empty, .int .i64 0, .bool false] } := rfl
theorem TT_47 : TT 47 = some { size := 3, bytes := 56, agg := true, elem := none, fields := some [(0, 9), (1, 23), (2, 9)], isStr := false, zero := some [.str ByteArray.empty, .nil 1, .str ByteArray.empty] } := rfl
theorem TT_48 : TT 48 = some { size := 3, bytes := 56, agg := true, elem := none, fields := some [(0, 9), (1, 23), (2, 9)], isStr := false, zero := some [.str ByteArray.empty, .nil 1, .str ByteArray.empty] } := rfl
theorem TT_49 : TT 49 = some { size := 3, bytes := 32, agg := true, elem := none, fields := some [(0, 3), (1, 3), (2, 9)], isStr := false, zero := some [.int .i64 0, .int .i64 0, .str ByteArray.empty] } := rfl
theorem TT_50 : TT 50 = some { size := 3, bytes := 32, agg := true, elem := none, fields := some [(0, 3), (1, 3), (2, 9)], isStr := false, zero := some [.int .i64 0, .int .i64 0, .str ByteArray.empty] } := rfl
theorem TT_51 : TT 51 = some { size := 7, bytes := 80, agg := true, elem := none, fields := some [(0, 9), (1, 3), (2, 9), (3, 3), (4, 50)], isStr := false, zero := some [.str ByteArray.empty, .int .i64 0, .str ByteArray.empty, .int .i64 0, .int .i64 0, .int .i64 0, .str ByteArray.empty] } := rfl
theorem TT_52 : TT 52 = some { size := 7, bytes := 80, agg := true, elem := none, fields := some [(0, 9), (1, 3), (2, 9), (3, 3), (4, 50)], isStr := false, zero := some [.str ByteArray.empty, .int .i64 0, .str ByteArray.empty, .int .i64 0, .int .i64 0, .int .i64 0, .str ByteArray.empty] } := rfl
theorem TT_59 : TT 59 = some { size := 1, bytes := 8, agg := false, elem := none, fields := none, isStr := false, zero := some [.int .i64 0] } := rfl
theorem TT_65 : TT 65 = some { size := 1, bytes := 24, agg := false, elem := some 4, fields := none, isStr := false, zero := some [.nil 1] } := rfl
theorem TT_66 : TT 66 = some { size := 1, bytes := 24, agg := false, elem := some 115, fields := none, isStr := false, zero := some [.nil 2] } := rfl
theorem TT_67 : TT 67 = some { size := 1, bytes := 24, agg := false, elem := some 115, fields := none, isStr := false, zero := some [.nil 2] } := rfl
theorem TT_68 : TT 68 = some { size := 1, bytes := 24, agg := false, elem := some 77, fields := none, isStr := false, zero := some [.nil 4] } := rfl
theorem TT_76 : TT 76 = some { size := 4, bytes := 72, agg := true, elem := none, fields := some [(0, 3), (1, 9), (2, 28), (3, 28)], isStr := false, zero := some [.int .i64 0, .str ByteArray.empty, .nil 3, .nil 3] } := rfl
theorem TT_77 : TT 77 = some { size := 4, bytes := 72, agg := true, elem := none, fields := some [(0, 3), (1, 9), (2, 28), (3, 28)], isStr := false, zero := some [.int .i64 0, .str ByteArray.empty, .nil 3, .nil 3] } := rfl
theorem TT_92 : TT 92 = some { size := 1, bytes := 24, agg := false, elem := some 5, fields := none, isStr := false, zero := some [.nil 1] } := rfl
theorem TT_93 : TT 93 = some { size := 2, bytes := 32, agg := true, elem := none, fields := some [(0, 91), (1, 92)], isStr := false, zero := none } := rfl
theorem TT_94 : TT 94 = some { size := 2, bytes := 32, agg := true, elem := none, fields := some [(0, 91), (1, 92)], isStr := false, zero := none } := rfl
theorem TT_114 : TT 114 = some { size := 2, bytes := 40, agg := true, elem := none, fields := some [(0, 9), (1, 26)], isStr := false, zero := some [.str ByteArray.empty, .nil 1] } := rfl
theorem TT_115 : TT 115 = some { size := 2, bytes := 40, agg := true, elem := none, fields := some [(0, 9), (1, 26)], isStr := false, zero := some [.str ByteArray.empty, .nil 1] } := rfl
theorem TT_132 : TT 132 = some { size := 1, bytes := 24, agg := false, elem := some 67, fields := none, isStr := false, zero := some [.nil 1] } := rfl
theorem TT_163 : TT 163 = some { size := 1, bytes := 8, agg := false, elem := none, fields := none, isStr := false, zero := some [.int .u64 0] } := rfl
theorem TT_170 : TT 170 = some { size := 1, bytes := 8, agg := false, elem := none, fields := none, isStr := false, zero := some [.int .i64 0] } := rfl
theorem TT_176 : TT 176 = some { size := 1, bytes := 8, agg := false, elem := none, fields := none, isStr := false, zero := some [.int .u64 0] } := rfl
theorem TT_180 : TT 180 = some { size := 1, bytes := 4, agg := false, elem := none, fields := none, isStr := false, zero := some [.int .u32 0] } := rfl
theorem TT_186 : TT 186 = some { size := 3, bytes := 48, agg := true, elem := none, fields := some [(0, 9), (1, 9), (2, 96)], isStr := false, zero := none } := rfl
theorem TT_187 : TT 187 = some { size := 3, bytes := 48, agg := true, elem := none, fields := some [(0, 9), (1, 9), (2, 96)], isStr := false, zero := none } := rfl
theorem TT_192 : TT 192 = some { size := 1, bytes := 16, agg := true, elem := none, fields := some [(0, 9)], isStr := false, zero := some [.str ByteArray.empty] } := rfl
theorem TT_193 : TT 193 = some { size := 1, bytes := 16, agg := true, elem := none, fields := some [(0, 9)], isStr := false, zero := some [.str ByteArray.empty] } := rfl
theorem eqK_46 : eqK Tryd.prog 46 = some [2, 0, 1] := by kernel_rfl
theorem eqK_50 : eqK Tryd.prog 50 = some [0, 0, 2] := by kernel_rfl
theorem eqK_52 : eqK Tryd.prog 52 = some [2, 0, 2, 0, 0, 0, 2] := by kernel_rfl
theorem eqK_193 : eqK Tryd.prog 193 = some [2] := by kernel_rfl
theorem convK_2 : convK Tryd.prog 2 = some .i64 := by kernel_rfl
theorem convK_3 : convK Tryd.prog 3 = some .i64 := by kernel_rfl
theorem convK_5 : convK Tryd.prog 5 = some .u8 := by kernel_rfl
theorem convK_12 : convK Tryd.prog 12 = some .u64 := by kernel_rfl
theorem convK_21 : convK Tryd.prog 21 = some .i32 := by kernel_rfl
theorem convK_59 : convK Tryd.prog 59 = some .i64 := by kernel_rfl
theorem convK_163 : convK Tryd.prog 163 = some .u64 := by kernel_rfl
theorem convK_170 : convK Tryd.prog 170 = some .i64 := by kernel_rfl
theorem convK_176 : convK Tryd.prog 176 = some .u64 := by kernel_rfl
theorem convK_180 : convK Tryd.prog 180 = some .u32 := by kernel_rfl
theorem boolTy_4 : boolTy Tryd.prog 4 = true := by kernel_rfl
theorem mixed : Tryd.prog.follows .mixedOrders = true := by kernel_rfl

structure Val where
  kind : Int
  int : Int
  text : ByteArray
  deriving DecidableEq, Inhabited
abbrev Row := List Val
structure Col where
  name : ByteArray
  kind : Int
  nullable : Bool
  deriving DecidableEq, Inhabited
structure Tbl where
  name : ByteArray
  cols : List Col
  pk : List Int
  deriving DecidableEq, Inhabited
structure FK where
  table : ByteArray
  cols : List Int
  ref : ByteArray
  deriving DecidableEq, Inhabited
structure Con where
  table : ByteArray
  left : Int
  op : ByteArray
  right : Int
  value : Val
  deriving DecidableEq, Inhabited
structure Sch where
  tables : List Tbl
  fks : List FK
  cons : List Con
  deriving DecidableEq, Inhabited
structure Rel where
  table : ByteArray
  rows : List Row
  deriving DecidableEq, Inhabited
abbrev Inst := List Rel
structure Chg where
  kind : Int
  table : ByteArray
  key : Row
  row : Row
  deriving DecidableEq, Inhabited

def eVal (v : Val) : List L := [.int .i64 v.kind, .int .i64 v.int, .str v.text]
def eRow (r : Row) : L := .sl 3 (r.map eVal)
def eRow1 (r : Row) : List L := [eRow r]
def eRows (rs : List Row) : L := .sl 1 (rs.map eRow1)
def eInt1 (n : Int) : List L := [.int .i64 n]
def eInts (l : List Int) : L := .sl 1 (l.map eInt1)
def eCol (c : Col) : List L := [.str c.name, .int .i64 c.kind, .bool c.nullable]
def eCols (l : List Col) : L := .sl 3 (l.map eCol)
def eTbl (t : Tbl) : List L := [.str t.name, eCols t.cols, eInts t.pk]
def eTbls (l : List Tbl) : L := .sl 3 (l.map eTbl)
def eFK (f : FK) : List L := [.str f.table, eInts f.cols, .str f.ref]
def eFKs (l : List FK) : L := .sl 3 (l.map eFK)
def eCon (c : Con) : List L := [.str c.table, .int .i64 c.left, .str c.op, .int .i64 c.right, .int .i64 c.value.kind, .int .i64 c.value.int, .str c.value.text]
def eCons (l : List Con) : L := .sl 7 (l.map eCon)
def eSch (s : Sch) : List L := [eTbls s.tables, eFKs s.fks, eCons s.cons]
def eRel (r : Rel) : List L := [.str r.table, eRows r.rows]
def eInst (i : Inst) : L := .sl 2 (i.map eRel)
def eChg (c : Chg) : List L := [.int .i64 c.kind, .str c.table, eRow c.key, eRow c.row]
def eChgs (l : List Chg) : L := .sl 4 (l.map eChg)

theorem frz_map {α : Type} {e : α → List L} (h : ∀ x, (e x).map (L.frzN 4) = e x) (l : List α) : (l.map e).map (fun x => x.map (L.frzN 4)) = l.map e := by
  rw [List.map_map]
  exact List.map_congr_left fun x _ => h x
theorem frz_eVal (l : List Val) : (l.map eVal).map (fun x => x.map (L.frzN 4)) = l.map eVal := frz_map (fun _ => rfl) l
theorem frz_eRow1 (l : List Row) : (l.map eRow1).map (fun x => x.map (L.frzN 4)) = l.map eRow1 := frz_map (fun _ => rfl) l
theorem frz_eInt1 (l : List Int) : (l.map eInt1).map (fun x => x.map (L.frzN 4)) = l.map eInt1 := frz_map (fun _ => rfl) l
theorem frz_eCol (l : List Col) : (l.map eCol).map (fun x => x.map (L.frzN 4)) = l.map eCol := frz_map (fun _ => rfl) l
theorem frz_eTbl (l : List Tbl) : (l.map eTbl).map (fun x => x.map (L.frzN 4)) = l.map eTbl := frz_map (fun _ => rfl) l
theorem frz_eFK (l : List FK) : (l.map eFK).map (fun x => x.map (L.frzN 4)) = l.map eFK := frz_map (fun _ => rfl) l
theorem frz_eCon (l : List Con) : (l.map eCon).map (fun x => x.map (L.frzN 4)) = l.map eCon := frz_map (fun _ => rfl) l
theorem frz_eRel (l : List Rel) : (l.map eRel).map (fun x => x.map (L.frzN 4)) = l.map eRel := frz_map (fun _ => rfl) l
theorem frz_eChg (l : List Chg) : (l.map eChg).map (fun x => x.map (L.frzN 4)) = l.map eChg := frz_map (fun _ => rfl) l

theorem noOwn_eVal (l : List Val) : noOwn (l.map eVal) = True := noOwn_map (fun _ => rfl) l
theorem noOwn_eRow1 (l : List Row) : noOwn (l.map eRow1) = True := noOwn_map (fun _ => rfl) l
theorem noOwn_eInt1 (l : List Int) : noOwn (l.map eInt1) = True := noOwn_map (fun _ => rfl) l
theorem noOwn_eCol (l : List Col) : noOwn (l.map eCol) = True := noOwn_map (fun _ => rfl) l
theorem noOwn_eTbl (l : List Tbl) : noOwn (l.map eTbl) = True := noOwn_map (fun _ => rfl) l
theorem noOwn_eFK (l : List FK) : noOwn (l.map eFK) = True := noOwn_map (fun _ => rfl) l
theorem noOwn_eCon (l : List Con) : noOwn (l.map eCon) = True := noOwn_map (fun _ => rfl) l
theorem noOwn_eRel (l : List Rel) : noOwn (l.map eRel) = True := noOwn_map (fun _ => rfl) l
theorem noOwn_eChg (l : List Chg) : noOwn (l.map eChg) = True := noOwn_map (fun _ => rfl) l

abbrev oI (n : Int) : V := .one (.int .i64 n)
abbrev oB (b : Bool) : V := .one (.bool b)
abbrev oS (s : ByteArray) : V := .one (.str s)

/-- How each lies in cells. -/
theorem EN : (∀ (v : Val), eVal v = [.int .i64 v.kind, .int .i64 v.int, .str v.text]) ∧ (∀ (r : Row), eRow r = .sl 3 (r.map eVal)) ∧ (∀ (r : Row), eRow1 r = [eRow r]) ∧ (∀ (rs : List Row), eRows rs = .sl 1 (rs.map eRow1)) ∧ (∀ (n : Int), eInt1 n = [.int .i64 n]) ∧ (∀ (l : List Int), eInts l = .sl 1 (l.map eInt1)) ∧ (∀ (c : Col), eCol c = [.str c.name, .int .i64 c.kind, .bool c.nullable]) ∧ (∀ (l : List Col), eCols l = .sl 3 (l.map eCol)) ∧ (∀ (t : Tbl), eTbl t = [.str t.name, eCols t.cols, eInts t.pk]) ∧ (∀ (l : List Tbl), eTbls l = .sl 3 (l.map eTbl)) ∧ (∀ (f : FK), eFK f = [.str f.table, eInts f.cols, .str f.ref]) ∧ (∀ (l : List FK), eFKs l = .sl 3 (l.map eFK)) ∧ (∀ (c : Con), eCon c = [.str c.table, .int .i64 c.left, .str c.op, .int .i64 c.right, .int .i64 c.value.kind, .int .i64 c.value.int, .str c.value.text]) ∧ (∀ (l : List Con), eCons l = .sl 7 (l.map eCon)) ∧ (∀ (s : Sch), eSch s = [eTbls s.tables, eFKs s.fks, eCons s.cons]) ∧ (∀ (r : Rel), eRel r = [.str r.table, eRows r.rows]) ∧ (∀ (i : Inst), eInst i = .sl 2 (i.map eRel)) ∧ (∀ (c : Chg), eChg c = [.int .i64 c.kind, .str c.table, eRow c.key, eRow c.row]) ∧ (∀ (l : List Chg), eChgs l = .sl 4 (l.map eChg)) :=
  ⟨fun _ => rfl, fun _ => rfl, fun _ => rfl, fun _ => rfl, fun _ => rfl, fun _ => rfl, fun _ => rfl, fun _ => rfl, fun _ => rfl, fun _ => rfl, fun _ => rfl, fun _ => rfl, fun _ => rfl, fun _ => rfl, fun _ => rfl, fun _ => rfl, fun _ => rfl, fun _ => rfl, fun _ => rfl⟩
end Go.Bw

namespace Go.Bw
open Go.Proofs
attribute [local go_sem ↓] VOps_nil VOps_cons VOp_callJ VVal_callH VOps_guard GOn_tt GOn_ff GOn_tf GOn_ft GOn_not GOn_none HOn_none HOn_tt HOn_ff HOn_tf HOn_ft HOn_not VHead_nil VHead_cons VHead_guard VVal_move VVal_assign VVal_pickE pickK_true pickK_false VVal_not VVal_neg negK_int VVal_load loadK_fz loadK_ptr loadK_eptr VVal_fieldAddr VVal_field VVal_indexAddr idxK_sl idxK_ref VVal_index indexK_str VVal_extract VVal_binOp binK_one binK_agg VVal_build VVal_buildSlice VVal_makeFunc VVal_slice sliceK_str sliceK_sl sliceK_nil sliceK_ref VVal_slice3 VVal_nilCheck VVal_convert convKk_int convKk_str VVal_len VVal_max VVal_min VOp_assign assignK_int assignK_bool assignK_str assignK_clo assignK_sl assignK_nil assignK_ref assignK_agg assignK_fz assignK_ptr assignK_eptr assignK_any VOp_box VOp_alloc VOp_store storeK_ptr storeK_eptr VOp_buildSlice VOp_append appK_rr appK_rs appK_rn appK_ri appK_nr appK_ns appK_nn appK_ni appStd_eq VOp_copy copyK_ref VOp_clear clearK_ref VOp_cap VOp_eqNil VOp_move VOp_pick VOp_not VOp_neg VOp_load VOp_fieldAddr VOp_field VOp_indexAddr VOp_index VOp_extract VOp_binTmp VOp_binInt VOp_binStr VOp_build VOp_makeFunc VOp_slice VOp_nilCheck VOp_convert VOp_len VOp_max VOp_min mO_some mT_some pk_some pk_none look_cons del_cons
attribute [local go_sem] guardB gOf int_bne beq_true beq_false Bool.not_not gSlot pickK_true pickK_false negK_int loadK_fz loadK_ptr loadK_eptr idxK_sl idxK_ref indexK_str binK_one binK_agg sliceK_str sliceK_sl sliceK_nil sliceK_ref convKk_int convKk_str maxL minL assignK_int assignK_bool assignK_str assignK_clo assignK_sl assignK_nil assignK_ref assignK_agg assignK_fz assignK_ptr assignK_eptr assignK_any nilRow_eq takeRow_eq appended_eq storeK_ptr storeK_eptr store_mk appIn_eq appMk_eq marked_eq ovOut_nil ovOut_cons ovIn_nil ovIn_cons padRow_eq ysC capK_nil capK_ref ioSt_mk outB_nil outR_nil outB outR inB_nil inB_cons inR_nil inR_cons L.kl L.kl0 L.ids L.ids0 Option.getD_some evalO constA mO_some mT_some put_mk putO_some putO_none okD_some okD_none pk_some pk_none look_nil del_nil sput noBox_mk noRow_mk newBox_eq newRow0_eq St.killRow RowC.kill rowMap_mk rowOf ovAll ovAdd ovDel ovGet ovShift dstOf ysOf overlay_nil overlay_nil' overlay A.map V.map L.noPtr L.noPtr0 L.noRow L.noRow0 L.peek L.norm L.flat clos_int clos_bool clos_str clos_sl clos_nil clos_any clos_fz L.clos L.isFz L.kd moveL fieldOff eqCells eqCell eqOp oneOf boolOf intOfA tupOf vOf aggOf isPtrLike isSlice lenKind lenL nL elemTI loadV asV binL intBin intDivL shrL boolBin strBin boundN partCells fillL placesOf setL chunks repL capsOf capL callOf argsOf frzV_int frzV_bool frzV_str frzV_sl frzV_nil frzV_fz frzV_any frzV_own frzV_clo frzV_ref frzV_eptr frzV_ptr frzRow_nil frzRow_ov frzRs_nil frzRs_cons frzCs_nil frzCs_cons frzO_some frzO_none frzN_int frzN_bool frzN_str frzN_sl frzN_nil frzN_any frzN_own List.map_cons List.map_nil List.cons_append List.nil_append List.append_nil List.length_cons List.length_nil List.length_map List.length_append List.headD_cons List.tail_cons List.getElem?_cons_zero List.getElem?_cons_succ List.drop_zero List.drop_succ_cons List.drop_nil List.take_succ_cons List.take_zero List.take_nil List.take_length List.filter_cons List.filter_nil List.elem_cons List.elem_nil List.all_cons List.all_nil Option.bind_some Option.map_some Option.some.injEq bne_self_eq_false beq_self_eq_true if_true if_false Bool.false_eq_true true_and and_true and_self Nat.zero_add Nat.add_zero Nat.zero_le Int.toNat_natCast Int.toNat_zero Option.isSome_some List.getElem?_toArray decide_true decide_false ge_iff_le gt_iff_lt Bool.not_true Bool.not_false Nat.le_refl Bool.and_true Bool.true_and Bool.and_false Bool.false_and eVal eRow eRow1 eRows eInt1 eInts eCol eCols eTbl eTbls eFK eFKs eCon eCons eSch eRel eInst eChg eChgs szOf getD_map_lt wrap_nat wrap_in List.take_of_length_le frz_eVal frz_eRow1 frz_eInt1 frz_eCol frz_eTbl frz_eFK frz_eCon frz_eRel frz_eChg noOwn_nil noOwn_cons noOwn_append L.isOwn noOwn_eVal noOwn_eRow1 noOwn_eInt1 noOwn_eCol noOwn_eTbl noOwn_eFK noOwn_eCon noOwn_eRel noOwn_eChg convK_2 convK_3 convK_5 convK_12 convK_21 convK_59 convK_163 convK_170 convK_176 convK_180 TT_2 TT_3 TT_4 TT_5 TT_9 TT_12 TT_13 TT_21 TT_22 TT_23 TT_24 TT_25 TT_26 TT_27 TT_28 TT_38 TT_39 TT_40 TT_41 TT_42 TT_45 TT_46 TT_47 TT_48 TT_49 TT_50 TT_51 TT_52 TT_59 TT_65 TT_66 TT_67 TT_68 TT_76 TT_77 TT_92 TT_93 TT_94 TT_114 TT_115 TT_132 TT_163 TT_170 TT_176 TT_180 TT_186 TT_187 TT_192 TT_193 boolTy_4 eqK_46 eqK_50 eqK_52 eqK_193
attribute [local congr] VOps.congr VHead.congr VOp.congr VVal.congr pk.congr assignK.congr appK.congr appStd.congr copyK.congr clearK.congr storeK.congr loadK.congr idxK.congr sliceK.congr indexK.congr binK.congr convKk.congr
def cmpInts (a b : Int) : Int := if a < b then -1 else if a > b then 1 else 0

theorem compareInts_sat (a b : Int) : Sat Tryd.prog 61 [oI a, oI b] (.v (oI (cmpInts a b))) := by
  refine sat_of_body tyOk Tryd.func61 rfl (by kernel_rfl) ⟨Nat.le_of_ble_eq_true rfl, Nat.le_of_ble_eq_true rfl⟩ fun w0 m0 F0 => ?_
  simp only [Tryd.ntmps61, envOf, Nat.reduceAdd]
  repeat' (first
    | ((first
      | with_reducible refine AWP.regionL tyOk fun K hK => ?_
      | ((with_reducible first | refine GOn.isT ?_ ?_ | refine HOn.isT ?_ ?_ | refine pickK.isT ?_ ?_); focus (first | with_reducible rfl | with_reducible assumption | (simp only [NM, LN]; first | done | with_reducible assumption | omega)))
      | ((with_reducible first | refine GOn.isF ?_ ?_ | refine HOn.isF ?_ ?_ | refine pickK.isF ?_ ?_); focus (first | with_reducible rfl | with_reducible assumption | (simp only [NM, LN]; first | done | with_reducible assumption | omega)))
      | ((with_reducible first | refine GOn.split (fun h => ?_) (fun h => ?_) | refine HOn.split (fun h => ?_) (fun h => ?_) | refine pickK.split (fun h => ?_) (fun h => ?_)) <;> (try simp only [NM] at h))
      | with_reducible refine AWP.drawAll tyOk mixed 6 (by kernel_rfl) fun K hK => ?_) <;> simp -dsimp (disch := (first | omega | (simp only [LN]; omega))) only [go_sem, ↓reduceIte, seval])
    | ((with_reducible refine hK _ ?_); clear hK K)
    | (with_reducible first | refine AWP.seq ?_ | refine thenQ_normal ?_ | refine AWP.block ?_ | refine AWP.skip ?_ | refine AWP.ret ?_ | refine thenQ_ret ?_ | refine blockQ_ret ?_ | refine AWP.exit ?_ | refine thenQ_exit ?_ | refine blockQ_normal ?_ | refine blockQ_exit ?_)
    | refine blockQ_exit_ne rfl ?_
    | (with_reducible refine And.intro (by (first | with_reducible rfl | with_reducible assumption | omega | (simp only [LN]; first | done | with_reducible rfl | omega) | (simp only [NM, LN]; first | done | with_reducible assumption | omega) | (and_intros <;> first | with_reducible assumption | omega | (simp only [LN]; omega)) | fail)) ?_)
    | ((with_reducible refine AWP.condG (T := TT) (b := ?_) ?_ ?_); rotate_left; exact rfl)
    | (with_reducible first | refine CondG.t ?_ | refine CondG.f ?_ | refine CondG.not ?_)
    | ((with_reducible refine CondG.isT ?_ ?_); focus (first | with_reducible rfl | with_reducible assumption | (simp only [NM, LN]; first | done | with_reducible assumption | omega)))
    | ((with_reducible refine CondG.isF ?_ ?_); focus (first | with_reducible rfl | with_reducible assumption | (simp only [NM, LN]; first | done | with_reducible assumption | omega)))
    | ((with_reducible refine CondG.split (fun h => ?_) (fun h => ?_)) <;> (try simp only [NM] at h)))
  all_goals simp -dsimp (disch := (first | omega | (simp only [LN]; omega))) only [retQ, Tryd.results61, resVals, cellRV, resOf, St.rest, St.freeze, RT, go_sem, ↓reduceIte, seval]
  all_goals simp [cmpInts, *]
  all_goals omega
end Go.Bw

namespace Go.Bw
open Go.Proofs
attribute [local go_sem ↓] VOps_nil VOps_cons VOp_callJ VVal_callH VOps_guard GOn_tt GOn_ff GOn_tf GOn_ft GOn_not GOn_none HOn_none HOn_tt HOn_ff HOn_tf HOn_ft HOn_not VHead_nil VHead_cons VHead_guard VVal_move VVal_assign VVal_pickE pickK_true pickK_false VVal_not VVal_neg negK_int VVal_load loadK_fz loadK_ptr loadK_eptr VVal_fieldAddr VVal_field VVal_indexAddr idxK_sl idxK_ref VVal_index indexK_str VVal_extract VVal_binOp binK_one binK_agg VVal_build VVal_buildSlice VVal_makeFunc VVal_slice sliceK_str sliceK_sl sliceK_nil sliceK_ref VVal_slice3 VVal_nilCheck VVal_convert convKk_int convKk_str VVal_len VVal_max VVal_min VOp_assign assignK_int assignK_bool assignK_str assignK_clo assignK_sl assignK_nil assignK_ref assignK_agg assignK_fz assignK_ptr assignK_eptr assignK_any VOp_box VOp_alloc VOp_store storeK_ptr storeK_eptr VOp_buildSlice VOp_append appK_rr appK_rs appK_rn appK_ri appK_nr appK_ns appK_nn appK_ni appStd_eq VOp_copy copyK_ref VOp_clear clearK_ref VOp_cap VOp_eqNil VOp_move VOp_pick VOp_not VOp_neg VOp_load VOp_fieldAddr VOp_field VOp_indexAddr VOp_index VOp_extract VOp_binTmp VOp_binInt VOp_binStr VOp_build VOp_makeFunc VOp_slice VOp_nilCheck VOp_convert VOp_len VOp_max VOp_min mO_some mT_some pk_some pk_none look_cons del_cons
attribute [local go_sem] guardB gOf int_bne beq_true beq_false Bool.not_not gSlot pickK_true pickK_false negK_int loadK_fz loadK_ptr loadK_eptr idxK_sl idxK_ref indexK_str binK_one binK_agg sliceK_str sliceK_sl sliceK_nil sliceK_ref convKk_int convKk_str maxL minL assignK_int assignK_bool assignK_str assignK_clo assignK_sl assignK_nil assignK_ref assignK_agg assignK_fz assignK_ptr assignK_eptr assignK_any nilRow_eq takeRow_eq appended_eq storeK_ptr storeK_eptr store_mk appIn_eq appMk_eq marked_eq ovOut_nil ovOut_cons ovIn_nil ovIn_cons padRow_eq ysC capK_nil capK_ref ioSt_mk outB_nil outR_nil outB outR inB_nil inB_cons inR_nil inR_cons L.kl L.kl0 L.ids L.ids0 Option.getD_some evalO constA mO_some mT_some put_mk putO_some putO_none okD_some okD_none pk_some pk_none look_nil del_nil sput noBox_mk noRow_mk newBox_eq newRow0_eq St.killRow RowC.kill rowMap_mk rowOf ovAll ovAdd ovDel ovGet ovShift dstOf ysOf overlay_nil overlay_nil' overlay A.map V.map L.noPtr L.noPtr0 L.noRow L.noRow0 L.peek L.norm L.flat clos_int clos_bool clos_str clos_sl clos_nil clos_any clos_fz L.clos L.isFz L.kd moveL fieldOff eqCells eqCell eqOp oneOf boolOf intOfA tupOf vOf aggOf isPtrLike isSlice lenKind lenL nL elemTI loadV asV binL intBin intDivL shrL boolBin strBin boundN partCells fillL placesOf setL chunks repL capsOf capL callOf argsOf frzV_int frzV_bool frzV_str frzV_sl frzV_nil frzV_fz frzV_any frzV_own frzV_clo frzV_ref frzV_eptr frzV_ptr frzRow_nil frzRow_ov frzRs_nil frzRs_cons frzCs_nil frzCs_cons frzO_some frzO_none frzN_int frzN_bool frzN_str frzN_sl frzN_nil frzN_any frzN_own List.map_cons List.map_nil List.cons_append List.nil_append List.append_nil List.length_cons List.length_nil List.length_map List.length_append List.headD_cons List.tail_cons List.getElem?_cons_zero List.getElem?_cons_succ List.drop_zero List.drop_succ_cons List.drop_nil List.take_succ_cons List.take_zero List.take_nil List.take_length List.filter_cons List.filter_nil List.elem_cons List.elem_nil List.all_cons List.all_nil Option.bind_some Option.map_some Option.some.injEq bne_self_eq_false beq_self_eq_true if_true if_false Bool.false_eq_true true_and and_true and_self Nat.zero_add Nat.add_zero Nat.zero_le Int.toNat_natCast Int.toNat_zero Option.isSome_some List.getElem?_toArray decide_true decide_false ge_iff_le gt_iff_lt Bool.not_true Bool.not_false Nat.le_refl Bool.and_true Bool.true_and Bool.and_false Bool.false_and eVal eRow eRow1 eRows eInt1 eInts eCol eCols eTbl eTbls eFK eFKs eCon eCons eSch eRel eInst eChg eChgs szOf getD_map_lt wrap_nat wrap_in List.take_of_length_le frz_eVal frz_eRow1 frz_eInt1 frz_eCol frz_eTbl frz_eFK frz_eCon frz_eRel frz_eChg noOwn_nil noOwn_cons noOwn_append L.isOwn noOwn_eVal noOwn_eRow1 noOwn_eInt1 noOwn_eCol noOwn_eTbl noOwn_eFK noOwn_eCon noOwn_eRel noOwn_eChg convK_2 convK_3 convK_5 convK_12 convK_21 convK_59 convK_163 convK_170 convK_176 convK_180 TT_2 TT_3 TT_4 TT_5 TT_9 TT_12 TT_13 TT_21 TT_22 TT_23 TT_24 TT_25 TT_26 TT_27 TT_28 TT_38 TT_39 TT_40 TT_41 TT_42 TT_45 TT_46 TT_47 TT_48 TT_49 TT_50 TT_51 TT_52 TT_59 TT_65 TT_66 TT_67 TT_68 TT_76 TT_77 TT_92 TT_93 TT_94 TT_114 TT_115 TT_132 TT_163 TT_170 TT_176 TT_180 TT_186 TT_187 TT_192 TT_193 boolTy_4 eqK_46 eqK_50 eqK_52 eqK_193
attribute [local congr] VOps.congr VHead.congr VOp.congr VVal.congr pk.congr assignK.congr appK.congr appStd.congr copyK.congr clearK.congr storeK.congr loadK.congr idxK.congr sliceK.congr indexK.congr binK.congr convKk.congr
open Go.RowKit

/-- Two strings, by their bytes. -/
def cmpS (a b : ByteArray) : Int := Lib.compareBytes a.data.toList b.data.toList



theorem cmpstring_sat (a b : ByteArray) : Sat Tryd.prog 116 [oS a, oS b] (.v (oI (cmpS a b))) := by
  refine ⟨fun m w vs ω hC hA => ?_⟩
  obtain ⟨hl, hA⟩ := hA
  obtain ⟨v1, h1, r1⟩ := hA 0 _ rfl
  obtain ⟨v2, h2, r2⟩ := hA 1 _ rfl
  have e : vs.toArray = #[v1, v2] := by
    match vs, hl, h1, h2 with
    | [x, y], _, h1, h2 => simp at h1 h2; rw [h1, h2]
  have r1 : Rep m v1 (.str a) := r1
  have r2 : Rep m v2 (.str b) := r2
  cases r1 with
  | str _ => cases r2 with
    | str _ =>
      refine .inl ⟨.int .i64 (cmpS a b), w, ?_, ?_⟩
      · rw [e, run_callFunc_extern Tryd.func116 (by kernel_rfl) (by kernel_rfl) (by kernel_rfl) (e := Extern.BytealgCompare.compare) (by kernel_rfl), Lib.run_compareString]
        rfl
      · exact ⟨m, ω, hC, Rep.int _ _⟩

theorem CompareString_sat (a b : ByteArray) : Sat Tryd.prog 97 [oS a, oS b] (.v (oI (cmpS a b))) := by
  refine sat_of_body tyOk Tryd.func97 rfl (by kernel_rfl) ⟨Nat.le_of_ble_eq_true rfl, Nat.le_of_ble_eq_true rfl⟩ fun w0 m0 F0 => ?_
  simp only [Tryd.ntmps97, envOf, Nat.reduceAdd]
  repeat' (first
    | ((first
      | with_reducible refine AWP.regionL tyOk fun K hK => ?_
      | ((with_reducible first | refine GOn.isT ?_ ?_ | refine HOn.isT ?_ ?_ | refine pickK.isT ?_ ?_); focus (first | with_reducible rfl | with_reducible assumption | (simp only [NM, LN]; first | done | with_reducible assumption | omega)))
      | ((with_reducible first | refine GOn.isF ?_ ?_ | refine HOn.isF ?_ ?_ | refine pickK.isF ?_ ?_); focus (first | with_reducible rfl | with_reducible assumption | (simp only [NM, LN]; first | done | with_reducible assumption | omega)))
      | ((with_reducible first | refine GOn.split (fun h => ?_) (fun h => ?_) | refine HOn.split (fun h => ?_) (fun h => ?_) | refine pickK.split (fun h => ?_) (fun h => ?_)) <;> (try simp only [NM] at h))
      | with_reducible refine AWP.drawAll tyOk mixed 6 (by kernel_rfl) fun K hK => ?_
      | ((with_reducible refine CallJ.is ?_); (first | refine CallJ.pure (cmpstring_sat _ _) ?_ | ((apply CallJ.lentI); (focus (simp -dsimp (disch := (first | omega | (simp only [LN]; omega))) only [go_sem, ↓reduceIte, seval]; rfl)); (focus (first | exact (cmpstring_sat _ _))))))
      | ((with_reducible refine CallH.is ?_); (first | refine CallH.intro (cmpstring_sat _ _) ?_))) <;> simp -dsimp (disch := (first | omega | (simp only [LN]; omega))) only [go_sem, ↓reduceIte, seval])
    | ((with_reducible refine hK _ ?_); clear hK K)
    | (with_reducible first | refine AWP.seq ?_ | refine thenQ_normal ?_ | refine AWP.block ?_ | refine AWP.skip ?_ | refine AWP.ret ?_ | refine thenQ_ret ?_ | refine blockQ_ret ?_ | refine AWP.exit ?_ | refine thenQ_exit ?_ | refine blockQ_normal ?_ | refine blockQ_exit ?_)
    | refine blockQ_exit_ne rfl ?_
    | (with_reducible refine And.intro (by (first | with_reducible rfl | with_reducible assumption | omega | (simp only [LN]; first | done | with_reducible rfl | omega) | (simp only [NM, LN]; first | done | with_reducible assumption | omega) | (and_intros <;> first | with_reducible assumption | omega | (simp only [LN]; omega)) | fail)) ?_)
    | ((with_reducible refine AWP.condG (T := TT) (b := ?_) ?_ ?_); rotate_left; exact rfl)
    | (with_reducible first | refine CondG.t ?_ | refine CondG.f ?_ | refine CondG.not ?_)
    | ((with_reducible refine CondG.isT ?_ ?_); focus (first | with_reducible rfl | with_reducible assumption | (simp only [NM, LN]; first | done | with_reducible assumption | omega)))
    | ((with_reducible refine CondG.isF ?_ ?_); focus (first | with_reducible rfl | with_reducible assumption | (simp only [NM, LN]; first | done | with_reducible assumption | omega)))
    | ((with_reducible refine CondG.split (fun h => ?_) (fun h => ?_)) <;> (try simp only [NM] at h)))
  simp -dsimp (disch := (first | omega | (simp only [LN]; omega))) only [retQ, Tryd.results97, resVals, cellRV, resOf, St.rest, St.freeze, RT, go_sem, ↓reduceIte, seval]

theorem stringsCompare_sat (a b : ByteArray) : Sat Tryd.prog 62 [oS a, oS b] (.v (oI (cmpS a b))) := by
  refine sat_of_body tyOk Tryd.func62 rfl (by kernel_rfl) ⟨Nat.le_of_ble_eq_true rfl, Nat.le_of_ble_eq_true rfl⟩ fun w0 m0 F0 => ?_
  simp only [Tryd.ntmps62, envOf, Nat.reduceAdd]
  repeat' (first
    | ((first
      | with_reducible refine AWP.regionL tyOk fun K hK => ?_
      | ((with_reducible first | refine GOn.isT ?_ ?_ | refine HOn.isT ?_ ?_ | refine pickK.isT ?_ ?_); focus (first | with_reducible rfl | with_reducible assumption | (simp only [NM, LN]; first | done | with_reducible assumption | omega)))
      | ((with_reducible first | refine GOn.isF ?_ ?_ | refine HOn.isF ?_ ?_ | refine pickK.isF ?_ ?_); focus (first | with_reducible rfl | with_reducible assumption | (simp only [NM, LN]; first | done | with_reducible assumption | omega)))
      | ((with_reducible first | refine GOn.split (fun h => ?_) (fun h => ?_) | refine HOn.split (fun h => ?_) (fun h => ?_) | refine pickK.split (fun h => ?_) (fun h => ?_)) <;> (try simp only [NM] at h))
      | with_reducible refine AWP.drawAll tyOk mixed 6 (by kernel_rfl) fun K hK => ?_
      | ((with_reducible refine CallJ.is ?_); (first | refine CallJ.pure (CompareString_sat _ _) ?_ | ((apply CallJ.lentI); (focus (simp -dsimp (disch := (first | omega | (simp only [LN]; omega))) only [go_sem, ↓reduceIte, seval]; rfl)); (focus (first | exact (CompareString_sat _ _))))))
      | ((with_reducible refine CallH.is ?_); (first | refine CallH.intro (CompareString_sat _ _) ?_))) <;> simp -dsimp (disch := (first | omega | (simp only [LN]; omega))) only [go_sem, ↓reduceIte, seval])
    | ((with_reducible refine hK _ ?_); clear hK K)
    | (with_reducible first | refine AWP.seq ?_ | refine thenQ_normal ?_ | refine AWP.block ?_ | refine AWP.skip ?_ | refine AWP.ret ?_ | refine thenQ_ret ?_ | refine blockQ_ret ?_ | refine AWP.exit ?_ | refine thenQ_exit ?_ | refine blockQ_normal ?_ | refine blockQ_exit ?_)
    | refine blockQ_exit_ne rfl ?_
    | (with_reducible refine And.intro (by (first | with_reducible rfl | with_reducible assumption | omega | (simp only [LN]; first | done | with_reducible rfl | omega) | (simp only [NM, LN]; first | done | with_reducible assumption | omega) | (and_intros <;> first | with_reducible assumption | omega | (simp only [LN]; omega)) | fail)) ?_)
    | ((with_reducible refine AWP.condG (T := TT) (b := ?_) ?_ ?_); rotate_left; exact rfl)
    | (with_reducible first | refine CondG.t ?_ | refine CondG.f ?_ | refine CondG.not ?_)
    | ((with_reducible refine CondG.isT ?_ ?_); focus (first | with_reducible rfl | with_reducible assumption | (simp only [NM, LN]; first | done | with_reducible assumption | omega)))
    | ((with_reducible refine CondG.isF ?_ ?_); focus (first | with_reducible rfl | with_reducible assumption | (simp only [NM, LN]; first | done | with_reducible assumption | omega)))
    | ((with_reducible refine CondG.split (fun h => ?_) (fun h => ?_)) <;> (try simp only [NM] at h)))
  simp -dsimp (disch := (first | omega | (simp only [LN]; omega))) only [retQ, Tryd.results62, resVals, cellRV, resOf, St.rest, St.freeze, RT, go_sem, ↓reduceIte, seval]
end Go.Bw

namespace Go.Bw
open Go.Proofs
attribute [local go_sem ↓] VOps_nil VOps_cons VOp_callJ VVal_callH VOps_guard GOn_tt GOn_ff GOn_tf GOn_ft GOn_not GOn_none HOn_none HOn_tt HOn_ff HOn_tf HOn_ft HOn_not VHead_nil VHead_cons VHead_guard VVal_move VVal_assign VVal_pickE pickK_true pickK_false VVal_not VVal_neg negK_int VVal_load loadK_fz loadK_ptr loadK_eptr VVal_fieldAddr VVal_field VVal_indexAddr idxK_sl idxK_ref VVal_index indexK_str VVal_extract VVal_binOp binK_one binK_agg VVal_build VVal_buildSlice VVal_makeFunc VVal_slice sliceK_str sliceK_sl sliceK_nil sliceK_ref VVal_slice3 VVal_nilCheck VVal_convert convKk_int convKk_str VVal_len VVal_max VVal_min VOp_assign assignK_int assignK_bool assignK_str assignK_clo assignK_sl assignK_nil assignK_ref assignK_agg assignK_fz assignK_ptr assignK_eptr assignK_any VOp_box VOp_alloc VOp_store storeK_ptr storeK_eptr VOp_buildSlice VOp_append appK_rr appK_rs appK_rn appK_ri appK_nr appK_ns appK_nn appK_ni appStd_eq VOp_copy copyK_ref VOp_clear clearK_ref VOp_cap VOp_eqNil VOp_move VOp_pick VOp_not VOp_neg VOp_load VOp_fieldAddr VOp_field VOp_indexAddr VOp_index VOp_extract VOp_binTmp VOp_binInt VOp_binStr VOp_build VOp_makeFunc VOp_slice VOp_nilCheck VOp_convert VOp_len VOp_max VOp_min mO_some mT_some pk_some pk_none look_cons del_cons
attribute [local go_sem] guardB gOf int_bne beq_true beq_false Bool.not_not gSlot pickK_true pickK_false negK_int loadK_fz loadK_ptr loadK_eptr idxK_sl idxK_ref indexK_str binK_one binK_agg sliceK_str sliceK_sl sliceK_nil sliceK_ref convKk_int convKk_str maxL minL assignK_int assignK_bool assignK_str assignK_clo assignK_sl assignK_nil assignK_ref assignK_agg assignK_fz assignK_ptr assignK_eptr assignK_any nilRow_eq takeRow_eq appended_eq storeK_ptr storeK_eptr store_mk appIn_eq appMk_eq marked_eq ovOut_nil ovOut_cons ovIn_nil ovIn_cons padRow_eq ysC capK_nil capK_ref ioSt_mk outB_nil outR_nil outB outR inB_nil inB_cons inR_nil inR_cons L.kl L.kl0 L.ids L.ids0 Option.getD_some evalO constA mO_some mT_some put_mk putO_some putO_none okD_some okD_none pk_some pk_none look_nil del_nil sput noBox_mk noRow_mk newBox_eq newRow0_eq St.killRow RowC.kill rowMap_mk rowOf ovAll ovAdd ovDel ovGet ovShift dstOf ysOf overlay_nil overlay_nil' overlay A.map V.map L.noPtr L.noPtr0 L.noRow L.noRow0 L.peek L.norm L.flat clos_int clos_bool clos_str clos_sl clos_nil clos_any clos_fz L.clos L.isFz L.kd moveL fieldOff eqCells eqCell eqOp oneOf boolOf intOfA tupOf vOf aggOf isPtrLike isSlice lenKind lenL nL elemTI loadV asV binL intBin intDivL shrL boolBin strBin boundN partCells fillL placesOf setL chunks repL capsOf capL callOf argsOf frzV_int frzV_bool frzV_str frzV_sl frzV_nil frzV_fz frzV_any frzV_own frzV_clo frzV_ref frzV_eptr frzV_ptr frzRow_nil frzRow_ov frzRs_nil frzRs_cons frzCs_nil frzCs_cons frzO_some frzO_none frzN_int frzN_bool frzN_str frzN_sl frzN_nil frzN_any frzN_own List.map_cons List.map_nil List.cons_append List.nil_append List.append_nil List.length_cons List.length_nil List.length_map List.length_append List.headD_cons List.tail_cons List.getElem?_cons_zero List.getElem?_cons_succ List.drop_zero List.drop_succ_cons List.drop_nil List.take_succ_cons List.take_zero List.take_nil List.take_length List.filter_cons List.filter_nil List.elem_cons List.elem_nil List.all_cons List.all_nil Option.bind_some Option.map_some Option.some.injEq bne_self_eq_false beq_self_eq_true if_true if_false Bool.false_eq_true true_and and_true and_self Nat.zero_add Nat.add_zero Nat.zero_le Int.toNat_natCast Int.toNat_zero Option.isSome_some List.getElem?_toArray decide_true decide_false ge_iff_le gt_iff_lt Bool.not_true Bool.not_false Nat.le_refl Bool.and_true Bool.true_and Bool.and_false Bool.false_and eVal eRow eRow1 eRows eInt1 eInts eCol eCols eTbl eTbls eFK eFKs eCon eCons eSch eRel eInst eChg eChgs szOf getD_map_lt wrap_nat wrap_in List.take_of_length_le frz_eVal frz_eRow1 frz_eInt1 frz_eCol frz_eTbl frz_eFK frz_eCon frz_eRel frz_eChg noOwn_nil noOwn_cons noOwn_append L.isOwn noOwn_eVal noOwn_eRow1 noOwn_eInt1 noOwn_eCol noOwn_eTbl noOwn_eFK noOwn_eCon noOwn_eRel noOwn_eChg convK_2 convK_3 convK_5 convK_12 convK_21 convK_59 convK_163 convK_170 convK_176 convK_180 TT_2 TT_3 TT_4 TT_5 TT_9 TT_12 TT_13 TT_21 TT_22 TT_23 TT_24 TT_25 TT_26 TT_27 TT_28 TT_38 TT_39 TT_40 TT_41 TT_42 TT_45 TT_46 TT_47 TT_48 TT_49 TT_50 TT_51 TT_52 TT_59 TT_65 TT_66 TT_67 TT_68 TT_76 TT_77 TT_92 TT_93 TT_94 TT_114 TT_115 TT_132 TT_163 TT_170 TT_176 TT_180 TT_186 TT_187 TT_192 TT_193 boolTy_4 eqK_46 eqK_50 eqK_52 eqK_193
attribute [local congr] VOps.congr VHead.congr VOp.congr VVal.congr pk.congr assignK.congr appK.congr appStd.congr copyK.congr clearK.congr storeK.congr loadK.congr idxK.congr sliceK.congr indexK.congr binK.congr convKk.congr
def cmpV (a b : Val) : Int := if cmpInts a.kind b.kind ≠ 0 then cmpInts a.kind b.kind else if cmpInts a.int b.int ≠ 0 then cmpInts a.int b.int else cmpS a.text b.text
def opEq : ByteArray := ⟨#[61]⟩
def opLt : ByteArray := ⟨#[60]⟩
def opLe : ByteArray := ⟨#[60, 61]⟩
def sEq (a b : ByteArray) : Bool := a.toList == b.toList
def opOk (op : ByteArray) : Bool := sEq op opEq || sEq op opLt || sEq op opLe
/-- value.Satisfies: what it says where it returns OK. -/
def satV (a : Val) (op : ByteArray) (b : Val) : Bool :=
  if !opOk op then false else if a.kind == 0 || b.kind == 0 then true else
  cmpV a b == 0 && !sEq op opLt || decide (cmpV a b < 0) && !sEq op opEq
def satE (op : ByteArray) : Int := if opOk op then 0 else 3
def valE (v : Val) : Int :=
  if v.kind = 0 then if v.int ≠ 0 ∨ sEq v.text ByteArray.empty = false then 3 else 0
  else if v.kind = 1 ∨ v.kind = 2 then
    if sEq v.text ByteArray.empty = false then 3 else if (v.kind = 2 ∧ v.int ≠ 0 ∧ v.int ≠ 1) ∨ v.int < -1000000000000 ∨ v.int > 1000000000000 then 1 else 0
  else if v.kind = 3 then if v.int ≠ 0 then 3 else if v.text.size > 24 then 2 else 0
  else 7

set_option maxHeartbeats 4000000 in
set_option maxRecDepth 4000 in
theorem compare_sat (a b : Val) : Sat Tryd.prog 23 [.agg (eVal a), .agg (eVal b)] (.v (oI (cmpV a b))) := by
  refine sat_of_body tyOk Tryd.func23 rfl (by kernel_rfl) ⟨Nat.le_of_ble_eq_true rfl, Nat.le_of_ble_eq_true rfl⟩ fun w0 m0 F0 => ?_
  simp only [Tryd.ntmps23, envOf, Nat.reduceAdd]
  repeat' (first
    | ((first
      | with_reducible refine AWP.regionL tyOk fun K hK => ?_
      | ((with_reducible first | refine GOn.isT ?_ ?_ | refine HOn.isT ?_ ?_ | refine pickK.isT ?_ ?_); focus (first | with_reducible rfl | with_reducible assumption | (simp only [NM, LN]; first | done | with_reducible assumption | omega)))
      | ((with_reducible first | refine GOn.isF ?_ ?_ | refine HOn.isF ?_ ?_ | refine pickK.isF ?_ ?_); focus (first | with_reducible rfl | with_reducible assumption | (simp only [NM, LN]; first | done | with_reducible assumption | omega)))
      | ((with_reducible first | refine GOn.split (fun h => ?_) (fun h => ?_) | refine HOn.split (fun h => ?_) (fun h => ?_) | refine pickK.split (fun h => ?_) (fun h => ?_)) <;> (try simp only [NM] at h))
      | with_reducible refine AWP.drawAll tyOk mixed 6 (by kernel_rfl) fun K hK => ?_
      | ((with_reducible refine CallJ.is ?_); (first | refine CallJ.pure (compareInts_sat _ _) ?_ | refine CallJ.pure (stringsCompare_sat _ _) ?_ | ((apply CallJ.lentI); (focus (simp -dsimp (disch := (first | omega | (simp only [LN]; omega))) only [go_sem, ↓reduceIte, seval]; rfl)); (focus (first | exact (compareInts_sat _ _) | exact (stringsCompare_sat _ _))))))
      | ((with_reducible refine CallH.is ?_); (first | refine CallH.intro (compareInts_sat _ _) ?_ | refine CallH.intro (stringsCompare_sat _ _) ?_))) <;> simp -dsimp (disch := (first | omega | (simp only [LN]; omega))) only [go_sem, ↓reduceIte, seval])
    | ((with_reducible refine hK _ ?_); clear hK K)
    | (with_reducible first | refine AWP.seq ?_ | refine thenQ_normal ?_ | refine AWP.block ?_ | refine AWP.skip ?_ | refine AWP.ret ?_ | refine thenQ_ret ?_ | refine blockQ_ret ?_ | refine AWP.exit ?_ | refine thenQ_exit ?_ | refine blockQ_normal ?_ | refine blockQ_exit ?_)
    | refine blockQ_exit_ne rfl ?_
    | (with_reducible refine And.intro (by (first | with_reducible rfl | with_reducible assumption | omega | (simp only [LN]; first | done | with_reducible rfl | omega) | (simp only [NM, LN]; first | done | with_reducible assumption | omega) | (and_intros <;> first | with_reducible assumption | omega | (simp only [LN]; omega)) | fail)) ?_)
    | ((with_reducible refine AWP.condG (T := TT) (b := ?_) ?_ ?_); rotate_left; exact rfl)
    | (with_reducible first | refine CondG.t ?_ | refine CondG.f ?_ | refine CondG.not ?_)
    | ((with_reducible refine CondG.isT ?_ ?_); focus (first | with_reducible rfl | with_reducible assumption | (simp only [NM, LN]; first | done | with_reducible assumption | omega)))
    | ((with_reducible refine CondG.isF ?_ ?_); focus (first | with_reducible rfl | with_reducible assumption | (simp only [NM, LN]; first | done | with_reducible assumption | omega)))
    | ((with_reducible refine CondG.split (fun h => ?_) (fun h => ?_)) <;> (try simp only [NM] at h)))
  all_goals simp -dsimp (disch := (first | omega | (simp only [LN]; omega))) only [retQ, Tryd.results23, resVals, cellRV, resOf, St.rest, St.freeze, RT, go_sem, ↓reduceIte, seval]
  all_goals simp_all [cmpV]

set_option maxHeartbeats 4000000 in
theorem validate_sat (v : Val) : Sat Tryd.prog 27 [.agg (eVal v)] (.v (oI (valE v))) := by
  refine sat_of_body tyOk Tryd.func27 rfl (by kernel_rfl) ⟨Nat.le_of_ble_eq_true rfl, Nat.le_of_ble_eq_true rfl⟩ fun w0 m0 F0 => ?_
  simp only [Tryd.ntmps27, envOf, Nat.reduceAdd]
  repeat' (first
    | ((first
      | with_reducible refine AWP.regionL tyOk fun K hK => ?_
      | ((with_reducible first | refine GOn.isT ?_ ?_ | refine HOn.isT ?_ ?_ | refine pickK.isT ?_ ?_); focus (first | with_reducible rfl | with_reducible assumption | (simp only [NM, LN]; first | done | with_reducible assumption | omega)))
      | ((with_reducible first | refine GOn.isF ?_ ?_ | refine HOn.isF ?_ ?_ | refine pickK.isF ?_ ?_); focus (first | with_reducible rfl | with_reducible assumption | (simp only [NM, LN]; first | done | with_reducible assumption | omega)))
      | ((with_reducible first | refine GOn.split (fun h => ?_) (fun h => ?_) | refine HOn.split (fun h => ?_) (fun h => ?_) | refine pickK.split (fun h => ?_) (fun h => ?_)) <;> (try simp only [NM] at h))
      | with_reducible refine AWP.drawAll tyOk mixed 6 (by kernel_rfl) fun K hK => ?_) <;> simp -dsimp (disch := (first | omega | (simp only [LN]; omega))) only [go_sem, ↓reduceIte, seval])
    | ((with_reducible refine hK _ ?_); clear hK K)
    | (with_reducible first | refine AWP.seq ?_ | refine thenQ_normal ?_ | refine AWP.block ?_ | refine AWP.skip ?_ | refine AWP.ret ?_ | refine thenQ_ret ?_ | refine blockQ_ret ?_ | refine AWP.exit ?_ | refine thenQ_exit ?_ | refine blockQ_normal ?_ | refine blockQ_exit ?_)
    | refine blockQ_exit_ne rfl ?_
    | (with_reducible refine And.intro (by (first | with_reducible rfl | with_reducible assumption | omega | (simp only [LN]; first | done | with_reducible rfl | omega) | (simp only [NM, LN]; first | done | with_reducible assumption | omega) | (and_intros <;> first | with_reducible assumption | omega | (simp only [LN]; omega)) | fail)) ?_)
    | ((with_reducible refine AWP.condG (T := TT) (b := ?_) ?_ ?_); rotate_left; exact rfl)
    | (with_reducible first | refine CondG.t ?_ | refine CondG.f ?_ | refine CondG.not ?_)
    | ((with_reducible refine CondG.isT ?_ ?_); focus (first | with_reducible rfl | with_reducible assumption | (simp only [NM, LN]; first | done | with_reducible assumption | omega)))
    | ((with_reducible refine CondG.isF ?_ ?_); focus (first | with_reducible rfl | with_reducible assumption | (simp only [NM, LN]; first | done | with_reducible assumption | omega)))
    | ((with_reducible refine CondG.split (fun h => ?_) (fun h => ?_)) <;> (try simp only [NM] at h)))
  all_goals simp -dsimp (disch := (first | omega | (simp only [LN]; omega))) only [retQ, Tryd.results27, resVals, cellRV, resOf, St.rest, St.freeze, RT, go_sem, ↓reduceIte, seval]
  all_goals simp_all [valE, sEq]
  all_goals omega

theorem integer_sat (n : Int) : Sat Tryd.prog 41 [oI n] (.v (.agg (eVal ⟨1, n, ByteArray.empty⟩))) := by
  refine sat_of_body tyOk Tryd.func41 rfl (by kernel_rfl) ⟨Nat.le_of_ble_eq_true rfl, Nat.le_of_ble_eq_true rfl⟩ fun w0 m0 F0 => ?_
  simp only [Tryd.ntmps41, envOf, Nat.reduceAdd]
  repeat' (first
    | ((first
      | with_reducible refine AWP.regionL tyOk fun K hK => ?_
      | ((with_reducible first | refine GOn.isT ?_ ?_ | refine HOn.isT ?_ ?_ | refine pickK.isT ?_ ?_); focus (first | with_reducible rfl | with_reducible assumption | (simp only [NM, LN]; first | done | with_reducible assumption | omega)))
      | ((with_reducible first | refine GOn.isF ?_ ?_ | refine HOn.isF ?_ ?_ | refine pickK.isF ?_ ?_); focus (first | with_reducible rfl | with_reducible assumption | (simp only [NM, LN]; first | done | with_reducible assumption | omega)))
      | ((with_reducible first | refine GOn.split (fun h => ?_) (fun h => ?_) | refine HOn.split (fun h => ?_) (fun h => ?_) | refine pickK.split (fun h => ?_) (fun h => ?_)) <;> (try simp only [NM] at h))
      | with_reducible refine AWP.drawAll tyOk mixed 6 (by kernel_rfl) fun K hK => ?_) <;> simp -dsimp (disch := (first | omega | (simp only [LN]; omega))) only [go_sem, ↓reduceIte, seval])
    | ((with_reducible refine hK _ ?_); clear hK K)
    | (with_reducible first | refine AWP.seq ?_ | refine thenQ_normal ?_ | refine AWP.block ?_ | refine AWP.skip ?_ | refine AWP.ret ?_ | refine thenQ_ret ?_ | refine blockQ_ret ?_ | refine AWP.exit ?_ | refine thenQ_exit ?_ | refine blockQ_normal ?_ | refine blockQ_exit ?_)
    | refine blockQ_exit_ne rfl ?_
    | (with_reducible refine And.intro (by (first | with_reducible rfl | with_reducible assumption | omega | (simp only [LN]; first | done | with_reducible rfl | omega) | (simp only [NM, LN]; first | done | with_reducible assumption | omega) | (and_intros <;> first | with_reducible assumption | omega | (simp only [LN]; omega)) | fail)) ?_)
    | ((with_reducible refine AWP.condG (T := TT) (b := ?_) ?_ ?_); rotate_left; exact rfl)
    | (with_reducible first | refine CondG.t ?_ | refine CondG.f ?_ | refine CondG.not ?_)
    | ((with_reducible refine CondG.isT ?_ ?_); focus (first | with_reducible rfl | with_reducible assumption | (simp only [NM, LN]; first | done | with_reducible assumption | omega)))
    | ((with_reducible refine CondG.isF ?_ ?_); focus (first | with_reducible rfl | with_reducible assumption | (simp only [NM, LN]; first | done | with_reducible assumption | omega)))
    | ((with_reducible refine CondG.split (fun h => ?_) (fun h => ?_)) <;> (try simp only [NM] at h)))
  simp -dsimp (disch := (first | omega | (simp only [LN]; omega))) only [retQ, Tryd.results41, resVals, cellRV, resOf, St.rest, St.freeze, RT, go_sem, ↓reduceIte, seval]
end Go.Bw

namespace Go.Bw
open Go.Proofs
attribute [local go_sem ↓] VOps_nil VOps_cons VOp_callJ VVal_callH VOps_guard GOn_tt GOn_ff GOn_tf GOn_ft GOn_not GOn_none HOn_none HOn_tt HOn_ff HOn_tf HOn_ft HOn_not VHead_nil VHead_cons VHead_guard VVal_move VVal_assign VVal_pickE pickK_true pickK_false VVal_not VVal_neg negK_int VVal_load loadK_fz loadK_ptr loadK_eptr VVal_fieldAddr VVal_field VVal_indexAddr idxK_sl idxK_ref VVal_index indexK_str VVal_extract VVal_binOp binK_one binK_agg VVal_build VVal_buildSlice VVal_makeFunc VVal_slice sliceK_str sliceK_sl sliceK_nil sliceK_ref VVal_slice3 VVal_nilCheck VVal_convert convKk_int convKk_str VVal_len VVal_max VVal_min VOp_assign assignK_int assignK_bool assignK_str assignK_clo assignK_sl assignK_nil assignK_ref assignK_agg assignK_fz assignK_ptr assignK_eptr assignK_any VOp_box VOp_alloc VOp_store storeK_ptr storeK_eptr VOp_buildSlice VOp_append appK_rr appK_rs appK_rn appK_ri appK_nr appK_ns appK_nn appK_ni appStd_eq VOp_copy copyK_ref VOp_clear clearK_ref VOp_cap VOp_eqNil VOp_move VOp_pick VOp_not VOp_neg VOp_load VOp_fieldAddr VOp_field VOp_indexAddr VOp_index VOp_extract VOp_binTmp VOp_binInt VOp_binStr VOp_build VOp_makeFunc VOp_slice VOp_nilCheck VOp_convert VOp_len VOp_max VOp_min mO_some mT_some pk_some pk_none look_cons del_cons
attribute [local go_sem] guardB gOf int_bne beq_true beq_false Bool.not_not gSlot pickK_true pickK_false negK_int loadK_fz loadK_ptr loadK_eptr idxK_sl idxK_ref indexK_str binK_one binK_agg sliceK_str sliceK_sl sliceK_nil sliceK_ref convKk_int convKk_str maxL minL assignK_int assignK_bool assignK_str assignK_clo assignK_sl assignK_nil assignK_ref assignK_agg assignK_fz assignK_ptr assignK_eptr assignK_any nilRow_eq takeRow_eq appended_eq storeK_ptr storeK_eptr store_mk appIn_eq appMk_eq marked_eq ovOut_nil ovOut_cons ovIn_nil ovIn_cons padRow_eq ysC capK_nil capK_ref ioSt_mk outB_nil outR_nil outB outR inB_nil inB_cons inR_nil inR_cons L.kl L.kl0 L.ids L.ids0 Option.getD_some evalO constA mO_some mT_some put_mk putO_some putO_none okD_some okD_none pk_some pk_none look_nil del_nil sput noBox_mk noRow_mk newBox_eq newRow0_eq St.killRow RowC.kill rowMap_mk rowOf ovAll ovAdd ovDel ovGet ovShift dstOf ysOf overlay_nil overlay_nil' overlay A.map V.map L.noPtr L.noPtr0 L.noRow L.noRow0 L.peek L.norm L.flat clos_int clos_bool clos_str clos_sl clos_nil clos_any clos_fz L.clos L.isFz L.kd moveL fieldOff eqCells eqCell eqOp oneOf boolOf intOfA tupOf vOf aggOf isPtrLike isSlice lenKind lenL nL elemTI loadV asV binL intBin intDivL shrL boolBin strBin boundN partCells fillL placesOf setL chunks repL capsOf capL callOf argsOf frzV_int frzV_bool frzV_str frzV_sl frzV_nil frzV_fz frzV_any frzV_own frzV_clo frzV_ref frzV_eptr frzV_ptr frzRow_nil frzRow_ov frzRs_nil frzRs_cons frzCs_nil frzCs_cons frzO_some frzO_none frzN_int frzN_bool frzN_str frzN_sl frzN_nil frzN_any frzN_own List.map_cons List.map_nil List.cons_append List.nil_append List.append_nil List.length_cons List.length_nil List.length_map List.length_append List.headD_cons List.tail_cons List.getElem?_cons_zero List.getElem?_cons_succ List.drop_zero List.drop_succ_cons List.drop_nil List.take_succ_cons List.take_zero List.take_nil List.take_length List.filter_cons List.filter_nil List.elem_cons List.elem_nil List.all_cons List.all_nil Option.bind_some Option.map_some Option.some.injEq bne_self_eq_false beq_self_eq_true if_true if_false Bool.false_eq_true true_and and_true and_self Nat.zero_add Nat.add_zero Nat.zero_le Int.toNat_natCast Int.toNat_zero Option.isSome_some List.getElem?_toArray decide_true decide_false ge_iff_le gt_iff_lt Bool.not_true Bool.not_false Nat.le_refl Bool.and_true Bool.true_and Bool.and_false Bool.false_and eVal eRow eRow1 eRows eInt1 eInts eCol eCols eTbl eTbls eFK eFKs eCon eCons eSch eRel eInst eChg eChgs szOf getD_map_lt wrap_nat wrap_in List.take_of_length_le frz_eVal frz_eRow1 frz_eInt1 frz_eCol frz_eTbl frz_eFK frz_eCon frz_eRel frz_eChg noOwn_nil noOwn_cons noOwn_append L.isOwn noOwn_eVal noOwn_eRow1 noOwn_eInt1 noOwn_eCol noOwn_eTbl noOwn_eFK noOwn_eCon noOwn_eRel noOwn_eChg convK_2 convK_3 convK_5 convK_12 convK_21 convK_59 convK_163 convK_170 convK_176 convK_180 TT_2 TT_3 TT_4 TT_5 TT_9 TT_12 TT_13 TT_21 TT_22 TT_23 TT_24 TT_25 TT_26 TT_27 TT_28 TT_38 TT_39 TT_40 TT_41 TT_42 TT_45 TT_46 TT_47 TT_48 TT_49 TT_50 TT_51 TT_52 TT_59 TT_65 TT_66 TT_67 TT_68 TT_76 TT_77 TT_92 TT_93 TT_94 TT_114 TT_115 TT_132 TT_163 TT_170 TT_176 TT_180 TT_186 TT_187 TT_192 TT_193 boolTy_4 eqK_46 eqK_50 eqK_52 eqK_193
attribute [local congr] VOps.congr VHead.congr VOp.congr VVal.congr pk.congr assignK.congr appK.congr appStd.congr copyK.congr clearK.congr storeK.congr loadK.congr idxK.congr sliceK.congr indexK.congr binK.congr convKk.congr
open Go.Proofs Go.RowKit

theorem sat_of_calls {P : Program} {f : FuncId} {fn : Func} {c : Code} {xs : List V} {args : List Value} {v : Value} {r : A} (hf : P.funcs[f]? = some fn) (hb : fn.body = some c) (hn : (fn.name == "runtime.NumGoroutine") = false)
    (ha : ∀ m ω vs, ArgsRep m ω vs xs → vs = args) (hr : ∀ m ω, ARep m ω v r)
    (h : ∀ w, LaidW P w → Calls P f args.toArray w fun e w' => e = .returned v ∧ Below w.heap.size w w') : Sat P f xs r := by
  refine ⟨fun m w vs ω hC hA => ?_⟩
  have e := ha _ _ _ hA
  subst e
  refine .inr ⟨?_, (h w (hC.good w (Keeps.refl _ _))).mono fun e w' ⟨he, hw⟩ => ⟨v, he, m, ω, hC.grow hw (Mem.le_refl m) (fun _ _ => rfl) (fun x u hx => (hw.cell (World.block_lt_of_cell? w x (hC.ok x u hx))).trans (hC.ok x u hx)), hr m ω⟩⟩
  simp only [callFunc, Sem.run_bind, program, Sem.run, Result.andThen_ok, hf]
  rw [hn, hb]
  simp
theorem args1 {m : Mem} {ω : Wh} {vs : List Value} {l : L} {u : Value} (hA : ArgsRep m ω vs [.one l]) (h : ∀ v, ERep m ω v l → v = u) : vs = [u] := by
  obtain ⟨h1, h2⟩ := hA
  obtain ⟨v, h3, h4⟩ := h2 0 (.one l) rfl
  match vs, h1, h3 with
  | [x], _, h3 =>
    simp only [List.getElem?_cons_zero, Option.some.injEq] at h3
    subst h3
    rw [h x h4]
theorem erep_int {m : Mem} {ω : Wh} {v : Value} {k : IntKind} {n : Int} (h : ERep m ω v (.int k n)) : v = .int k n := by
  have h : Rep m v (.int k n) := h
  cases h; rfl
/-- The decimal text of a number. -/
def itoaB (n : Int) : ByteArray := ⟨(Lib.itoa n).toArray⟩
theorem itoa_sat (n : Int) (h0 : -9223372036854775808 ≤ n) (h1 : n ≤ 9223372036854775807) : Sat Tryd.prog 49 [.one (.int .i64 n)] (.v (.one (.str (itoaB n)))) :=
  sat_of_calls (args := [.int .i64 n]) (v := .string (itoaB n)) Tryd.func49 rfl (by kernel_rfl) (fun m ω vs hA => args1 hA fun v h => erep_int h) (fun m ω => Rep.str _) fun w hw =>
    (Tryd.strconv_Itoa n h0 h1 w (hw.pow (by kernel_rfl))).mono fun e w' ⟨he, k, os, hk⟩ => ⟨he, hk ▸ Lib.below_grow _ w (Nat.le_refl _) k os⟩
end Go.Bw

namespace Go.Bw
open Go.Proofs
attribute [local go_sem ↓] VOps_nil VOps_cons VOp_callJ VVal_callH VOps_guard GOn_tt GOn_ff GOn_tf GOn_ft GOn_not GOn_none HOn_none HOn_tt HOn_ff HOn_tf HOn_ft HOn_not VHead_nil VHead_cons VHead_guard VVal_move VVal_assign VVal_pickE pickK_true pickK_false VVal_not VVal_neg negK_int VVal_load loadK_fz loadK_ptr loadK_eptr VVal_fieldAddr VVal_field VVal_indexAddr idxK_sl idxK_ref VVal_index indexK_str VVal_extract VVal_binOp binK_one binK_agg VVal_build VVal_buildSlice VVal_makeFunc VVal_slice sliceK_str sliceK_sl sliceK_nil sliceK_ref VVal_slice3 VVal_nilCheck VVal_convert convKk_int convKk_str VVal_len VVal_max VVal_min VOp_assign assignK_int assignK_bool assignK_str assignK_clo assignK_sl assignK_nil assignK_ref assignK_agg assignK_fz assignK_ptr assignK_eptr assignK_any VOp_box VOp_alloc VOp_store storeK_ptr storeK_eptr VOp_buildSlice VOp_append appK_rr appK_rs appK_rn appK_ri appK_nr appK_ns appK_nn appK_ni appStd_eq VOp_copy copyK_ref VOp_clear clearK_ref VOp_cap VOp_eqNil VOp_move VOp_pick VOp_not VOp_neg VOp_load VOp_fieldAddr VOp_field VOp_indexAddr VOp_index VOp_extract VOp_binTmp VOp_binInt VOp_binStr VOp_build VOp_makeFunc VOp_slice VOp_nilCheck VOp_convert VOp_len VOp_max VOp_min mO_some mT_some pk_some pk_none look_cons del_cons
attribute [local go_sem] guardB gOf int_bne beq_true beq_false Bool.not_not gSlot pickK_true pickK_false negK_int loadK_fz loadK_ptr loadK_eptr idxK_sl idxK_ref indexK_str binK_one binK_agg sliceK_str sliceK_sl sliceK_nil sliceK_ref convKk_int convKk_str maxL minL assignK_int assignK_bool assignK_str assignK_clo assignK_sl assignK_nil assignK_ref assignK_agg assignK_fz assignK_ptr assignK_eptr assignK_any nilRow_eq takeRow_eq appended_eq storeK_ptr storeK_eptr store_mk appIn_eq appMk_eq marked_eq ovOut_nil ovOut_cons ovIn_nil ovIn_cons padRow_eq ysC capK_nil capK_ref ioSt_mk outB_nil outR_nil outB outR inB_nil inB_cons inR_nil inR_cons L.kl L.kl0 L.ids L.ids0 Option.getD_some evalO constA mO_some mT_some put_mk putO_some putO_none okD_some okD_none pk_some pk_none look_nil del_nil sput noBox_mk noRow_mk newBox_eq newRow0_eq St.killRow RowC.kill rowMap_mk rowOf ovAll ovAdd ovDel ovGet ovShift dstOf ysOf overlay_nil overlay_nil' overlay A.map V.map L.noPtr L.noPtr0 L.noRow L.noRow0 L.peek L.norm L.flat clos_int clos_bool clos_str clos_sl clos_nil clos_any clos_fz L.clos L.isFz L.kd moveL fieldOff eqCells eqCell eqOp oneOf boolOf intOfA tupOf vOf aggOf isPtrLike isSlice lenKind lenL nL elemTI loadV asV binL intBin intDivL shrL boolBin strBin boundN partCells fillL placesOf setL chunks repL capsOf capL callOf argsOf frzV_int frzV_bool frzV_str frzV_sl frzV_nil frzV_fz frzV_any frzV_own frzV_clo frzV_ref frzV_eptr frzV_ptr frzRow_nil frzRow_ov frzRs_nil frzRs_cons frzCs_nil frzCs_cons frzO_some frzO_none frzN_int frzN_bool frzN_str frzN_sl frzN_nil frzN_any frzN_own List.map_cons List.map_nil List.cons_append List.nil_append List.append_nil List.length_cons List.length_nil List.length_map List.length_append List.headD_cons List.tail_cons List.getElem?_cons_zero List.getElem?_cons_succ List.drop_zero List.drop_succ_cons List.drop_nil List.take_succ_cons List.take_zero List.take_nil List.take_length List.filter_cons List.filter_nil List.elem_cons List.elem_nil List.all_cons List.all_nil Option.bind_some Option.map_some Option.some.injEq bne_self_eq_false beq_self_eq_true if_true if_false Bool.false_eq_true true_and and_true and_self Nat.zero_add Nat.add_zero Nat.zero_le Int.toNat_natCast Int.toNat_zero Option.isSome_some List.getElem?_toArray decide_true decide_false ge_iff_le gt_iff_lt Bool.not_true Bool.not_false Nat.le_refl Bool.and_true Bool.true_and Bool.and_false Bool.false_and eVal eRow eRow1 eRows eInt1 eInts eCol eCols eTbl eTbls eFK eFKs eCon eCons eSch eRel eInst eChg eChgs szOf getD_map_lt wrap_nat wrap_in List.take_of_length_le frz_eVal frz_eRow1 frz_eInt1 frz_eCol frz_eTbl frz_eFK frz_eCon frz_eRel frz_eChg noOwn_nil noOwn_cons noOwn_append L.isOwn noOwn_eVal noOwn_eRow1 noOwn_eInt1 noOwn_eCol noOwn_eTbl noOwn_eFK noOwn_eCon noOwn_eRel noOwn_eChg convK_2 convK_3 convK_5 convK_12 convK_21 convK_59 convK_163 convK_170 convK_176 convK_180 TT_2 TT_3 TT_4 TT_5 TT_9 TT_12 TT_13 TT_21 TT_22 TT_23 TT_24 TT_25 TT_26 TT_27 TT_28 TT_38 TT_39 TT_40 TT_41 TT_42 TT_45 TT_46 TT_47 TT_48 TT_49 TT_50 TT_51 TT_52 TT_59 TT_65 TT_66 TT_67 TT_68 TT_76 TT_77 TT_92 TT_93 TT_94 TT_114 TT_115 TT_132 TT_163 TT_170 TT_176 TT_180 TT_186 TT_187 TT_192 TT_193 boolTy_4 eqK_46 eqK_50 eqK_52 eqK_193
attribute [local congr] VOps.congr VHead.congr VOp.congr VVal.congr pk.congr assignK.congr appK.congr appStd.congr copyK.congr clearK.congr storeK.congr loadK.congr idxK.congr sliceK.congr indexK.congr binK.congr convKk.congr
set_option maxHeartbeats 4000000 in
theorem satisfies_sat (a b : Val) (op : ByteArray) : Sat Tryd.prog 28 [.agg (eVal a), oS op, .agg (eVal b)] (.tup [oB (satV a op b), oI (satE op)]) := by
  refine sat_of_body tyOk Tryd.func28 rfl (by kernel_rfl) ⟨Nat.le_of_ble_eq_true rfl, Nat.le_of_ble_eq_true rfl⟩ fun w0 m0 F0 => ?_
  simp only [Tryd.ntmps28, envOf, Nat.reduceAdd]
  repeat' (first
    | ((first
      | with_reducible refine AWP.regionL tyOk fun K hK => ?_
      | ((with_reducible first | refine GOn.isT ?_ ?_ | refine HOn.isT ?_ ?_ | refine pickK.isT ?_ ?_); focus (first | with_reducible rfl | with_reducible assumption | (simp only [NM, LN]; first | done | with_reducible assumption | omega)))
      | ((with_reducible first | refine GOn.isF ?_ ?_ | refine HOn.isF ?_ ?_ | refine pickK.isF ?_ ?_); focus (first | with_reducible rfl | with_reducible assumption | (simp only [NM, LN]; first | done | with_reducible assumption | omega)))
      | ((with_reducible first | refine GOn.split (fun h => ?_) (fun h => ?_) | refine HOn.split (fun h => ?_) (fun h => ?_) | refine pickK.split (fun h => ?_) (fun h => ?_)) <;> (try simp only [NM] at h))
      | with_reducible refine AWP.drawAll tyOk mixed 6 (by kernel_rfl) fun K hK => ?_
      | ((with_reducible refine CallJ.is ?_); (first | refine CallJ.pure (compare_sat _ _) ?_ | ((apply CallJ.lentI); (focus (simp -dsimp (disch := (first | omega | (simp only [LN]; omega))) only [go_sem, ↓reduceIte, seval]; rfl)); (focus (first | exact (compare_sat _ _))))))
      | ((with_reducible refine CallH.is ?_); (first | refine CallH.intro (compare_sat _ _) ?_))) <;> simp -dsimp (disch := (first | omega | (simp only [LN]; omega))) only [go_sem, ↓reduceIte, seval])
    | ((with_reducible refine hK _ ?_); clear hK K)
    | (with_reducible first | refine AWP.seq ?_ | refine thenQ_normal ?_ | refine AWP.block ?_ | refine AWP.skip ?_ | refine AWP.ret ?_ | refine thenQ_ret ?_ | refine blockQ_ret ?_ | refine AWP.exit ?_ | refine thenQ_exit ?_ | refine blockQ_normal ?_ | refine blockQ_exit ?_)
    | refine blockQ_exit_ne rfl ?_
    | (with_reducible refine And.intro (by (first | with_reducible rfl | with_reducible assumption | omega | (simp only [LN]; first | done | with_reducible rfl | omega) | (simp only [NM, LN]; first | done | with_reducible assumption | omega) | (and_intros <;> first | with_reducible assumption | omega | (simp only [LN]; omega)) | fail)) ?_)
    | ((with_reducible refine AWP.condG (T := TT) (b := ?_) ?_ ?_); rotate_left; exact rfl)
    | (with_reducible first | refine CondG.t ?_ | refine CondG.f ?_ | refine CondG.not ?_)
    | ((with_reducible refine CondG.isT ?_ ?_); focus (first | with_reducible rfl | with_reducible assumption | (simp only [NM, LN]; first | done | with_reducible assumption | omega)))
    | ((with_reducible refine CondG.isF ?_ ?_); focus (first | with_reducible rfl | with_reducible assumption | (simp only [NM, LN]; first | done | with_reducible assumption | omega)))
    | ((with_reducible refine CondG.split (fun h => ?_) (fun h => ?_)) <;> (try simp only [NM] at h)))
  all_goals try simp -dsimp (disch := (first | omega | (simp only [LN]; omega))) only [retQ, Tryd.results28, resVals, cellRV, resOf, St.rest, St.freeze, RT, go_sem, ↓reduceIte, seval]
  all_goals try simp_all [satV, satE, sEq, opOk, opEq, opLt, opLe]
end Go.Bw

namespace Go.Bw
open Go.Proofs
theorem toList_inj {a b : ByteArray} (h : a.toList = b.toList) : a = b := by
  rw [ByteArray.toList_eq, ByteArray.toList_eq] at h
  cases a; cases b
  simp only at h
  congr 1
  exact Array.ext' h
/-- A comparison: zero says one and the same; turned round it is the negative; it is transitive. -/
structure IsCmp {α : Type} (c : α → α → Int) : Prop where
  eq0 : ∀ a b, c a b = 0 ↔ a = b
  anti : ∀ a b, c a b = -(c b a)
  trans : ∀ x y z, c x y < 0 → c y z < 0 → c x z < 0
theorem IsCmp.refl {α : Type} {c : α → α → Int} (h : IsCmp c) (a : α) : c a a = 0 := (h.eq0 a a).2 rfl
theorem cmpInts_is : IsCmp cmpInts := by
  refine ⟨fun a b => ?_, fun a b => ?_, fun x y z => ?_⟩ <;> unfold cmpInts <;> (repeat' split) <;> omega
theorem cmpL_is : IsCmp Lib.compareBytes := by
  refine ⟨fun a => ?_, fun a => ?_, fun a => ?_⟩
  · induction a with
    | nil => intro b; cases b <;> simp [Lib.compareBytes]
    | cons x a ih =>
      intro b
      cases b with
      | nil => simp [Lib.compareBytes]
      | cons y b =>
        simp only [Lib.compareBytes, List.cons.injEq]
        have := ih b
        have hxy : x = y ↔ x.toNat = y.toNat := ⟨fun h => by rw [h], fun h => UInt8.toNat_inj.1 h⟩
        simp only [UInt8.lt_iff_toNat_lt] at *
        (repeat' split) <;> simp_all <;> omega
  · induction a with
    | nil => intro b; cases b <;> simp [Lib.compareBytes]
    | cons x a ih =>
      intro b
      cases b with
      | nil => simp [Lib.compareBytes]
      | cons y b =>
        simp only [Lib.compareBytes]
        have := ih b
        simp only [UInt8.lt_iff_toNat_lt] at *
        (repeat' split) <;> simp_all <;> omega
  · induction a with
    | nil =>
      intro y z h1 h2
      cases y <;> cases z <;> simp_all [Lib.compareBytes]
    | cons x a ih =>
      intro b c h1 h2
      cases b with
      | nil => simp [Lib.compareBytes] at h1
      | cons y b =>
        cases c with
        | nil => simp [Lib.compareBytes] at h2
        | cons z c =>
          simp only [Lib.compareBytes] at *
          have := ih b c
          simp only [UInt8.lt_iff_toNat_lt] at *
          (repeat' split) <;> (repeat' split at h1) <;> (repeat' split at h2) <;> simp_all <;> omega
theorem cmpS_is : IsCmp cmpS := by
  refine ⟨fun a b => ?_, fun a b => cmpL_is.anti _ _, fun x y z => cmpL_is.trans _ _ _⟩
  unfold cmpS
  rw [cmpL_is.eq0]
  exact ⟨fun h => toList_inj (by rw [ByteArray.toList_eq, ByteArray.toList_eq]; exact h), fun h => by rw [h]⟩
/-- First one, then the other. -/
def lexC {α β γ : Type} (f : γ → α) (g : γ → β) (c : α → α → Int) (d : β → β → Int) (x y : γ) : Int := if c (f x) (f y) ≠ 0 then c (f x) (f y) else d (g x) (g y)
theorem lexC_is {α β γ : Type} {f : γ → α} {g : γ → β} {c : α → α → Int} {d : β → β → Int} (hc : IsCmp c) (hd : IsCmp d) (hi : ∀ x y, f x = f y → g x = g y → x = y) : IsCmp (lexC f g c d) := by
  refine ⟨fun a b => ?_, fun a b => ?_, fun x y z h1 h2 => ?_⟩
  · unfold lexC
    have h1 := hc.eq0 (f a) (f b)
    have h2 := hd.eq0 (g a) (g b)
    split
    · rename_i h
      exact ⟨fun e => absurd e h, fun e => by rw [e] at h; exact absurd (hc.refl _) h⟩
    · rename_i h
      have h : c (f a) (f b) = 0 := by simpa using h
      rw [h2]
      exact ⟨fun e => hi a b (h1.1 h) e, fun e => by rw [e]⟩
  · unfold lexC
    have h1 := hc.anti (f a) (f b)
    have h2 := hd.anti (g a) (g b)
    split <;> split <;> omega
  · unfold lexC at *
    by_cases e1 : c (f x) (f y) = 0
    · have e1' := (hc.eq0 _ _).1 e1
      rw [if_neg (by simp [e1])] at h1
      rw [e1']
      by_cases e2 : c (f y) (f z) = 0
      · rw [if_neg (by simp [e2])] at h2 ⊢
        exact hd.trans _ _ _ h1 h2
      · rw [if_pos e2] at h2 ⊢
        exact h2
    · rw [if_pos e1] at h1
      by_cases e2 : c (f y) (f z) = 0
      · rw [← (hc.eq0 _ _).1 e2, if_pos e1]
        exact h1
      · rw [if_pos e2] at h2
        have h3 := hc.trans _ _ _ h1 h2
        rw [if_pos (by omega)]
        exact h3
theorem cmpV_is : IsCmp cmpV := by
  have h1 : IsCmp (lexC (γ := Val) Val.kind (fun v => (v.int, v.text)) cmpInts (lexC Prod.fst Prod.snd cmpInts cmpS)) :=
    lexC_is cmpInts_is (lexC_is cmpInts_is cmpS_is fun x y h1 h2 => Prod.ext h1 h2) fun x y h1 h2 => by
      cases x; cases y
      simp only [Prod.mk.injEq] at h1 h2
      simp [h1, h2.1, h2.2]
  exact h1
end Go.Bw

namespace Go.Bw
open Go.Proofs
attribute [local go_sem ↓] VOps_nil VOps_cons VOp_callJ VVal_callH VOps_guard GOn_tt GOn_ff GOn_tf GOn_ft GOn_not GOn_none HOn_none HOn_tt HOn_ff HOn_tf HOn_ft HOn_not VHead_nil VHead_cons VHead_guard VVal_move VVal_assign VVal_pickE pickK_true pickK_false VVal_not VVal_neg negK_int VVal_load loadK_fz loadK_ptr loadK_eptr VVal_fieldAddr VVal_field VVal_indexAddr idxK_sl idxK_ref VVal_index indexK_str VVal_extract VVal_binOp binK_one binK_agg VVal_build VVal_buildSlice VVal_makeFunc VVal_slice sliceK_str sliceK_sl sliceK_nil sliceK_ref VVal_slice3 VVal_nilCheck VVal_convert convKk_int convKk_str VVal_len VVal_max VVal_min VOp_assign assignK_int assignK_bool assignK_str assignK_clo assignK_sl assignK_nil assignK_ref assignK_agg assignK_fz assignK_ptr assignK_eptr assignK_any VOp_box VOp_alloc VOp_store storeK_ptr storeK_eptr VOp_buildSlice VOp_append appK_rr appK_rs appK_rn appK_ri appK_nr appK_ns appK_nn appK_ni appStd_eq VOp_copy copyK_ref VOp_clear clearK_ref VOp_cap VOp_eqNil VOp_move VOp_pick VOp_not VOp_neg VOp_load VOp_fieldAddr VOp_field VOp_indexAddr VOp_index VOp_extract VOp_binTmp VOp_binInt VOp_binStr VOp_build VOp_makeFunc VOp_slice VOp_nilCheck VOp_convert VOp_len VOp_max VOp_min mO_some mT_some pk_some pk_none look_cons del_cons
attribute [local go_sem] guardB gOf int_bne beq_true beq_false Bool.not_not gSlot pickK_true pickK_false negK_int loadK_fz loadK_ptr loadK_eptr idxK_sl idxK_ref indexK_str binK_one binK_agg sliceK_str sliceK_sl sliceK_nil sliceK_ref convKk_int convKk_str maxL minL assignK_int assignK_bool assignK_str assignK_clo assignK_sl assignK_nil assignK_ref assignK_agg assignK_fz assignK_ptr assignK_eptr assignK_any nilRow_eq takeRow_eq appended_eq storeK_ptr storeK_eptr store_mk appIn_eq appMk_eq marked_eq ovOut_nil ovOut_cons ovIn_nil ovIn_cons padRow_eq ysC capK_nil capK_ref ioSt_mk outB_nil outR_nil outB outR inB_nil inB_cons inR_nil inR_cons L.kl L.kl0 L.ids L.ids0 Option.getD_some evalO constA mO_some mT_some put_mk putO_some putO_none okD_some okD_none pk_some pk_none look_nil del_nil sput noBox_mk noRow_mk newBox_eq newRow0_eq St.killRow RowC.kill rowMap_mk rowOf ovAll ovAdd ovDel ovGet ovShift dstOf ysOf overlay_nil overlay_nil' overlay A.map V.map L.noPtr L.noPtr0 L.noRow L.noRow0 L.peek L.norm L.flat clos_int clos_bool clos_str clos_sl clos_nil clos_any clos_fz L.clos L.isFz L.kd moveL fieldOff eqCells eqCell eqOp oneOf boolOf intOfA tupOf vOf aggOf isPtrLike isSlice lenKind lenL nL elemTI loadV asV binL intBin intDivL shrL boolBin strBin boundN partCells fillL placesOf setL chunks repL capsOf capL callOf argsOf frzV_int frzV_bool frzV_str frzV_sl frzV_nil frzV_fz frzV_any frzV_own frzV_clo frzV_ref frzV_eptr frzV_ptr frzRow_nil frzRow_ov frzRs_nil frzRs_cons frzCs_nil frzCs_cons frzO_some frzO_none frzN_int frzN_bool frzN_str frzN_sl frzN_nil frzN_any frzN_own List.map_cons List.map_nil List.cons_append List.nil_append List.append_nil List.length_cons List.length_nil List.length_map List.length_append List.headD_cons List.tail_cons List.getElem?_cons_zero List.getElem?_cons_succ List.drop_zero List.drop_succ_cons List.drop_nil List.take_succ_cons List.take_zero List.take_nil List.take_length List.filter_cons List.filter_nil List.elem_cons List.elem_nil List.all_cons List.all_nil Option.bind_some Option.map_some Option.some.injEq bne_self_eq_false beq_self_eq_true if_true if_false Bool.false_eq_true true_and and_true and_self Nat.zero_add Nat.add_zero Nat.zero_le Int.toNat_natCast Int.toNat_zero Option.isSome_some List.getElem?_toArray decide_true decide_false ge_iff_le gt_iff_lt Bool.not_true Bool.not_false Nat.le_refl Bool.and_true Bool.true_and Bool.and_false Bool.false_and eVal eRow eRow1 eRows eInt1 eInts eCol eCols eTbl eTbls eFK eFKs eCon eCons eSch eRel eInst eChg eChgs szOf getD_map_lt wrap_nat wrap_in List.take_of_length_le frz_eVal frz_eRow1 frz_eInt1 frz_eCol frz_eTbl frz_eFK frz_eCon frz_eRel frz_eChg noOwn_nil noOwn_cons noOwn_append L.isOwn noOwn_eVal noOwn_eRow1 noOwn_eInt1 noOwn_eCol noOwn_eTbl noOwn_eFK noOwn_eCon noOwn_eRel noOwn_eChg convK_2 convK_3 convK_5 convK_12 convK_21 convK_59 convK_163 convK_170 convK_176 convK_180 TT_2 TT_3 TT_4 TT_5 TT_9 TT_12 TT_13 TT_21 TT_22 TT_23 TT_24 TT_25 TT_26 TT_27 TT_28 TT_38 TT_39 TT_40 TT_41 TT_42 TT_45 TT_46 TT_47 TT_48 TT_49 TT_50 TT_51 TT_52 TT_59 TT_65 TT_66 TT_67 TT_68 TT_76 TT_77 TT_92 TT_93 TT_94 TT_114 TT_115 TT_132 TT_163 TT_170 TT_176 TT_180 TT_186 TT_187 TT_192 TT_193 boolTy_4 eqK_46 eqK_50 eqK_52 eqK_193
attribute [local congr] VOps.congr VHead.congr VOp.congr VVal.congr pk.congr assignK.congr appK.congr appStd.congr copyK.congr clearK.congr storeK.congr loadK.congr idxK.congr sliceK.congr indexK.congr binK.congr convKk.congr
theorem less_sat (a b : Val) : Sat Tryd.prog 25 [.agg (eVal a), .agg (eVal b)] (.v (oB (decide (cmpV a b < 0)))) := by
  refine sat_of_body tyOk Tryd.func25 rfl (by kernel_rfl) ⟨Nat.le_of_ble_eq_true rfl, Nat.le_of_ble_eq_true rfl⟩ fun w0 m0 F0 => ?_
  simp only [Tryd.ntmps25, envOf, Nat.reduceAdd]
  repeat' (first
    | ((first
      | with_reducible refine AWP.regionL tyOk fun K hK => ?_
      | ((with_reducible first | refine GOn.isT ?_ ?_ | refine HOn.isT ?_ ?_ | refine pickK.isT ?_ ?_); focus (first | with_reducible rfl | with_reducible assumption | (simp only [NM, LN]; first | done | with_reducible assumption | omega)))
      | ((with_reducible first | refine GOn.isF ?_ ?_ | refine HOn.isF ?_ ?_ | refine pickK.isF ?_ ?_); focus (first | with_reducible rfl | with_reducible assumption | (simp only [NM, LN]; first | done | with_reducible assumption | omega)))
      | ((with_reducible first | refine GOn.split (fun h => ?_) (fun h => ?_) | refine HOn.split (fun h => ?_) (fun h => ?_) | refine pickK.split (fun h => ?_) (fun h => ?_)) <;> (try simp only [NM] at h))
      | with_reducible refine AWP.drawAll tyOk mixed 6 (by kernel_rfl) fun K hK => ?_
      | ((with_reducible refine CallJ.is ?_); (first | refine CallJ.pure (compare_sat a b) ?_ | ((apply CallJ.lentI); (focus (simp -dsimp (disch := (first | omega | (simp only [LN]; omega))) only [go_sem, ↓reduceIte, seval]; rfl)); (focus (first | exact (compare_sat a b))))))
      | ((with_reducible refine CallH.is ?_); (first | refine CallH.intro (compare_sat a b) ?_))) <;> simp -dsimp (disch := (first | omega | (simp only [LN]; omega))) only [go_sem, ↓reduceIte, seval])
    | ((with_reducible refine hK _ ?_); clear hK K)
    | (with_reducible first | refine AWP.seq ?_ | refine thenQ_normal ?_ | refine AWP.block ?_ | refine AWP.skip ?_ | refine AWP.ret ?_ | refine thenQ_ret ?_ | refine blockQ_ret ?_ | refine AWP.exit ?_ | refine thenQ_exit ?_ | refine blockQ_normal ?_ | refine blockQ_exit ?_)
    | refine blockQ_exit_ne rfl ?_
    | (with_reducible refine And.intro (by (first | with_reducible rfl | with_reducible assumption | omega | (simp only [LN]; first | done | with_reducible rfl | omega) | (simp only [NM, LN]; first | done | with_reducible assumption | omega) | (and_intros <;> first | with_reducible assumption | omega | (simp only [LN]; omega)) | fail)) ?_)
    | ((with_reducible refine AWP.condG (T := TT) (b := ?_) ?_ ?_); rotate_left; exact rfl)
    | (with_reducible first | refine CondG.t ?_ | refine CondG.f ?_ | refine CondG.not ?_)
    | ((with_reducible refine CondG.isT ?_ ?_); focus (first | with_reducible rfl | with_reducible assumption | (simp only [NM, LN]; first | done | with_reducible assumption | omega)))
    | ((with_reducible refine CondG.isF ?_ ?_); focus (first | with_reducible rfl | with_reducible assumption | (simp only [NM, LN]; first | done | with_reducible assumption | omega)))
    | ((with_reducible refine CondG.split (fun h => ?_) (fun h => ?_)) <;> (try simp only [NM] at h)))
  simp -dsimp (disch := (first | omega | (simp only [LN]; omega))) only [retQ, Tryd.results25, resVals, cellRV, resOf, St.rest, St.freeze, RT, go_sem, ↓reduceIte, seval]

def t12 : ByteArray := ⟨#[49, 50]⟩
theorem itoa12 : itoaB 12 = t12 := by kernel_rfl
set_option maxHeartbeats 4000000 in
theorem convert12_sat : Sat Tryd.prog 26 [.agg (eVal ⟨1, 12, ByteArray.empty⟩), oI 3] (.tup [.agg (eVal ⟨3, 0, t12⟩), oB true]) := by
  have hv : valE ⟨1, 12, ByteArray.empty⟩ = 0 := by kernel_rfl
  have hi := itoa_sat 12 (by omega) (by omega)
  rw [itoa12] at hi
  refine sat_of_body tyOk Tryd.func26 rfl (by kernel_rfl) ⟨Nat.le_of_ble_eq_true rfl, Nat.le_of_ble_eq_true rfl⟩ fun w0 m0 F0 => ?_
  simp only [Tryd.ntmps26, envOf, Nat.reduceAdd]
  repeat' (first
    | ((first
      | with_reducible refine AWP.regionL tyOk fun K hK => ?_
      | ((with_reducible first | refine GOn.isT ?_ ?_ | refine HOn.isT ?_ ?_ | refine pickK.isT ?_ ?_); focus (first | with_reducible rfl | with_reducible assumption | (simp only [NM, LN]; first | done | with_reducible assumption | omega)))
      | ((with_reducible first | refine GOn.isF ?_ ?_ | refine HOn.isF ?_ ?_ | refine pickK.isF ?_ ?_); focus (first | with_reducible rfl | with_reducible assumption | (simp only [NM, LN]; first | done | with_reducible assumption | omega)))
      | ((with_reducible first | refine GOn.split (fun h => ?_) (fun h => ?_) | refine HOn.split (fun h => ?_) (fun h => ?_) | refine pickK.split (fun h => ?_) (fun h => ?_)) <;> (try simp only [NM] at h))
      | with_reducible refine AWP.drawAll tyOk mixed 6 (by kernel_rfl) fun K hK => ?_
      | ((with_reducible refine CallJ.is ?_); (first | refine CallJ.pure (validate_sat ⟨1, 12, ByteArray.empty⟩) ?_ | refine CallJ.pure (hi) ?_ | ((apply CallJ.lentI); (focus (simp -dsimp (disch := (first | omega | (simp only [LN]; omega))) only [go_sem, ↓reduceIte, seval, hv]; rfl)); (focus (first | exact (validate_sat ⟨1, 12, ByteArray.empty⟩) | exact (hi))))))
      | ((with_reducible refine CallH.is ?_); (first | refine CallH.intro (validate_sat ⟨1, 12, ByteArray.empty⟩) ?_ | refine CallH.intro (hi) ?_))) <;> simp -dsimp (disch := (first | omega | (simp only [LN]; omega))) only [go_sem, ↓reduceIte, seval, hv])
    | ((with_reducible refine hK _ ?_); clear hK K)
    | (with_reducible first | refine AWP.seq ?_ | refine thenQ_normal ?_ | refine AWP.block ?_ | refine AWP.skip ?_ | refine AWP.ret ?_ | refine thenQ_ret ?_ | refine blockQ_ret ?_ | refine AWP.exit ?_ | refine thenQ_exit ?_ | refine blockQ_normal ?_ | refine blockQ_exit ?_)
    | refine blockQ_exit_ne rfl ?_
    | (with_reducible refine And.intro (by (first | with_reducible rfl | with_reducible assumption | omega | (simp only [LN]; first | done | with_reducible rfl | omega) | (simp only [NM, LN]; first | done | with_reducible assumption | omega) | (and_intros <;> first | with_reducible assumption | omega | (simp only [LN]; omega)) | fail)) ?_)
    | ((with_reducible refine AWP.condG (T := TT) (b := ?_) ?_ ?_); rotate_left; exact rfl)
    | (with_reducible first | refine CondG.t ?_ | refine CondG.f ?_ | refine CondG.not ?_)
    | ((with_reducible refine CondG.isT ?_ ?_); focus (first | with_reducible rfl | with_reducible assumption | (simp only [NM, LN]; first | done | with_reducible assumption | omega)))
    | ((with_reducible refine CondG.isF ?_ ?_); focus (first | with_reducible rfl | with_reducible assumption | (simp only [NM, LN]; first | done | with_reducible assumption | omega)))
    | ((with_reducible refine CondG.split (fun h => ?_) (fun h => ?_)) <;> (try simp only [NM] at h)))
  simp -dsimp (disch := (first | omega | (simp only [LN]; omega))) only [retQ, Tryd.results26, resVals, cellRV, resOf, St.rest, St.freeze, RT, go_sem, ↓reduceIte, seval]
theorem less34_sat : Sat Tryd.prog 25 [.agg (eVal ⟨1, 3, ByteArray.empty⟩), .agg (eVal ⟨1, 4, ByteArray.empty⟩)] (.v (oB true)) := less_sat _ _
theorem less43_sat : Sat Tryd.prog 25 [.agg (eVal ⟨1, 4, ByteArray.empty⟩), .agg (eVal ⟨1, 3, ByteArray.empty⟩)] (.v (oB false)) := less_sat _ _
set_option maxHeartbeats 8000000 in
theorem valuesWork_sat : Sat Tryd.prog 24 [] (.v (oB true)) := by
  have ht : t12.toList = ({ data := #[49, 50] } : ByteArray).toList := rfl
  refine sat_of_body tyOk Tryd.func24 rfl (by kernel_rfl) ⟨Nat.le_of_ble_eq_true rfl, Nat.le_of_ble_eq_true rfl⟩ fun w0 m0 F0 => ?_
  simp only [Tryd.ntmps24, envOf, Nat.reduceAdd]
  repeat' (first
    | ((first
      | with_reducible refine AWP.regionL tyOk fun K hK => ?_
      | ((with_reducible first | refine GOn.isT ?_ ?_ | refine HOn.isT ?_ ?_ | refine pickK.isT ?_ ?_); focus (first | with_reducible rfl | with_reducible assumption | (simp only [NM, LN]; first | done | with_reducible assumption | omega)))
      | ((with_reducible first | refine GOn.isF ?_ ?_ | refine HOn.isF ?_ ?_ | refine pickK.isF ?_ ?_); focus (first | with_reducible rfl | with_reducible assumption | (simp only [NM, LN]; first | done | with_reducible assumption | omega)))
      | ((with_reducible first | refine GOn.split (fun h => ?_) (fun h => ?_) | refine HOn.split (fun h => ?_) (fun h => ?_) | refine pickK.split (fun h => ?_) (fun h => ?_)) <;> (try simp only [NM] at h))
      | with_reducible refine AWP.drawAll tyOk mixed 6 (by kernel_rfl) fun K hK => ?_
      | ((with_reducible refine CallJ.is ?_); (first | refine CallJ.pure (integer_sat 12) ?_ | refine CallJ.pure (convert12_sat) ?_ | refine CallJ.pure (integer_sat 3) ?_ | refine CallJ.pure (integer_sat 4) ?_ | refine CallJ.pure (less34_sat) ?_ | refine CallJ.pure (less43_sat) ?_ | ((apply CallJ.lentI); (focus (simp -dsimp (disch := (first | omega | (simp only [LN]; omega))) only [go_sem, ↓reduceIte, seval, ht, beq_self_eq_true]; rfl)); (focus (first | exact (integer_sat 12) | exact (convert12_sat) | exact (integer_sat 3) | exact (integer_sat 4) | exact (less34_sat) | exact (less43_sat))))))
      | ((with_reducible refine CallH.is ?_); (first | refine CallH.intro (integer_sat 12) ?_ | refine CallH.intro (convert12_sat) ?_ | refine CallH.intro (integer_sat 3) ?_ | refine CallH.intro (integer_sat 4) ?_ | refine CallH.intro (less34_sat) ?_ | refine CallH.intro (less43_sat) ?_))) <;> simp -dsimp (disch := (first | omega | (simp only [LN]; omega))) only [go_sem, ↓reduceIte, seval, ht, beq_self_eq_true])
    | ((with_reducible refine hK _ ?_); clear hK K)
    | (with_reducible first | refine AWP.seq ?_ | refine thenQ_normal ?_ | refine AWP.block ?_ | refine AWP.skip ?_ | refine AWP.ret ?_ | refine thenQ_ret ?_ | refine blockQ_ret ?_ | refine AWP.exit ?_ | refine thenQ_exit ?_ | refine blockQ_normal ?_ | refine blockQ_exit ?_)
    | refine blockQ_exit_ne rfl ?_
    | (with_reducible refine And.intro (by (first | with_reducible rfl | with_reducible assumption | omega | (simp only [LN]; first | done | with_reducible rfl | omega) | (simp only [NM, LN]; first | done | with_reducible assumption | omega) | (and_intros <;> first | with_reducible assumption | omega | (simp only [LN]; omega)) | fail)) ?_)
    | ((with_reducible refine AWP.condG (T := TT) (b := ?_) ?_ ?_); rotate_left; exact rfl)
    | (with_reducible first | refine CondG.t ?_ | refine CondG.f ?_ | refine CondG.not ?_)
    | ((with_reducible refine CondG.isT ?_ ?_); focus (first | with_reducible rfl | with_reducible assumption | (simp only [NM, LN]; first | done | with_reducible assumption | omega)))
    | ((with_reducible refine CondG.isF ?_ ?_); focus (first | with_reducible rfl | with_reducible assumption | (simp only [NM, LN]; first | done | with_reducible assumption | omega)))
    | ((with_reducible refine CondG.split (fun h => ?_) (fun h => ?_)) <;> (try simp only [NM] at h)))
  simp -dsimp (disch := (first | omega | (simp only [LN]; omega))) only [retQ, Tryd.results24, resVals, cellRV, resOf, St.rest, St.freeze, RT, go_sem, ↓reduceIte, seval]

theorem satV_ops (a b : Val) (ha : (a.kind == 0) = false) (hb : (b.kind == 0) = false) :
    satV a ⟨#[60]⟩ b = decide (cmpV a b < 0) ∧ satV a ⟨#[61]⟩ b = (cmpV a b == 0) ∧ satV a ⟨#[60, 61]⟩ b = (cmpV a b == 0 || decide (cmpV a b < 0)) ∧ satE ⟨#[60]⟩ = 0 ∧ satE ⟨#[61]⟩ = 0 ∧ satE ⟨#[60, 61]⟩ = 0 := by
  have o1 : opOk ⟨#[60]⟩ = true := by decide +kernel
  have o2 : opOk ⟨#[61]⟩ = true := by decide +kernel
  have o3 : opOk ⟨#[60, 61]⟩ = true := by decide +kernel
  have l1 : sEq ⟨#[60]⟩ opLt = true := by decide +kernel
  have l2 : sEq ⟨#[61]⟩ opLt = false := by decide +kernel
  have l3 : sEq ⟨#[60, 61]⟩ opLt = false := by decide +kernel
  have q1 : sEq ⟨#[60]⟩ opEq = false := by decide +kernel
  have q2 : sEq ⟨#[61]⟩ opEq = true := by decide +kernel
  have q3 : sEq ⟨#[60, 61]⟩ opEq = false := by decide +kernel
  refine ⟨?_, ?_, ?_, ?_, ?_, ?_⟩ <;> simp [satV, satE, o1, o2, o3, l1, l2, l3, q1, q2, q3, ha, hb]
def cnt3 (x y z : Bool) : Nat → Int
  | 0 => 0
  | 1 => if x then 1 else 0
  | 2 => (if x then 1 else 0) + (if y then 1 else 0)
  | _ => (if x then 1 else 0) + (if y then 1 else 0) + (if z then 1 else 0)
set_option maxHeartbeats 8000000 in
theorem valuePredicates_L (a b : Val) (ha : (a.kind == 0) = false) (hb : (b.kind == 0) = false) (h1 : satV a ⟨#[60]⟩ b = true) (h2 : satV a ⟨#[61]⟩ b = false) (h3 : satV a ⟨#[60, 61]⟩ b = true) (h4 : satV b ⟨#[60]⟩ a = false)
    (e1 : satE ⟨#[60]⟩ = 0) (e2 : satE ⟨#[61]⟩ = 0) (e3 : satE ⟨#[60, 61]⟩ = 0) : Sat Tryd.prog 9 [.agg (eVal a), .agg (eVal b)] (.v (oB true)) := by
  have s1 := satisfies_sat a b ⟨#[60]⟩
  have s2 := satisfies_sat a b ⟨#[61]⟩
  have s3 := satisfies_sat a b ⟨#[60, 61]⟩
  have s4 := satisfies_sat b a ⟨#[60]⟩
  rw [h1, e1] at s1
  rw [h2, e2] at s2
  rw [h3, e3] at s3
  rw [h4, e1] at s4
  refine sat_of_body tyOk Tryd.func9 rfl (by kernel_rfl) ⟨Nat.le_of_ble_eq_true rfl, Nat.le_of_ble_eq_true rfl⟩ fun w0 m0 F0 => ?_
  simp only [Tryd.ntmps9, envOf, Nat.reduceAdd]
  repeat' (first
    | ((first
      | with_reducible refine AWP.regionL tyOk fun K hK => ?_
      | ((with_reducible first | refine GOn.isT ?_ ?_ | refine HOn.isT ?_ ?_ | refine pickK.isT ?_ ?_); focus (first | with_reducible rfl | with_reducible assumption | (simp only [NM, LN]; first | done | with_reducible assumption | omega)))
      | ((with_reducible first | refine GOn.isF ?_ ?_ | refine HOn.isF ?_ ?_ | refine pickK.isF ?_ ?_); focus (first | with_reducible rfl | with_reducible assumption | (simp only [NM, LN]; first | done | with_reducible assumption | omega)))
      | ((with_reducible refine CallJ.is ?_); (first | refine CallJ.pure (valuesWork_sat) ?_ | refine CallJ.pure (s1) ?_ | refine CallJ.pure (s2) ?_ | refine CallJ.pure (s3) ?_ | refine CallJ.pure (s4) ?_ | ((apply CallJ.lentI); (focus (simp -dsimp (disch := (first | omega | (simp only [LN]; omega))) only [go_sem, ↓reduceIte, seval, ha, hb]; rfl)); (focus (first | exact (valuesWork_sat) | exact (s1) | exact (s2) | exact (s3) | exact (s4))))))
      | ((with_reducible refine CallH.is ?_); (first | refine CallH.intro (valuesWork_sat) ?_ | refine CallH.intro (s1) ?_ | refine CallH.intro (s2) ?_ | refine CallH.intro (s3) ?_ | refine CallH.intro (s4) ?_))) <;> simp -dsimp (disch := (first | omega | (simp only [LN]; omega))) only [go_sem, ↓reduceIte, seval, ha, hb])
    | ((with_reducible refine hK _ ?_); clear hK K)
    | (with_reducible first | refine AWP.seq ?_ | refine thenQ_normal ?_ | refine AWP.block ?_ | refine AWP.skip ?_ | refine AWP.ret ?_ | refine thenQ_ret ?_ | refine blockQ_ret ?_ | refine AWP.exit ?_ | refine thenQ_exit ?_ | refine blockQ_normal ?_ | refine blockQ_exit ?_)
    | refine blockQ_exit_ne rfl ?_
    | (with_reducible refine And.intro (by (first | with_reducible rfl | with_reducible assumption | omega | (simp only [LN]; first | done | with_reducible rfl | omega) | (simp only [NM, LN]; first | done | with_reducible assumption | omega) | (and_intros <;> first | with_reducible assumption | omega | (simp only [LN]; omega)) | fail)) ?_)
    | ((with_reducible refine AWP.condG (T := TT) (b := ?_) ?_ ?_); rotate_left; exact rfl)
    | (with_reducible first | refine CondG.t ?_ | refine CondG.f ?_ | refine CondG.not ?_)
    | ((with_reducible refine CondG.isT ?_ ?_); focus (first | with_reducible rfl | with_reducible assumption | (simp only [NM, LN]; first | done | with_reducible assumption | omega)))
    | ((with_reducible refine CondG.isF ?_ ?_); focus (first | with_reducible rfl | with_reducible assumption | (simp only [NM, LN]; first | done | with_reducible assumption | omega))))
  refine AWP.loop (ι := {k : Nat // k ≤ 3}) (fun k => ⟨89, [(5, .v (oB true)), (6, .v (oI 0)), (7, .v (oB false)), (8, .v (oI 0)), (9, .v (oB true)), (10, .v (oI 0)), (11, .v (oB false)), (12, .v (oI 0)), (13, .v (oI (cnt3 true false false k.1))), (53, .v (.one (.ref 53 0 3))), (54, .v (oI 3)), (55, .v (oI k.1))], [], [(53, ⟨1, [[.bool true], [.bool false], [.bool false]], []⟩)]⟩) (fun k => 3 - k.1) ⟨0, Nat.zero_le _⟩ ?_ fun ⟨k, hk⟩ => ?_
  · exact St.le_mk (by simp only [LE, EN, Nat.reduceEqDiff, reduceIte, Nat.reduceSub, cnt3]) (by simp only [LE, EN, Nat.reduceEqDiff, reduceIte, Nat.reduceSub, cnt3]) (by simp only [LE, EN, Nat.reduceEqDiff, reduceIte, Nat.reduceSub, cnt3])
  have hk4 : k = 0 ∨ k = 1 ∨ k = 2 ∨ k = 3 := by omega
  simp only
  rcases hk4 with rfl | rfl | rfl | rfl
  · repeat' (first
      | ((first
        | with_reducible refine AWP.regionL tyOk fun K hK => ?_
        | ((with_reducible first | refine GOn.isT ?_ ?_ | refine HOn.isT ?_ ?_ | refine pickK.isT ?_ ?_); focus (first | with_reducible rfl | with_reducible assumption | (simp only [NM, LN]; first | done | with_reducible assumption | omega)))
        | ((with_reducible first | refine GOn.isF ?_ ?_ | refine HOn.isF ?_ ?_ | refine pickK.isF ?_ ?_); focus (first | with_reducible rfl | with_reducible assumption | (simp only [NM, LN]; first | done | with_reducible assumption | omega)))) <;> simp -dsimp (disch := (first | omega | (simp only [LN]; omega))) only [go_sem, ↓reduceIte, seval, cnt3, List.getD_cons_zero, List.getD_cons_succ, Option.getD_none])
      | ((with_reducible refine hK _ ?_); clear hK K)
      | (with_reducible first | refine AWP.seq ?_ | refine thenQ_normal ?_ | refine AWP.block ?_ | refine AWP.skip ?_ | refine AWP.ret ?_ | refine thenQ_ret ?_ | refine blockQ_ret ?_ | refine AWP.exit ?_ | refine thenQ_exit ?_ | refine blockQ_normal ?_ | refine blockQ_exit ?_)
      | refine blockQ_exit_ne rfl ?_
      | (with_reducible refine And.intro (by (first | with_reducible rfl | with_reducible assumption | omega | (simp only [LN]; first | done | with_reducible rfl | omega) | (simp only [NM, LN]; first | done | with_reducible assumption | omega) | (and_intros <;> first | with_reducible assumption | omega | (simp only [LN]; omega)) | fail)) ?_)
      | ((with_reducible refine AWP.condG (T := TT) (b := ?_) ?_ ?_); rotate_left; exact rfl)
      | (with_reducible first | refine CondG.t ?_ | refine CondG.f ?_ | refine CondG.not ?_)
      | ((with_reducible refine CondG.isT ?_ ?_); focus (first | with_reducible rfl | with_reducible assumption | (simp only [NM, LN]; first | done | with_reducible assumption | omega)))
      | ((with_reducible refine CondG.isF ?_ ?_); focus (first | with_reducible rfl | with_reducible assumption | (simp only [NM, LN]; first | done | with_reducible assumption | omega))))
    refine ⟨⟨1, by omega⟩, by simp only; omega, ?_⟩
    exact St.le_mk (by simp only [allIn_cons, allIn_nil]; and_intros <;> first | rfl | trivial) trivial (by simp only [allIn_cons, allIn_nil]; and_intros <;> first | rfl | trivial)
  · repeat' (first
      | ((first
        | with_reducible refine AWP.regionL tyOk fun K hK => ?_
        | ((with_reducible first | refine GOn.isT ?_ ?_ | refine HOn.isT ?_ ?_ | refine pickK.isT ?_ ?_); focus (first | with_reducible rfl | with_reducible assumption | (simp only [NM, LN]; first | done | with_reducible assumption | omega)))
        | ((with_reducible first | refine GOn.isF ?_ ?_ | refine HOn.isF ?_ ?_ | refine pickK.isF ?_ ?_); focus (first | with_reducible rfl | with_reducible assumption | (simp only [NM, LN]; first | done | with_reducible assumption | omega)))) <;> simp -dsimp (disch := (first | omega | (simp only [LN]; omega))) only [go_sem, ↓reduceIte, seval, cnt3, List.getD_cons_zero, List.getD_cons_succ, Option.getD_none])
      | ((with_reducible refine hK _ ?_); clear hK K)
      | (with_reducible first | refine AWP.seq ?_ | refine thenQ_normal ?_ | refine AWP.block ?_ | refine AWP.skip ?_ | refine AWP.ret ?_ | refine thenQ_ret ?_ | refine blockQ_ret ?_ | refine AWP.exit ?_ | refine thenQ_exit ?_ | refine blockQ_normal ?_ | refine blockQ_exit ?_)
      | refine blockQ_exit_ne rfl ?_
      | (with_reducible refine And.intro (by (first | with_reducible rfl | with_reducible assumption | omega | (simp only [LN]; first | done | with_reducible rfl | omega) | (simp only [NM, LN]; first | done | with_reducible assumption | omega) | (and_intros <;> first | with_reducible assumption | omega | (simp only [LN]; omega)) | fail)) ?_)
      | ((with_reducible refine AWP.condG (T := TT) (b := ?_) ?_ ?_); rotate_left; exact rfl)
      | (with_reducible first | refine CondG.t ?_ | refine CondG.f ?_ | refine CondG.not ?_)
      | ((with_reducible refine CondG.isT ?_ ?_); focus (first | with_reducible rfl | with_reducible assumption | (simp only [NM, LN]; first | done | with_reducible assumption | omega)))
      | ((with_reducible refine CondG.isF ?_ ?_); focus (first | with_reducible rfl | with_reducible assumption | (simp only [NM, LN]; first | done | with_reducible assumption | omega))))
    refine ⟨⟨2, by omega⟩, by simp only; omega, ?_⟩
    exact St.le_mk (by simp only [allIn_cons, allIn_nil]; and_intros <;> first | rfl | trivial) trivial (by simp only [allIn_cons, allIn_nil]; and_intros <;> first | rfl | trivial)
  · repeat' (first
      | ((first
        | with_reducible refine AWP.regionL tyOk fun K hK => ?_
        | ((with_reducible first | refine GOn.isT ?_ ?_ | refine HOn.isT ?_ ?_ | refine pickK.isT ?_ ?_); focus (first | with_reducible rfl | with_reducible assumption | (simp only [NM, LN]; first | done | with_reducible assumption | omega)))
        | ((with_reducible first | refine GOn.isF ?_ ?_ | refine HOn.isF ?_ ?_ | refine pickK.isF ?_ ?_); focus (first | with_reducible rfl | with_reducible assumption | (simp only [NM, LN]; first | done | with_reducible assumption | omega)))) <;> simp -dsimp (disch := (first | omega | (simp only [LN]; omega))) only [go_sem, ↓reduceIte, seval, cnt3, List.getD_cons_zero, List.getD_cons_succ, Option.getD_none])
      | ((with_reducible refine hK _ ?_); clear hK K)
      | (with_reducible first | refine AWP.seq ?_ | refine thenQ_normal ?_ | refine AWP.block ?_ | refine AWP.skip ?_ | refine AWP.ret ?_ | refine thenQ_ret ?_ | refine blockQ_ret ?_ | refine AWP.exit ?_ | refine thenQ_exit ?_ | refine blockQ_normal ?_ | refine blockQ_exit ?_)
      | refine blockQ_exit_ne rfl ?_
      | (with_reducible refine And.intro (by (first | with_reducible rfl | with_reducible assumption | omega | (simp only [LN]; first | done | with_reducible rfl | omega) | (simp only [NM, LN]; first | done | with_reducible assumption | omega) | (and_intros <;> first | with_reducible assumption | omega | (simp only [LN]; omega)) | fail)) ?_)
      | ((with_reducible refine AWP.condG (T := TT) (b := ?_) ?_ ?_); rotate_left; exact rfl)
      | (with_reducible first | refine CondG.t ?_ | refine CondG.f ?_ | refine CondG.not ?_)
      | ((with_reducible refine CondG.isT ?_ ?_); focus (first | with_reducible rfl | with_reducible assumption | (simp only [NM, LN]; first | done | with_reducible assumption | omega)))
      | ((with_reducible refine CondG.isF ?_ ?_); focus (first | with_reducible rfl | with_reducible assumption | (simp only [NM, LN]; first | done | with_reducible assumption | omega))))
    refine ⟨⟨3, by omega⟩, by simp only; omega, ?_⟩
    exact St.le_mk (by simp only [allIn_cons, allIn_nil]; and_intros <;> first | rfl | trivial) trivial (by simp only [allIn_cons, allIn_nil]; and_intros <;> first | rfl | trivial)
  · repeat' (first
      | ((first
        | with_reducible refine AWP.regionL tyOk fun K hK => ?_
        | ((with_reducible first | refine GOn.isT ?_ ?_ | refine HOn.isT ?_ ?_ | refine pickK.isT ?_ ?_); focus (first | with_reducible rfl | with_reducible assumption | (simp only [NM, LN]; first | done | with_reducible assumption | omega)))
        | ((with_reducible first | refine GOn.isF ?_ ?_ | refine HOn.isF ?_ ?_ | refine pickK.isF ?_ ?_); focus (first | with_reducible rfl | with_reducible assumption | (simp only [NM, LN]; first | done | with_reducible assumption | omega)))) <;> simp -dsimp (disch := (first | omega | (simp only [LN]; omega))) only [go_sem, ↓reduceIte, seval, cnt3, List.getD_cons_zero, List.getD_cons_succ, Option.getD_none])
      | ((with_reducible refine hK _ ?_); clear hK K)
      | (with_reducible first | refine AWP.seq ?_ | refine thenQ_normal ?_ | refine AWP.block ?_ | refine AWP.skip ?_ | refine AWP.ret ?_ | refine thenQ_ret ?_ | refine blockQ_ret ?_ | refine AWP.exit ?_ | refine thenQ_exit ?_ | refine blockQ_normal ?_ | refine blockQ_exit ?_)
      | refine blockQ_exit_ne rfl ?_
      | (with_reducible refine And.intro (by (first | with_reducible rfl | with_reducible assumption | omega | (simp only [LN]; first | done | with_reducible rfl | omega) | (simp only [NM, LN]; first | done | with_reducible assumption | omega) | (and_intros <;> first | with_reducible assumption | omega | (simp only [LN]; omega)) | fail)) ?_)
      | ((with_reducible refine AWP.condG (T := TT) (b := ?_) ?_ ?_); rotate_left; exact rfl)
      | (with_reducible first | refine CondG.t ?_ | refine CondG.f ?_ | refine CondG.not ?_)
      | ((with_reducible refine CondG.isT ?_ ?_); focus (first | with_reducible rfl | with_reducible assumption | (simp only [NM, LN]; first | done | with_reducible assumption | omega)))
      | ((with_reducible refine CondG.isF ?_ ?_); focus (first | with_reducible rfl | with_reducible assumption | (simp only [NM, LN]; first | done | with_reducible assumption | omega))))
    simp -dsimp (disch := (first | omega | (simp only [LN]; omega))) only [retQ, Tryd.results9, resVals, cellRV, resOf, St.rest, St.freeze, RT, go_sem, ↓reduceIte, seval]
set_option maxHeartbeats 8000000 in
theorem valuePredicates_E (a b : Val) (ha : (a.kind == 0) = false) (hb : (b.kind == 0) = false) (h1 : satV a ⟨#[60]⟩ b = false) (h2 : satV a ⟨#[61]⟩ b = true) (h3 : satV a ⟨#[60, 61]⟩ b = true) (h4 : satV b ⟨#[60]⟩ a = false)
    (e1 : satE ⟨#[60]⟩ = 0) (e2 : satE ⟨#[61]⟩ = 0) (e3 : satE ⟨#[60, 61]⟩ = 0) : Sat Tryd.prog 9 [.agg (eVal a), .agg (eVal b)] (.v (oB true)) := by
  have s1 := satisfies_sat a b ⟨#[60]⟩
  have s2 := satisfies_sat a b ⟨#[61]⟩
  have s3 := satisfies_sat a b ⟨#[60, 61]⟩
  have s4 := satisfies_sat b a ⟨#[60]⟩
  rw [h1, e1] at s1
  rw [h2, e2] at s2
  rw [h3, e3] at s3
  rw [h4, e1] at s4
  refine sat_of_body tyOk Tryd.func9 rfl (by kernel_rfl) ⟨Nat.le_of_ble_eq_true rfl, Nat.le_of_ble_eq_true rfl⟩ fun w0 m0 F0 => ?_
  simp only [Tryd.ntmps9, envOf, Nat.reduceAdd]
  repeat' (first
    | ((first
      | with_reducible refine AWP.regionL tyOk fun K hK => ?_
      | ((with_reducible first | refine GOn.isT ?_ ?_ | refine HOn.isT ?_ ?_ | refine pickK.isT ?_ ?_); focus (first | with_reducible rfl | with_reducible assumption | (simp only [NM, LN]; first | done | with_reducible assumption | omega)))
      | ((with_reducible first | refine GOn.isF ?_ ?_ | refine HOn.isF ?_ ?_ | refine pickK.isF ?_ ?_); focus (first | with_reducible rfl | with_reducible assumption | (simp only [NM, LN]; first | done | with_reducible assumption | omega)))
      | ((with_reducible refine CallJ.is ?_); (first | refine CallJ.pure (valuesWork_sat) ?_ | refine CallJ.pure (s1) ?_ | refine CallJ.pure (s2) ?_ | refine CallJ.pure (s3) ?_ | refine CallJ.pure (s4) ?_ | ((apply CallJ.lentI); (focus (simp -dsimp (disch := (first | omega | (simp only [LN]; omega))) only [go_sem, ↓reduceIte, seval, ha, hb]; rfl)); (focus (first | exact (valuesWork_sat) | exact (s1) | exact (s2) | exact (s3) | exact (s4))))))
      | ((with_reducible refine CallH.is ?_); (first | refine CallH.intro (valuesWork_sat) ?_ | refine CallH.intro (s1) ?_ | refine CallH.intro (s2) ?_ | refine CallH.intro (s3) ?_ | refine CallH.intro (s4) ?_))) <;> simp -dsimp (disch := (first | omega | (simp only [LN]; omega))) only [go_sem, ↓reduceIte, seval, ha, hb])
    | ((with_reducible refine hK _ ?_); clear hK K)
    | (with_reducible first | refine AWP.seq ?_ | refine thenQ_normal ?_ | refine AWP.block ?_ | refine AWP.skip ?_ | refine AWP.ret ?_ | refine thenQ_ret ?_ | refine blockQ_ret ?_ | refine AWP.exit ?_ | refine thenQ_exit ?_ | refine blockQ_normal ?_ | refine blockQ_exit ?_)
    | refine blockQ_exit_ne rfl ?_
    | (with_reducible refine And.intro (by (first | with_reducible rfl | with_reducible assumption | omega | (simp only [LN]; first | done | with_reducible rfl | omega) | (simp only [NM, LN]; first | done | with_reducible assumption | omega) | (and_intros <;> first | with_reducible assumption | omega | (simp only [LN]; omega)) | fail)) ?_)
    | ((with_reducible refine AWP.condG (T := TT) (b := ?_) ?_ ?_); rotate_left; exact rfl)
    | (with_reducible first | refine CondG.t ?_ | refine CondG.f ?_ | refine CondG.not ?_)
    | ((with_reducible refine CondG.isT ?_ ?_); focus (first | with_reducible rfl | with_reducible assumption | (simp only [NM, LN]; first | done | with_reducible assumption | omega)))
    | ((with_reducible refine CondG.isF ?_ ?_); focus (first | with_reducible rfl | with_reducible assumption | (simp only [NM, LN]; first | done | with_reducible assumption | omega))))
  refine AWP.loop (ι := {k : Nat // k ≤ 3}) (fun k => ⟨89, [(5, .v (oB false)), (6, .v (oI 0)), (7, .v (oB true)), (8, .v (oI 0)), (9, .v (oB true)), (10, .v (oI 0)), (11, .v (oB false)), (12, .v (oI 0)), (13, .v (oI (cnt3 false true false k.1))), (53, .v (.one (.ref 53 0 3))), (54, .v (oI 3)), (55, .v (oI k.1))], [], [(53, ⟨1, [[.bool false], [.bool true], [.bool false]], []⟩)]⟩) (fun k => 3 - k.1) ⟨0, Nat.zero_le _⟩ ?_ fun ⟨k, hk⟩ => ?_
  · exact St.le_mk (by simp only [LE, EN, Nat.reduceEqDiff, reduceIte, Nat.reduceSub, cnt3]) (by simp only [LE, EN, Nat.reduceEqDiff, reduceIte, Nat.reduceSub, cnt3]) (by simp only [LE, EN, Nat.reduceEqDiff, reduceIte, Nat.reduceSub, cnt3])
  have hk4 : k = 0 ∨ k = 1 ∨ k = 2 ∨ k = 3 := by omega
  simp only
  rcases hk4 with rfl | rfl | rfl | rfl
  · repeat' (first
      | ((first
        | with_reducible refine AWP.regionL tyOk fun K hK => ?_
        | ((with_reducible first | refine GOn.isT ?_ ?_ | refine HOn.isT ?_ ?_ | refine pickK.isT ?_ ?_); focus (first | with_reducible rfl | with_reducible assumption | (simp only [NM, LN]; first | done | with_reducible assumption | omega)))
        | ((with_reducible first | refine GOn.isF ?_ ?_ | refine HOn.isF ?_ ?_ | refine pickK.isF ?_ ?_); focus (first | with_reducible rfl | with_reducible assumption | (simp only [NM, LN]; first | done | with_reducible assumption | omega)))) <;> simp -dsimp (disch := (first | omega | (simp only [LN]; omega))) only [go_sem, ↓reduceIte, seval, cnt3, List.getD_cons_zero, List.getD_cons_succ, Option.getD_none])
      | ((with_reducible refine hK _ ?_); clear hK K)
      | (with_reducible first | refine AWP.seq ?_ | refine thenQ_normal ?_ | refine AWP.block ?_ | refine AWP.skip ?_ | refine AWP.ret ?_ | refine thenQ_ret ?_ | refine blockQ_ret ?_ | refine AWP.exit ?_ | refine thenQ_exit ?_ | refine blockQ_normal ?_ | refine blockQ_exit ?_)
      | refine blockQ_exit_ne rfl ?_
      | (with_reducible refine And.intro (by (first | with_reducible rfl | with_reducible assumption | omega | (simp only [LN]; first | done | with_reducible rfl | omega) | (simp only [NM, LN]; first | done | with_reducible assumption | omega) | (and_intros <;> first | with_reducible assumption | omega | (simp only [LN]; omega)) | fail)) ?_)
      | ((with_reducible refine AWP.condG (T := TT) (b := ?_) ?_ ?_); rotate_left; exact rfl)
      | (with_reducible first | refine CondG.t ?_ | refine CondG.f ?_ | refine CondG.not ?_)
      | ((with_reducible refine CondG.isT ?_ ?_); focus (first | with_reducible rfl | with_reducible assumption | (simp only [NM, LN]; first | done | with_reducible assumption | omega)))
      | ((with_reducible refine CondG.isF ?_ ?_); focus (first | with_reducible rfl | with_reducible assumption | (simp only [NM, LN]; first | done | with_reducible assumption | omega))))
    refine ⟨⟨1, by omega⟩, by simp only; omega, ?_⟩
    exact St.le_mk (by simp only [allIn_cons, allIn_nil]; and_intros <;> first | rfl | trivial) trivial (by simp only [allIn_cons, allIn_nil]; and_intros <;> first | rfl | trivial)
  · repeat' (first
      | ((first
        | with_reducible refine AWP.regionL tyOk fun K hK => ?_
        | ((with_reducible first | refine GOn.isT ?_ ?_ | refine HOn.isT ?_ ?_ | refine pickK.isT ?_ ?_); focus (first | with_reducible rfl | with_reducible assumption | (simp only [NM, LN]; first | done | with_reducible assumption | omega)))
        | ((with_reducible first | refine GOn.isF ?_ ?_ | refine HOn.isF ?_ ?_ | refine pickK.isF ?_ ?_); focus (first | with_reducible rfl | with_reducible assumption | (simp only [NM, LN]; first | done | with_reducible assumption | omega)))) <;> simp -dsimp (disch := (first | omega | (simp only [LN]; omega))) only [go_sem, ↓reduceIte, seval, cnt3, List.getD_cons_zero, List.getD_cons_succ, Option.getD_none])
      | ((with_reducible refine hK _ ?_); clear hK K)
      | (with_reducible first | refine AWP.seq ?_ | refine thenQ_normal ?_ | refine AWP.block ?_ | refine AWP.skip ?_ | refine AWP.ret ?_ | refine thenQ_ret ?_ | refine blockQ_ret ?_ | refine AWP.exit ?_ | refine thenQ_exit ?_ | refine blockQ_normal ?_ | refine blockQ_exit ?_)
      | refine blockQ_exit_ne rfl ?_
      | (with_reducible refine And.intro (by (first | with_reducible rfl | with_reducible assumption | omega | (simp only [LN]; first | done | with_reducible rfl | omega) | (simp only [NM, LN]; first | done | with_reducible assumption | omega) | (and_intros <;> first | with_reducible assumption | omega | (simp only [LN]; omega)) | fail)) ?_)
      | ((with_reducible refine AWP.condG (T := TT) (b := ?_) ?_ ?_); rotate_left; exact rfl)
      | (with_reducible first | refine CondG.t ?_ | refine CondG.f ?_ | refine CondG.not ?_)
      | ((with_reducible refine CondG.isT ?_ ?_); focus (first | with_reducible rfl | with_reducible assumption | (simp only [NM, LN]; first | done | with_reducible assumption | omega)))
      | ((with_reducible refine CondG.isF ?_ ?_); focus (first | with_reducible rfl | with_reducible assumption | (simp only [NM, LN]; first | done | with_reducible assumption | omega))))
    refine ⟨⟨2, by omega⟩, by simp only; omega, ?_⟩
    exact St.le_mk (by simp only [allIn_cons, allIn_nil]; and_intros <;> first | rfl | trivial) trivial (by simp only [allIn_cons, allIn_nil]; and_intros <;> first | rfl | trivial)
  · repeat' (first
      | ((first
        | with_reducible refine AWP.regionL tyOk fun K hK => ?_
        | ((with_reducible first | refine GOn.isT ?_ ?_ | refine HOn.isT ?_ ?_ | refine pickK.isT ?_ ?_); focus (first | with_reducible rfl | with_reducible assumption | (simp only [NM, LN]; first | done | with_reducible assumption | omega)))
        | ((with_reducible first | refine GOn.isF ?_ ?_ | refine HOn.isF ?_ ?_ | refine pickK.isF ?_ ?_); focus (first | with_reducible rfl | with_reducible assumption | (simp only [NM, LN]; first | done | with_reducible assumption | omega)))) <;> simp -dsimp (disch := (first | omega | (simp only [LN]; omega))) only [go_sem, ↓reduceIte, seval, cnt3, List.getD_cons_zero, List.getD_cons_succ, Option.getD_none])
      | ((with_reducible refine hK _ ?_); clear hK K)
      | (with_reducible first | refine AWP.seq ?_ | refine thenQ_normal ?_ | refine AWP.block ?_ | refine AWP.skip ?_ | refine AWP.ret ?_ | refine thenQ_ret ?_ | refine blockQ_ret ?_ | refine AWP.exit ?_ | refine thenQ_exit ?_ | refine blockQ_normal ?_ | refine blockQ_exit ?_)
      | refine blockQ_exit_ne rfl ?_
      | (with_reducible refine And.intro (by (first | with_reducible rfl | with_reducible assumption | omega | (simp only [LN]; first | done | with_reducible rfl | omega) | (simp only [NM, LN]; first | done | with_reducible assumption | omega) | (and_intros <;> first | with_reducible assumption | omega | (simp only [LN]; omega)) | fail)) ?_)
      | ((with_reducible refine AWP.condG (T := TT) (b := ?_) ?_ ?_); rotate_left; exact rfl)
      | (with_reducible first | refine CondG.t ?_ | refine CondG.f ?_ | refine CondG.not ?_)
      | ((with_reducible refine CondG.isT ?_ ?_); focus (first | with_reducible rfl | with_reducible assumption | (simp only [NM, LN]; first | done | with_reducible assumption | omega)))
      | ((with_reducible refine CondG.isF ?_ ?_); focus (first | with_reducible rfl | with_reducible assumption | (simp only [NM, LN]; first | done | with_reducible assumption | omega))))
    refine ⟨⟨3, by omega⟩, by simp only; omega, ?_⟩
    exact St.le_mk (by simp only [allIn_cons, allIn_nil]; and_intros <;> first | rfl | trivial) trivial (by simp only [allIn_cons, allIn_nil]; and_intros <;> first | rfl | trivial)
  · repeat' (first
      | ((first
        | with_reducible refine AWP.regionL tyOk fun K hK => ?_
        | ((with_reducible first | refine GOn.isT ?_ ?_ | refine HOn.isT ?_ ?_ | refine pickK.isT ?_ ?_); focus (first | with_reducible rfl | with_reducible assumption | (simp only [NM, LN]; first | done | with_reducible assumption | omega)))
        | ((with_reducible first | refine GOn.isF ?_ ?_ | refine HOn.isF ?_ ?_ | refine pickK.isF ?_ ?_); focus (first | with_reducible rfl | with_reducible assumption | (simp only [NM, LN]; first | done | with_reducible assumption | omega)))) <;> simp -dsimp (disch := (first | omega | (simp only [LN]; omega))) only [go_sem, ↓reduceIte, seval, cnt3, List.getD_cons_zero, List.getD_cons_succ, Option.getD_none])
      | ((with_reducible refine hK _ ?_); clear hK K)
      | (with_reducible first | refine AWP.seq ?_ | refine thenQ_normal ?_ | refine AWP.block ?_ | refine AWP.skip ?_ | refine AWP.ret ?_ | refine thenQ_ret ?_ | refine blockQ_ret ?_ | refine AWP.exit ?_ | refine thenQ_exit ?_ | refine blockQ_normal ?_ | refine blockQ_exit ?_)
      | refine blockQ_exit_ne rfl ?_
      | (with_reducible refine And.intro (by (first | with_reducible rfl | with_reducible assumption | omega | (simp only [LN]; first | done | with_reducible rfl | omega) | (simp only [NM, LN]; first | done | with_reducible assumption | omega) | (and_intros <;> first | with_reducible assumption | omega | (simp only [LN]; omega)) | fail)) ?_)
      | ((with_reducible refine AWP.condG (T := TT) (b := ?_) ?_ ?_); rotate_left; exact rfl)
      | (with_reducible first | refine CondG.t ?_ | refine CondG.f ?_ | refine CondG.not ?_)
      | ((with_reducible refine CondG.isT ?_ ?_); focus (first | with_reducible rfl | with_reducible assumption | (simp only [NM, LN]; first | done | with_reducible assumption | omega)))
      | ((with_reducible refine CondG.isF ?_ ?_); focus (first | with_reducible rfl | with_reducible assumption | (simp only [NM, LN]; first | done | with_reducible assumption | omega))))
    simp -dsimp (disch := (first | omega | (simp only [LN]; omega))) only [retQ, Tryd.results9, resVals, cellRV, resOf, St.rest, St.freeze, RT, go_sem, ↓reduceIte, seval]
set_option maxHeartbeats 8000000 in
theorem valuePredicates_G (a b : Val) (ha : (a.kind == 0) = false) (hb : (b.kind == 0) = false) (h1 : satV a ⟨#[60]⟩ b = false) (h2 : satV a ⟨#[61]⟩ b = false) (h3 : satV a ⟨#[60, 61]⟩ b = false) (h4 : satV b ⟨#[60]⟩ a = true)
    (e1 : satE ⟨#[60]⟩ = 0) (e2 : satE ⟨#[61]⟩ = 0) (e3 : satE ⟨#[60, 61]⟩ = 0) : Sat Tryd.prog 9 [.agg (eVal a), .agg (eVal b)] (.v (oB true)) := by
  have s1 := satisfies_sat a b ⟨#[60]⟩
  have s2 := satisfies_sat a b ⟨#[61]⟩
  have s3 := satisfies_sat a b ⟨#[60, 61]⟩
  have s4 := satisfies_sat b a ⟨#[60]⟩
  rw [h1, e1] at s1
  rw [h2, e2] at s2
  rw [h3, e3] at s3
  rw [h4, e1] at s4
  refine sat_of_body tyOk Tryd.func9 rfl (by kernel_rfl) ⟨Nat.le_of_ble_eq_true rfl, Nat.le_of_ble_eq_true rfl⟩ fun w0 m0 F0 => ?_
  simp only [Tryd.ntmps9, envOf, Nat.reduceAdd]
  repeat' (first
    | ((first
      | with_reducible refine AWP.regionL tyOk fun K hK => ?_
      | ((with_reducible first | refine GOn.isT ?_ ?_ | refine HOn.isT ?_ ?_ | refine pickK.isT ?_ ?_); focus (first | with_reducible rfl | with_reducible assumption | (simp only [NM, LN]; first | done | with_reducible assumption | omega)))
      | ((with_reducible first | refine GOn.isF ?_ ?_ | refine HOn.isF ?_ ?_ | refine pickK.isF ?_ ?_); focus (first | with_reducible rfl | with_reducible assumption | (simp only [NM, LN]; first | done | with_reducible assumption | omega)))
      | ((with_reducible refine CallJ.is ?_); (first | refine CallJ.pure (valuesWork_sat) ?_ | refine CallJ.pure (s1) ?_ | refine CallJ.pure (s2) ?_ | refine CallJ.pure (s3) ?_ | refine CallJ.pure (s4) ?_ | ((apply CallJ.lentI); (focus (simp -dsimp (disch := (first | omega | (simp only [LN]; omega))) only [go_sem, ↓reduceIte, seval, ha, hb]; rfl)); (focus (first | exact (valuesWork_sat) | exact (s1) | exact (s2) | exact (s3) | exact (s4))))))
      | ((with_reducible refine CallH.is ?_); (first | refine CallH.intro (valuesWork_sat) ?_ | refine CallH.intro (s1) ?_ | refine CallH.intro (s2) ?_ | refine CallH.intro (s3) ?_ | refine CallH.intro (s4) ?_))) <;> simp -dsimp (disch := (first | omega | (simp only [LN]; omega))) only [go_sem, ↓reduceIte, seval, ha, hb])
    | ((with_reducible refine hK _ ?_); clear hK K)
    | (with_reducible first | refine AWP.seq ?_ | refine thenQ_normal ?_ | refine AWP.block ?_ | refine AWP.skip ?_ | refine AWP.ret ?_ | refine thenQ_ret ?_ | refine blockQ_ret ?_ | refine AWP.exit ?_ | refine thenQ_exit ?_ | refine blockQ_normal ?_ | refine blockQ_exit ?_)
    | refine blockQ_exit_ne rfl ?_
    | (with_reducible refine And.intro (by (first | with_reducible rfl | with_reducible assumption | omega | (simp only [LN]; first | done | with_reducible rfl | omega) | (simp only [NM, LN]; first | done | with_reducible assumption | omega) | (and_intros <;> first | with_reducible assumption | omega | (simp only [LN]; omega)) | fail)) ?_)
    | ((with_reducible refine AWP.condG (T := TT) (b := ?_) ?_ ?_); rotate_left; exact rfl)
    | (with_reducible first | refine CondG.t ?_ | refine CondG.f ?_ | refine CondG.not ?_)
    | ((with_reducible refine CondG.isT ?_ ?_); focus (first | with_reducible rfl | with_reducible assumption | (simp only [NM, LN]; first | done | with_reducible assumption | omega)))
    | ((with_reducible refine CondG.isF ?_ ?_); focus (first | with_reducible rfl | with_reducible assumption | (simp only [NM, LN]; first | done | with_reducible assumption | omega))))
  refine AWP.loop (ι := {k : Nat // k ≤ 3}) (fun k => ⟨89, [(5, .v (oB false)), (6, .v (oI 0)), (7, .v (oB false)), (8, .v (oI 0)), (9, .v (oB false)), (10, .v (oI 0)), (11, .v (oB true)), (12, .v (oI 0)), (13, .v (oI (cnt3 false false true k.1))), (53, .v (.one (.ref 53 0 3))), (54, .v (oI 3)), (55, .v (oI k.1))], [], [(53, ⟨1, [[.bool false], [.bool false], [.bool true]], []⟩)]⟩) (fun k => 3 - k.1) ⟨0, Nat.zero_le _⟩ ?_ fun ⟨k, hk⟩ => ?_
  · exact St.le_mk (by simp only [LE, EN, Nat.reduceEqDiff, reduceIte, Nat.reduceSub, cnt3]) (by simp only [LE, EN, Nat.reduceEqDiff, reduceIte, Nat.reduceSub, cnt3]) (by simp only [LE, EN, Nat.reduceEqDiff, reduceIte, Nat.reduceSub, cnt3])
  have hk4 : k = 0 ∨ k = 1 ∨ k = 2 ∨ k = 3 := by omega
  simp only
  rcases hk4 with rfl | rfl | rfl | rfl
  · repeat' (first
      | ((first
        | with_reducible refine AWP.regionL tyOk fun K hK => ?_
        | ((with_reducible first | refine GOn.isT ?_ ?_ | refine HOn.isT ?_ ?_ | refine pickK.isT ?_ ?_); focus (first | with_reducible rfl | with_reducible assumption | (simp only [NM, LN]; first | done | with_reducible assumption | omega)))
        | ((with_reducible first | refine GOn.isF ?_ ?_ | refine HOn.isF ?_ ?_ | refine pickK.isF ?_ ?_); focus (first | with_reducible rfl | with_reducible assumption | (simp only [NM, LN]; first | done | with_reducible assumption | omega)))) <;> simp -dsimp (disch := (first | omega | (simp only [LN]; omega))) only [go_sem, ↓reduceIte, seval, cnt3, List.getD_cons_zero, List.getD_cons_succ, Option.getD_none])
      | ((with_reducible refine hK _ ?_); clear hK K)
      | (with_reducible first | refine AWP.seq ?_ | refine thenQ_normal ?_ | refine AWP.block ?_ | refine AWP.skip ?_ | refine AWP.ret ?_ | refine thenQ_ret ?_ | refine blockQ_ret ?_ | refine AWP.exit ?_ | refine thenQ_exit ?_ | refine blockQ_normal ?_ | refine blockQ_exit ?_)
      | refine blockQ_exit_ne rfl ?_
      | (with_reducible refine And.intro (by (first | with_reducible rfl | with_reducible assumption | omega | (simp only [LN]; first | done | with_reducible rfl | omega) | (simp only [NM, LN]; first | done | with_reducible assumption | omega) | (and_intros <;> first | with_reducible assumption | omega | (simp only [LN]; omega)) | fail)) ?_)
      | ((with_reducible refine AWP.condG (T := TT) (b := ?_) ?_ ?_); rotate_left; exact rfl)
      | (with_reducible first | refine CondG.t ?_ | refine CondG.f ?_ | refine CondG.not ?_)
      | ((with_reducible refine CondG.isT ?_ ?_); focus (first | with_reducible rfl | with_reducible assumption | (simp only [NM, LN]; first | done | with_reducible assumption | omega)))
      | ((with_reducible refine CondG.isF ?_ ?_); focus (first | with_reducible rfl | with_reducible assumption | (simp only [NM, LN]; first | done | with_reducible assumption | omega))))
    refine ⟨⟨1, by omega⟩, by simp only; omega, ?_⟩
    exact St.le_mk (by simp only [allIn_cons, allIn_nil]; and_intros <;> first | rfl | trivial) trivial (by simp only [allIn_cons, allIn_nil]; and_intros <;> first | rfl | trivial)
  · repeat' (first
      | ((first
        | with_reducible refine AWP.regionL tyOk fun K hK => ?_
        | ((with_reducible first | refine GOn.isT ?_ ?_ | refine HOn.isT ?_ ?_ | refine pickK.isT ?_ ?_); focus (first | with_reducible rfl | with_reducible assumption | (simp only [NM, LN]; first | done | with_reducible assumption | omega)))
        | ((with_reducible first | refine GOn.isF ?_ ?_ | refine HOn.isF ?_ ?_ | refine pickK.isF ?_ ?_); focus (first | with_reducible rfl | with_reducible assumption | (simp only [NM, LN]; first | done | with_reducible assumption | omega)))) <;> simp -dsimp (disch := (first | omega | (simp only [LN]; omega))) only [go_sem, ↓reduceIte, seval, cnt3, List.getD_cons_zero, List.getD_cons_succ, Option.getD_none])
      | ((with_reducible refine hK _ ?_); clear hK K)
      | (with_reducible first | refine AWP.seq ?_ | refine thenQ_normal ?_ | refine AWP.block ?_ | refine AWP.skip ?_ | refine AWP.ret ?_ | refine thenQ_ret ?_ | refine blockQ_ret ?_ | refine AWP.exit ?_ | refine thenQ_exit ?_ | refine blockQ_normal ?_ | refine blockQ_exit ?_)
      | refine blockQ_exit_ne rfl ?_
      | (with_reducible refine And.intro (by (first | with_reducible rfl | with_reducible assumption | omega | (simp only [LN]; first | done | with_reducible rfl | omega) | (simp only [NM, LN]; first | done | with_reducible assumption | omega) | (and_intros <;> first | with_reducible assumption | omega | (simp only [LN]; omega)) | fail)) ?_)
      | ((with_reducible refine AWP.condG (T := TT) (b := ?_) ?_ ?_); rotate_left; exact rfl)
      | (with_reducible first | refine CondG.t ?_ | refine CondG.f ?_ | refine CondG.not ?_)
      | ((with_reducible refine CondG.isT ?_ ?_); focus (first | with_reducible rfl | with_reducible assumption | (simp only [NM, LN]; first | done | with_reducible assumption | omega)))
      | ((with_reducible refine CondG.isF ?_ ?_); focus (first | with_reducible rfl | with_reducible assumption | (simp only [NM, LN]; first | done | with_reducible assumption | omega))))
    refine ⟨⟨2, by omega⟩, by simp only; omega, ?_⟩
    exact St.le_mk (by simp only [allIn_cons, allIn_nil]; and_intros <;> first | rfl | trivial) trivial (by simp only [allIn_cons, allIn_nil]; and_intros <;> first | rfl | trivial)
  · repeat' (first
      | ((first
        | with_reducible refine AWP.regionL tyOk fun K hK => ?_
        | ((with_reducible first | refine GOn.isT ?_ ?_ | refine HOn.isT ?_ ?_ | refine pickK.isT ?_ ?_); focus (first | with_reducible rfl | with_reducible assumption | (simp only [NM, LN]; first | done | with_reducible assumption | omega)))
        | ((with_reducible first | refine GOn.isF ?_ ?_ | refine HOn.isF ?_ ?_ | refine pickK.isF ?_ ?_); focus (first | with_reducible rfl | with_reducible assumption | (simp only [NM, LN]; first | done | with_reducible assumption | omega)))) <;> simp -dsimp (disch := (first | omega | (simp only [LN]; omega))) only [go_sem, ↓reduceIte, seval, cnt3, List.getD_cons_zero, List.getD_cons_succ, Option.getD_none])
      | ((with_reducible refine hK _ ?_); clear hK K)
      | (with_reducible first | refine AWP.seq ?_ | refine thenQ_normal ?_ | refine AWP.block ?_ | refine AWP.skip ?_ | refine AWP.ret ?_ | refine thenQ_ret ?_ | refine blockQ_ret ?_ | refine AWP.exit ?_ | refine thenQ_exit ?_ | refine blockQ_normal ?_ | refine blockQ_exit ?_)
      | refine blockQ_exit_ne rfl ?_
      | (with_reducible refine And.intro (by (first | with_reducible rfl | with_reducible assumption | omega | (simp only [LN]; first | done | with_reducible rfl | omega) | (simp only [NM, LN]; first | done | with_reducible assumption | omega) | (and_intros <;> first | with_reducible assumption | omega | (simp only [LN]; omega)) | fail)) ?_)
      | ((with_reducible refine AWP.condG (T := TT) (b := ?_) ?_ ?_); rotate_left; exact rfl)
      | (with_reducible first | refine CondG.t ?_ | refine CondG.f ?_ | refine CondG.not ?_)
      | ((with_reducible refine CondG.isT ?_ ?_); focus (first | with_reducible rfl | with_reducible assumption | (simp only [NM, LN]; first | done | with_reducible assumption | omega)))
      | ((with_reducible refine CondG.isF ?_ ?_); focus (first | with_reducible rfl | with_reducible assumption | (simp only [NM, LN]; first | done | with_reducible assumption | omega))))
    refine ⟨⟨3, by omega⟩, by simp only; omega, ?_⟩
    exact St.le_mk (by simp only [allIn_cons, allIn_nil]; and_intros <;> first | rfl | trivial) trivial (by simp only [allIn_cons, allIn_nil]; and_intros <;> first | rfl | trivial)
  · repeat' (first
      | ((first
        | with_reducible refine AWP.regionL tyOk fun K hK => ?_
        | ((with_reducible first | refine GOn.isT ?_ ?_ | refine HOn.isT ?_ ?_ | refine pickK.isT ?_ ?_); focus (first | with_reducible rfl | with_reducible assumption | (simp only [NM, LN]; first | done | with_reducible assumption | omega)))
        | ((with_reducible first | refine GOn.isF ?_ ?_ | refine HOn.isF ?_ ?_ | refine pickK.isF ?_ ?_); focus (first | with_reducible rfl | with_reducible assumption | (simp only [NM, LN]; first | done | with_reducible assumption | omega)))) <;> simp -dsimp (disch := (first | omega | (simp only [LN]; omega))) only [go_sem, ↓reduceIte, seval, cnt3, List.getD_cons_zero, List.getD_cons_succ, Option.getD_none])
      | ((with_reducible refine hK _ ?_); clear hK K)
      | (with_reducible first | refine AWP.seq ?_ | refine thenQ_normal ?_ | refine AWP.block ?_ | refine AWP.skip ?_ | refine AWP.ret ?_ | refine thenQ_ret ?_ | refine blockQ_ret ?_ | refine AWP.exit ?_ | refine thenQ_exit ?_ | refine blockQ_normal ?_ | refine blockQ_exit ?_)
      | refine blockQ_exit_ne rfl ?_
      | (with_reducible refine And.intro (by (first | with_reducible rfl | with_reducible assumption | omega | (simp only [LN]; first | done | with_reducible rfl | omega) | (simp only [NM, LN]; first | done | with_reducible assumption | omega) | (and_intros <;> first | with_reducible assumption | omega | (simp only [LN]; omega)) | fail)) ?_)
      | ((with_reducible refine AWP.condG (T := TT) (b := ?_) ?_ ?_); rotate_left; exact rfl)
      | (with_reducible first | refine CondG.t ?_ | refine CondG.f ?_ | refine CondG.not ?_)
      | ((with_reducible refine CondG.isT ?_ ?_); focus (first | with_reducible rfl | with_reducible assumption | (simp only [NM, LN]; first | done | with_reducible assumption | omega)))
      | ((with_reducible refine CondG.isF ?_ ?_); focus (first | with_reducible rfl | with_reducible assumption | (simp only [NM, LN]; first | done | with_reducible assumption | omega))))
    simp -dsimp (disch := (first | omega | (simp only [LN]; omega))) only [retQ, Tryd.results9, resVals, cellRV, resOf, St.rest, St.freeze, RT, go_sem, ↓reduceIte, seval]
set_option maxHeartbeats 8000000 in
theorem valuePredicates_null (a b : Val) (h : (a.kind == 0) = true ∨ (a.kind == 0) = false ∧ (b.kind == 0) = true) : Sat Tryd.prog 9 [.agg (eVal a), .agg (eVal b)] (.v (oB true)) := by
  rcases h with h1 | ⟨h1, h2⟩
  · refine sat_of_body tyOk Tryd.func9 rfl (by kernel_rfl) ⟨Nat.le_of_ble_eq_true rfl, Nat.le_of_ble_eq_true rfl⟩ fun w0 m0 F0 => ?_
    simp only [Tryd.ntmps9, envOf, Nat.reduceAdd]
    repeat' (first
      | ((first
        | with_reducible refine AWP.regionL tyOk fun K hK => ?_
        | ((with_reducible first | refine GOn.isT ?_ ?_ | refine HOn.isT ?_ ?_ | refine pickK.isT ?_ ?_); focus (first | with_reducible rfl | with_reducible assumption | (simp only [NM, LN]; first | done | with_reducible assumption | omega)))
        | ((with_reducible first | refine GOn.isF ?_ ?_ | refine HOn.isF ?_ ?_ | refine pickK.isF ?_ ?_); focus (first | with_reducible rfl | with_reducible assumption | (simp only [NM, LN]; first | done | with_reducible assumption | omega)))
        | ((with_reducible refine CallJ.is ?_); (first | refine CallJ.pure (valuesWork_sat) ?_ | ((apply CallJ.lentI); (focus (simp -dsimp (disch := (first | omega | (simp only [LN]; omega))) only [go_sem, ↓reduceIte, seval, h1]; rfl)); (focus (first | exact (valuesWork_sat))))))
        | ((with_reducible refine CallH.is ?_); (first | refine CallH.intro (valuesWork_sat) ?_))) <;> simp -dsimp (disch := (first | omega | (simp only [LN]; omega))) only [go_sem, ↓reduceIte, seval, h1])
      | ((with_reducible refine hK _ ?_); clear hK K)
      | (with_reducible first | refine AWP.seq ?_ | refine thenQ_normal ?_ | refine AWP.block ?_ | refine AWP.skip ?_ | refine AWP.ret ?_ | refine thenQ_ret ?_ | refine blockQ_ret ?_ | refine AWP.exit ?_ | refine thenQ_exit ?_ | refine blockQ_normal ?_ | refine blockQ_exit ?_)
      | refine blockQ_exit_ne rfl ?_
      | (with_reducible refine And.intro (by (first | with_reducible rfl | with_reducible assumption | omega | (simp only [LN]; first | done | with_reducible rfl | omega) | (simp only [NM, LN]; first | done | with_reducible assumption | omega) | (and_intros <;> first | with_reducible assumption | omega | (simp only [LN]; omega)) | fail)) ?_)
      | ((with_reducible refine AWP.condG (T := TT) (b := ?_) ?_ ?_); rotate_left; exact rfl)
      | (with_reducible first | refine CondG.t ?_ | refine CondG.f ?_ | refine CondG.not ?_)
      | ((with_reducible refine CondG.isT ?_ ?_); focus (first | with_reducible rfl | with_reducible assumption | (simp only [NM, LN]; first | done | with_reducible assumption | omega)))
      | ((with_reducible refine CondG.isF ?_ ?_); focus (first | with_reducible rfl | with_reducible assumption | (simp only [NM, LN]; first | done | with_reducible assumption | omega))))
    all_goals simp -dsimp (disch := (first | omega | (simp only [LN]; omega))) only [retQ, Tryd.results9, resVals, cellRV, resOf, St.rest, St.freeze, RT, go_sem, ↓reduceIte, seval]
  · refine sat_of_body tyOk Tryd.func9 rfl (by kernel_rfl) ⟨Nat.le_of_ble_eq_true rfl, Nat.le_of_ble_eq_true rfl⟩ fun w0 m0 F0 => ?_
    simp only [Tryd.ntmps9, envOf, Nat.reduceAdd]
    repeat' (first
      | ((first
        | with_reducible refine AWP.regionL tyOk fun K hK => ?_
        | ((with_reducible first | refine GOn.isT ?_ ?_ | refine HOn.isT ?_ ?_ | refine pickK.isT ?_ ?_); focus (first | with_reducible rfl | with_reducible assumption | (simp only [NM, LN]; first | done | with_reducible assumption | omega)))
        | ((with_reducible first | refine GOn.isF ?_ ?_ | refine HOn.isF ?_ ?_ | refine pickK.isF ?_ ?_); focus (first | with_reducible rfl | with_reducible assumption | (simp only [NM, LN]; first | done | with_reducible assumption | omega)))
        | ((with_reducible refine CallJ.is ?_); (first | refine CallJ.pure (valuesWork_sat) ?_ | ((apply CallJ.lentI); (focus (simp -dsimp (disch := (first | omega | (simp only [LN]; omega))) only [go_sem, ↓reduceIte, seval, h1, h2]; rfl)); (focus (first | exact (valuesWork_sat))))))
        | ((with_reducible refine CallH.is ?_); (first | refine CallH.intro (valuesWork_sat) ?_))) <;> simp -dsimp (disch := (first | omega | (simp only [LN]; omega))) only [go_sem, ↓reduceIte, seval, h1, h2])
      | ((with_reducible refine hK _ ?_); clear hK K)
      | (with_reducible first | refine AWP.seq ?_ | refine thenQ_normal ?_ | refine AWP.block ?_ | refine AWP.skip ?_ | refine AWP.ret ?_ | refine thenQ_ret ?_ | refine blockQ_ret ?_ | refine AWP.exit ?_ | refine thenQ_exit ?_ | refine blockQ_normal ?_ | refine blockQ_exit ?_)
      | refine blockQ_exit_ne rfl ?_
      | (with_reducible refine And.intro (by (first | with_reducible rfl | with_reducible assumption | omega | (simp only [LN]; first | done | with_reducible rfl | omega) | (simp only [NM, LN]; first | done | with_reducible assumption | omega) | (and_intros <;> first | with_reducible assumption | omega | (simp only [LN]; omega)) | fail)) ?_)
      | ((with_reducible refine AWP.condG (T := TT) (b := ?_) ?_ ?_); rotate_left; exact rfl)
      | (with_reducible first | refine CondG.t ?_ | refine CondG.f ?_ | refine CondG.not ?_)
      | ((with_reducible refine CondG.isT ?_ ?_); focus (first | with_reducible rfl | with_reducible assumption | (simp only [NM, LN]; first | done | with_reducible assumption | omega)))
      | ((with_reducible refine CondG.isF ?_ ?_); focus (first | with_reducible rfl | with_reducible assumption | (simp only [NM, LN]; first | done | with_reducible assumption | omega))))
    all_goals simp -dsimp (disch := (first | omega | (simp only [LN]; omega))) only [retQ, Tryd.results9, resVals, cellRV, resOf, St.rest, St.freeze, RT, go_sem, ↓reduceIte, seval]
theorem valuePredicates_sat (a b : Val) : Sat Tryd.prog 9 [.agg (eVal a), .agg (eVal b)] (.v (oB true)) := by
  cases ha : a.kind == 0 with
  | true => exact valuePredicates_null a b (.inl ha)
  | false =>
    cases hb : b.kind == 0 with
    | true => exact valuePredicates_null a b (.inr ⟨ha, hb⟩)
    | false =>
      obtain ⟨p1, p2, p3, e1, e2, e3⟩ := satV_ops a b ha hb
      have p4 := (satV_ops b a hb ha).1
      have an := cmpV_is.anti a b
      rcases Int.lt_trichotomy (cmpV a b) 0 with h | h | h
      · have g : ¬ cmpV b a < 0 := by omega
        have h' : cmpV a b ≠ 0 := by omega
        exact valuePredicates_L a b ha hb (by rw [p1]; simp [h]) (by rw [p2]; simp [h']) (by rw [p3]; simp [h]) (by rw [p4]; simp; omega) e1 e2 e3
      · have g : cmpV b a = 0 := by omega
        exact valuePredicates_E a b ha hb (by rw [p1, h]; rfl) (by rw [p2, h]; rfl) (by rw [p3, h]; rfl) (by rw [p4, g]; rfl) e1 e2 e3
      · have g : cmpV b a < 0 := by omega
        have h' : cmpV a b ≠ 0 := by omega
        exact valuePredicates_G a b ha hb (by rw [p1]; simp; omega) (by rw [p2]; simp [h']) (by rw [p3]; simp [h']; omega) (by rw [p4]; simp [g]) e1 e2 e3
end Go.Bw

namespace Go.Bw
open Go.RowKit
/-- The memory of a world, all of it read. -/
def memOf (w : World) : Mem := fun x => w.cell? x
def CRd (w : World) (cs : List Value) (ls : List L) : Prop := cs.length = ls.length ∧ ∀ (j : Nat) (l : L), ls[j]? = some l → ∃ v, cs[j]? = some v ∧ Rep (memOf w) v l

theorem CRd.append {w : World} {cs cs' : List Value} {ls ls' : List L} (h : CRd w cs ls) (h' : CRd w cs' ls') : CRd w (cs ++ cs') (ls ++ ls') := by
  refine ⟨by simp [h.1, h'.1], fun j l hj => ?_⟩
  rcases Nat.lt_or_ge j ls.length with hlt | hge
  · rw [List.getElem?_append_left hlt] at hj
    rw [List.getElem?_append_left (by rw [h.1]; exact hlt)]
    exact h.2 j l hj
  · rw [List.getElem?_append_right hge] at hj
    rw [List.getElem?_append_right (by rw [h.1]; exact hge), h.1]
    exact h'.2 _ l hj

/-- What reads at type t reads as e says, of some x that is good. -/
structure Rd (P : Program) (w : World) (t : TypeId) {α : Type} (e : α → List L) (good : α → Prop) : Prop where
  get : ∀ {H : Type} {enc : TypeId × Value → H} {base : Nat} {spare : Nat → Bool} {held : Bool} {n : Nat} {cs : List Value} {x : DataW H × List MemPlace}, DataW.trod enc P w base spare held n t cs = some x →
    (∀ n ∈ x.1.weights P t, n ≤ reachBytes) → ∃ y, good y ∧ CRd w cs (e y)

variable {P : Program} {w : World} {t : TypeId}

theorem CRd.one {v : Value} {l : L} (h : Rep (memOf w) v l) : CRd w [v] [l] := by
  refine ⟨rfl, fun j x hj => ?_⟩
  cases j with
  | zero => simp only [List.getElem?_cons_zero, Option.some.injEq] at hj; subst hj; exact ⟨v, rfl, h⟩
  | succ j => simp at hj

theorem rd_int {k : IntKind} (ht : P.underlying t = some (.int k)) : Rd P w t (fun n => [.int k n]) fun n => (Lit.int k n).wf = true := by
  constructor
  intro H enc base spare held n cs x h _
  obtain ⟨m, rfl, rfl, hw⟩ := DataW.trod_int ht h
  exact ⟨m, hw, .one (.int k m)⟩
theorem rd_string (ht : P.underlying t = some .string) : Rd P w t (fun s => [.str s]) fun s => s.size ≤ reachBytes := by
  constructor
  intro H enc base spare held n cs x h hw
  obtain ⟨s, rfl, rfl, _⟩ := DataW.trod_string ht h
  exact ⟨s, hw s.size (by simp [DataW.weights]), .one (.str s)⟩
theorem Rd.to {α β : Type} {e : α → List L} {e' : β → List L} {good : α → Prop} {good' : β → Prop} (h : Rd P w t e good) (f : α → β) (he : ∀ x, e' (f x) = e x) (hg : ∀ x, good x → good' (f x)) : Rd P w t e' good' := by
  constructor
  intro H enc base spare held n cs x h1 h2
  obtain ⟨y, h3, h4⟩ := h.get h1 h2
  exact ⟨f y, hg y h3, by rw [he]; exact h4⟩

/-- The fields of a struct, from the cell off on. -/
structure RdF (P : Program) (w : World) (fs : List Field) (off : Nat) {α : Type} (e : α → List L) (good : α → Prop) : Prop where
  get : ∀ {H : Type} {enc : TypeId × Value → H} {base : Nat} {spare : Nat → Bool} {held : Bool} {n : Nat} {cs : List Value} {xs : List (DataW H × List MemPlace)}, xs.length = fs.length →
    (∀ (i : Nat) (f : Field), fs[i]? = some f → DataW.trod enc P w base spare held n f.type ((cs.drop f.offset).take (P.cellsOf f.type)) = xs[i]?) →
    (∀ n ∈ DataW.weightsEach P (fs.map (·.type)) (xs.map (·.1)), n ≤ reachBytes) → off + (fs.map fun f => P.cellsOf f.type).sum = cs.length → ∃ y, good y ∧ CRd w (cs.drop off) (e y)

theorem rdF_nil {off : Nat} : RdF P w [] off (fun _ : Unit => []) fun _ => True := by
  constructor
  intro H enc base spare held n cs xs _ _ _ hl
  refine ⟨(), trivial, ?_⟩
  have : cs.drop off = [] := List.drop_eq_nil_of_le (by simp at hl; omega)
  rw [this]
  exact ⟨rfl, fun j l hj => by simp at hj⟩
theorem rdF_cons {f : Field} {fs : List Field} {off sz : Nat} {α β : Type} {e0 : α → List L} {e1 : β → List L} {g0 : α → Prop} {g1 : β → Prop} (hf : f.offset = off) (hsz : P.cellsOf f.type = sz) (h0 : Rd P w f.type e0 g0) (h1 : RdF P w fs (off + sz) e1 g1) :
    RdF P w (f :: fs) off (fun p : α × β => e0 p.1 ++ e1 p.2) fun p => g0 p.1 ∧ g1 p.2 := by
  constructor
  intro H enc base spare held n cs xs hx ht hw hl
  cases xs with
  | nil => simp at hx
  | cons x xs =>
    have k0 := ht 0 f rfl
    simp only [List.getElem?_cons_zero] at k0
    obtain ⟨y, h2, h3⟩ := h0.get k0 fun n hn => hw n (by simp only [List.map_cons, DataW.weightsEach, List.mem_append]; exact .inl hn)
    obtain ⟨z, h4, h5⟩ := h1.get (cs := cs) (by simpa using hx) (fun i f' hi => by have := ht (i + 1) f' (by simpa using hi); simpa using this) (fun n hn => hw n (by simp only [List.map_cons, DataW.weightsEach, List.mem_append]; exact .inr hn)) (by simp only [List.map_cons, List.sum_cons, hsz] at hl; omega)
    refine ⟨(y, z), ⟨h2, h4⟩, ?_⟩
    have e : cs.drop off = (cs.drop f.offset).take (P.cellsOf f.type) ++ cs.drop (off + sz) := by
      rw [hf, hsz, ← List.drop_drop, List.take_append_drop]
    rw [e]
    exact h3.append h5
theorem rd_struct {fs : Array Field} {α : Type} {e : α → List L} {good : α → Prop} (ht : P.underlying t = some (.struct fs)) (hc : P.cellsOf t = (fs.toList.map fun f => P.cellsOf f.type).sum) (h : RdF P w fs.toList 0 e good) : Rd P w t e good := by
  constructor
  intro H enc base spare held n cs x h1 h2
  obtain ⟨xs, m, rfl, rfl, k1, k2, k3⟩ := DataW.trod_struct ht h1
  obtain ⟨y, h3, h4⟩ := h.get (cs := cs) (by simpa using k2) (fun i f hi => k3 i f (by simpa using hi)) (fun n hn => h2 n (by simp only [DataW.weights, ht]; exact hn)) (by rw [k1, hc]; simp)
  exact ⟨y, h3, by simpa using h4⟩

theorem rd_struct3 {f0 f1 f2 : Field} {z0 z1 z2 : Nat} {α β γ : Type} {e0 : α → List L} {e1 : β → List L} {e2 : γ → List L} {g0 : α → Prop} {g1 : β → Prop} {g2 : γ → Prop} (ht : P.underlying t = some (.struct #[f0, f1, f2])) (ho : f0.offset = 0 ∧ f1.offset = 0 + z0 ∧ f2.offset = 0 + z0 + z1) (hz : P.cellsOf f0.type = z0 ∧ P.cellsOf f1.type = z1 ∧ P.cellsOf f2.type = z2) (hc : P.cellsOf t = 0 + z0 + z1 + z2) (h0 : Rd P w f0.type e0 g0) (h1 : Rd P w f1.type e1 g1) (h2 : Rd P w f2.type e2 g2) : Rd P w t (fun p : α × β × γ × Unit => e0 p.1 ++ (e1 p.2.1 ++ (e2 p.2.2.1 ++ []))) (fun p => g0 p.1 ∧ g1 p.2.1 ∧ g2 p.2.2.1 ∧ True) :=
  rd_struct ht (by rw [hc]; simp [hz.1, hz.2.1, hz.2.2]; try omega) (rdF_cons ho.1 hz.1 h0 (rdF_cons ho.2.1 hz.2.1 h1 (rdF_cons ho.2.2 hz.2.2 h2 (rdF_nil))))
/-- A value that reads so. -/
theorem vrep_agg {cs : Array Value} {ls : List L} {ω : Wh} (h : CRd w cs.toList ls) : VRep (memOf w) ω (.agg cs) (.agg ls) := by
  refine ⟨cs, rfl, by simpa using h.1, fun j l hj => ?_⟩
  obtain ⟨v, h1, h2⟩ := h.2 j l hj
  exact ⟨v, by simpa using h1, h2.erep⟩
/-- The program has none of the library's variables that the contracts ask for. -/
def NoLib (P : Program) : Bool := (P.globalNamed "internal/strconv.uint64pow10").isNone && (P.globalNamed "strconv.ErrSyntax").isNone && (P.globalNamed "strconv.ErrRange").isNone
theorem var_kept {P : Program} {w w' : World} {F : Nat → Prop} (hF : ∀ k, ¬ F k) (hk : Keeps F w w') {nm : String} {x : Array Value} (h : w.var? P nm = some x) : w'.var? P nm = some x := by
  unfold World.var? at h ⊢
  cases hg : P.globalNamed nm with
  | none => rw [hg] at h; cases h
  | some g =>
    rw [hg] at h
    have hlt : g < w.heap.size := by
      rcases Nat.lt_or_ge g w.heap.size with hc | hc
      · exact hc
      · have e : w.heap[g]? = none := by simp [hc]
        simp only [Option.bind_some, e] at h
        cases h
    simp only [Option.bind_some, hk.block g hlt (hF g)] at h ⊢
    exact h
theorem goodC_none {P : Program} {w : World} {F : Nat → Prop} (hg : NoLib P = true ∨ LaidW P w) (hF : ∀ k, ¬ F k) : GoodC P w F := by
  intro w' hk
  rcases hg with hg | hg
  · simp only [NoLib, Bool.and_eq_true, Option.isNone_iff_eq_none] at hg
    obtain ⟨⟨h1, h2⟩, h3⟩ := hg
    exact ⟨fun h => absurd h (by rw [h1]; decide), fun h => absurd h (by rw [h2]; decide), fun h => absurd h (by rw [h3]; decide)⟩
  · refine ⟨fun h => var_kept hF hk (hg.pow h), fun h => ?_, fun h => ?_⟩
    · obtain ⟨tp, p, e⟩ := hg.syn h
      exact ⟨tp, p, var_kept hF hk e⟩
    · obtain ⟨tp, p, e⟩ := hg.rng h
      exact ⟨tp, p, var_kept hF hk e⟩

/-- A contract of a function with a body, at values that read so in the world: it is called, and below the old heap nothing turns. -/
theorem calls_of_sat {f : FuncId} {fn : Func} {c : Code} {xs : List V} {b : Bool} {vs : List Value} (hf : P.funcs[f]? = some fn) (hb : fn.body = some c) (hn : (fn.name == "runtime.NumGoroutine") = false) (h : Sat P f xs (.v (.one (.bool b))))
    (hA : ∀ ω, ArgsRep (memOf w) ω vs xs) (hg : NoLib P = true ∨ LaidW P w := by exact .inl (by kernel_rfl)) : Calls P f vs.toArray w fun e w' => e = .returned (.bool b) ∧ Below w.heap.size w w' := by
  have ω : Wh := { box := fun _ => 0, row := fun _ => { blk := none, cap := 0, sz := 0 }, f := fun _ _ _ => False }
  have hCI : CI P w (memOf w) (handed [] [] ω) (roots [] []) a0 w (memOf w) ω := by
    refine { size := rfl, defers := rfl, keeps := ⟨rfl, rfl, rfl, Nat.le_refl _, fun _ _ _ => rfl⟩, mle := Mem.le_refl _, mold := fun _ _ _ => rfl, ok := fun _ _ h => h, env := fun _ _ h => (by cases h), box := fun _ _ h => (by cases h), row := fun _ _ h => (by cases h), fresh := fun κ id hl => ?_, apart := fun κ id κ' id' hl => ?_, home := ⟨fun id hid => ?_, fun _ _ h => (by simp [handed, look] at h), fun _ _ h => (by simp [handed, look] at h)⟩, good := goodC_none hg fun k hk => owned_none hk }
    · cases κ <;> exact absurd hl (by simp [St.live, roots, look])
    · cases κ <;> exact absurd hl (by simp [St.live, roots, look])
    · simp [handed, look] at hid
  have h1 := h.call (memOf w) w vs ω hCI (hA ω)
  rcases h1 with ⟨v, w', h2, _⟩ | ⟨_, h2⟩
  · have h3 : (callFunc f vs.toArray).run P w = .ok (.enter f vs.toArray) w := by
      simp only [callFunc, Sem.run_bind, program, Sem.run, Result.andThen_ok, hf]
      rw [hn, hb]
      simp
    rw [h3] at h2
    cases h2
  · refine h2.mono fun e w' ⟨v, he, m', ω', hC, hv⟩ => ?_
    have hv : v = .bool b := by
      have hv : Rep m' v (.bool b) := hv
      cases hv
      rfl
    subst hv
    refine ⟨he, hC.keeps.os, hC.keeps.tape, hC.keeps.output, hC.keeps.size, fun k hk => hC.keeps.block k hk fun ho => ?_⟩
    obtain ⟨κ, id, hl, _⟩ := ho
    cases κ <;> exact absurd hl (by simp [St.live, roots, look])

theorem argsRep_nil {m : Mem} {ω : Wh} : ArgsRep m ω [] [] := ⟨rfl, fun i x h => by simp at h⟩
theorem argsRep_cons {m : Mem} {ω : Wh} {v : Value} {x : V} {vs : List Value} {xs : List V} (h : VRep m ω v x) (hs : ArgsRep m ω vs xs) : ArgsRep m ω (v :: vs) (x :: xs) := by
  refine ⟨by simp [hs.1], fun i y hy => ?_⟩
  cases i with
  | zero => simp only [List.getElem?_cons_zero, Option.some.injEq] at hy; subst hy; exact ⟨v, rfl, h⟩
  | succ i => exact hs.2 i y (by simpa using hy)

section
open Go.ChangeShapes
variable {H : Type} {enc : TypeId × Value → H} {w' : World} {base : Nat} {sp : Nat → Bool} {held : Bool}
theorem trodAll_carry (hs : ∀ p : MemPlace, p.block < w.heap.size → w.sameAt w' p) : ∀ {ts : List TypeId} {vs : List Value} {ds : List (DataW H)} {ps : List MemPlace}, DataW.TrodAll enc P w base sp held ts vs ds ps → (∀ p ∈ ps, p.block < w.heap.size) → DataW.TrodAll enc P w' base sp held ts vs ds ps
  | [], vs, ds, ps, h, _ => by
    obtain ⟨rfl, rfl, rfl⟩ := trodAll_nil h
    exact rfl
  | t :: ts, vs, ds, ps, h, hp => by
    obtain ⟨v, vs1, d, ds1, a, b, rfl, rfl, rfl, ⟨n, h1⟩, h2⟩ := trodAll_cons h
    exact ⟨a, b, ⟨n, DataW.trod_carry n _ _ _ h1 fun p hp' => hs p (hp p (by simp [hp']))⟩, trodAll_carry hs h2 fun p hp' => hp p (by simp [hp']), rfl⟩
theorem trodAll_below (hl : laidOutB P = true) (hb : Below w.heap.size w w') : ∀ {ts : List TypeId} {vs : List Value} {ds : List (DataW H)} {ps : List MemPlace}, (ts.all fun t => P.readableRec t && decide (t < P.types.size)) = true → DataW.TrodAll enc P w 0 (fun _ => true) true ts vs ds ps → (∀ p ∈ ps, p.block < w.heap.size) →
    DataW.TrodAll enc P w' 0 (fun b => decide (b < w.heap.size)) true ts vs ds ps
  | [], vs, ds, ps, _, h, _ => by
    obtain ⟨rfl, rfl, rfl⟩ := trodAll_nil h
    exact rfl
  | t :: ts, vs, ds, ps, hr, h, hp => by
    obtain ⟨v, vs1, d, ds1, a, b, rfl, rfl, rfl, h1, h2⟩ := trodAll_cons h
    simp only [List.all_cons, Bool.and_eq_true, decide_eq_true_eq] at hr
    exact ⟨a, b, Below.trod hl hr.1.1 hr.1.2 h1 hb fun p hp' => hp p (by simp [hp']), trodAll_below hl hb hr.2 h2 fun p hp' => hp p (by simp [hp']), rfl⟩

/-- A law that only reads and says true: what it leaves. -/
theorem post_of_below {f : Func} {s : ChangeSpec} {apart fresh again : Bool} {args : Array Value} {ds gs : List (DataW H)} {before : List MemPlace} {rt : TypeId} (hl : laidOutB P = true) (hrt : f.resultTypes = #[rt]) (hub : P.underlying rt = some .bool)
    (hread : (f.params.toList.all fun t => P.readableRec t && decide (t < P.types.size)) = true) (hvs : s.vars = [])
    (hW : DataW.Whole enc P f.params.toList s.vars apart w args.toList ds gs before) (hb : Below w.heap.size w w')
    (hfn : s.fn H ds = { results := [.lit (.bool true)], args := ds }) : s.post enc P f apart fresh false again w args (.bool true) w' := by
  have hW0 := hW
  have hlt : ∀ p ∈ before, p.block < w.heap.size := fun p hp => by simpa using hW.lt p hp
  obtain ⟨p, q, hA, hV, rfl, hz, hn⟩ := hW
  rw [hvs] at hV
  have hgq : gs = [] ∧ q = [] := by
    cases gs with
    | nil => exact ⟨rfl, hV⟩
    | cons g gs => exact absurd hV (by simp [DataW.TrodVars])
  obtain ⟨rfl, rfl⟩ := hgq
  simp only [List.append_nil] at hlt hz hn ⊢
  have hres : ∀ (b : Nat) (sp : Nat → Bool) (hd : Bool), DataW.TrodAll enc P w' b sp hd f.resultTypes.toList ((Value.bool true).resultList f.resultTypes.size) (s.fn H (ds ++ [])).results [] := by
    intro b sp hd
    rw [hrt, List.append_nil, hfn]
    exact ⟨[], [], ⟨1, by simp [DataW.trod, hub, Value.cells]⟩, rfl, rfl⟩
  have hargs1 := trodAll_below (P := P) hl hb hread hA hlt
  have hargs2 := trodAll_carry (P := P) (w := w) (w' := w') (fun p hp => hb.same hp) hA hlt
  have hvars : ∀ sp, DataW.TrodVars enc P w' sp s.vars (s.fn H (ds ++ [])).vars [] := by
    intro sp
    rw [hvs, List.append_nil, hfn]
    exact rfl
  refine ⟨ds, [], p ++ [], [], p, [], hW0, hres _ _ _, by rw [List.append_nil, hfn]; exact hargs1, hvars _, World.keptBut_mono (fun p hp => ⟨by simpa using hp.1, ?_⟩) (hb.frame fun x => x ∈ p ∧ True), fun _ => ?_⟩
  · simpa using hp.1
  · refine ⟨?_, _, _, ([] ++ p) ++ [], ⟨[] ++ p, [], trodAll_append hargs2 (hres _ _ _), hvars _, rfl, ?_, ?_⟩, ?_⟩
    · exact ok_one hrt rfl (okWide_bool_mk hub true)
    · intro b off hp
      have hp : MemPlace.cell b off ∈ p := by simpa using hp
      rw [hb.frozen (hlt _ hp)]
      exact hz b off hp
    · intro ha
      simpa using hn ha
    · intro p hp _
      simpa using hp
end
end Go.Bw

namespace Go.Bw
open Go.Proofs
abbrev IntOk (n : Int) : Prop := (Lit.int .i64 n).wf = true
structure Val.Ok (v : Val) : Prop where
  kind : IntOk v.kind
  int : IntOk v.int
  text : v.text.size ≤ reachBytes
structure Col.Ok (c : Col) : Prop where
  name : c.name.size ≤ reachBytes
  kind : IntOk c.kind
structure Tbl.Ok (t : Tbl) : Prop where
  name : t.name.size ≤ reachBytes
  cols : t.cols.length * 32 ≤ reachBytes ∧ ∀ c ∈ t.cols, c.Ok
  pk : t.pk.length * 8 ≤ reachBytes ∧ ∀ n ∈ t.pk, IntOk n
structure FK.Ok (f : FK) : Prop where
  table : f.table.size ≤ reachBytes
  cols : f.cols.length * 8 ≤ reachBytes ∧ ∀ n ∈ f.cols, IntOk n
  ref : f.ref.size ≤ reachBytes
structure Con.Ok (c : Con) : Prop where
  table : c.table.size ≤ reachBytes
  left : IntOk c.left
  op : c.op.size ≤ reachBytes
  right : IntOk c.right
  value : c.value.Ok
structure Sch.Ok (s : Sch) : Prop where
  tables : s.tables.length * 64 ≤ reachBytes ∧ ∀ t ∈ s.tables, t.Ok
  fks : s.fks.length * 56 ≤ reachBytes ∧ ∀ f ∈ s.fks, f.Ok
  cons : s.cons.length * 80 ≤ reachBytes ∧ ∀ c ∈ s.cons, c.Ok
def Row.Ok (r : Row) : Prop := r.length * 32 ≤ reachBytes ∧ ∀ v ∈ r, v.Ok
def RowsOk (rs : List Row) : Prop := rs.length * 24 ≤ reachBytes ∧ ∀ r ∈ rs, Row.Ok r
structure Rel.Ok (r : Rel) : Prop where
  table : r.table.size ≤ reachBytes
  rows : RowsOk r.rows
structure Chg.Ok (c : Chg) : Prop where
  kind : IntOk c.kind
  table : c.table.size ≤ reachBytes
  key : Row.Ok c.key
  row : Row.Ok c.row
variable {w : World}
theorem rd_I : Rd Tryd.prog w 3 (fun n => [.int .i64 n]) IntOk := rd_int Tryd.underlying3
theorem rd_S : Rd Tryd.prog w 9 (fun s => [.str s]) fun s => s.size ≤ reachBytes := rd_string Tryd.underlying9
theorem cells_int : Tryd.prog.cellsOf 3 = 1 := by kernel_rfl
theorem cells_string : Tryd.prog.cellsOf 9 = 1 := by kernel_rfl
theorem cells_Value : Tryd.prog.cellsOf 50 = 3 := by kernel_rfl
theorem rd_val : Rd Tryd.prog w 50 eVal Val.Ok :=
  (rd_struct3 Tryd.underlying50 ⟨rfl, rfl, rfl⟩ ⟨cells_int, cells_int, cells_string⟩ cells_Value rd_I rd_I rd_S).to (fun p => ⟨p.1, p.2.1, p.2.2.1⟩) (fun _ => by simp [eVal]) fun _ h => ⟨h.1, h.2.1, h.2.2.1⟩
end Go.Bw

namespace Go.Bw
open Go.Proofs
theorem laid : laidOutB Tryd.prog = true := by kernel_rfl
theorem ownK : ownKnob Tryd.prog.godebug = none := by kernel_rfl

variable {w : World}
end Go.Bw

namespace Go.Bw
open Go.Proofs
attribute [local go_sem ↓] VOps_nil VOps_cons VOp_callJ VVal_callH VOps_guard GOn_tt GOn_ff GOn_tf GOn_ft GOn_not GOn_none HOn_none HOn_tt HOn_ff HOn_tf HOn_ft HOn_not VHead_nil VHead_cons VHead_guard VVal_move VVal_assign VVal_pickE pickK_true pickK_false VVal_not VVal_neg negK_int VVal_load loadK_fz loadK_ptr loadK_eptr VVal_fieldAddr VVal_field VVal_indexAddr idxK_sl idxK_ref VVal_index indexK_str VVal_extract VVal_binOp binK_one binK_agg VVal_build VVal_buildSlice VVal_makeFunc VVal_slice sliceK_str sliceK_sl sliceK_nil sliceK_ref VVal_slice3 VVal_nilCheck VVal_convert convKk_int convKk_str VVal_len VVal_max VVal_min VOp_assign assignK_int assignK_bool assignK_str assignK_clo assignK_sl assignK_nil assignK_ref assignK_agg assignK_fz assignK_ptr assignK_eptr assignK_any VOp_box VOp_alloc VOp_store storeK_ptr storeK_eptr VOp_buildSlice VOp_append appK_rr appK_rs appK_rn appK_ri appK_nr appK_ns appK_nn appK_ni appStd_eq VOp_copy copyK_ref VOp_clear clearK_ref VOp_cap VOp_eqNil VOp_move VOp_pick VOp_not VOp_neg VOp_load VOp_fieldAddr VOp_field VOp_indexAddr VOp_index VOp_extract VOp_binTmp VOp_binInt VOp_binStr VOp_build VOp_makeFunc VOp_slice VOp_nilCheck VOp_convert VOp_len VOp_max VOp_min mO_some mT_some pk_some pk_none look_cons del_cons
attribute [local go_sem] guardB gOf int_bne beq_true beq_false Bool.not_not gSlot pickK_true pickK_false negK_int loadK_fz loadK_ptr loadK_eptr idxK_sl idxK_ref indexK_str binK_one binK_agg sliceK_str sliceK_sl sliceK_nil sliceK_ref convKk_int convKk_str maxL minL assignK_int assignK_bool assignK_str assignK_clo assignK_sl assignK_nil assignK_ref assignK_agg assignK_fz assignK_ptr assignK_eptr assignK_any nilRow_eq takeRow_eq appended_eq storeK_ptr storeK_eptr store_mk appIn_eq appMk_eq marked_eq ovOut_nil ovOut_cons ovIn_nil ovIn_cons padRow_eq ysC capK_nil capK_ref ioSt_mk outB_nil outR_nil outB outR inB_nil inB_cons inR_nil inR_cons L.kl L.kl0 L.ids L.ids0 Option.getD_some evalO constA mO_some mT_some put_mk putO_some putO_none okD_some okD_none pk_some pk_none look_nil del_nil sput noBox_mk noRow_mk newBox_eq newRow0_eq St.killRow RowC.kill rowMap_mk rowOf ovAll ovAdd ovDel ovGet ovShift dstOf ysOf overlay_nil overlay_nil' overlay A.map V.map L.noPtr L.noPtr0 L.noRow L.noRow0 L.peek L.norm L.flat clos_int clos_bool clos_str clos_sl clos_nil clos_any clos_fz L.clos L.isFz L.kd moveL fieldOff eqCells eqCell eqOp oneOf boolOf intOfA tupOf vOf aggOf isPtrLike isSlice lenKind lenL nL elemTI loadV asV binL intBin intDivL shrL boolBin strBin boundN partCells fillL placesOf setL chunks repL capsOf capL callOf argsOf frzV_int frzV_bool frzV_str frzV_sl frzV_nil frzV_fz frzV_any frzV_own frzV_clo frzV_ref frzV_eptr frzV_ptr frzRow_nil frzRow_ov frzRs_nil frzRs_cons frzCs_nil frzCs_cons frzO_some frzO_none frzN_int frzN_bool frzN_str frzN_sl frzN_nil frzN_any frzN_own List.map_cons List.map_nil List.cons_append List.nil_append List.append_nil List.length_cons List.length_nil List.length_map List.length_append List.headD_cons List.tail_cons List.getElem?_cons_zero List.getElem?_cons_succ List.drop_zero List.drop_succ_cons List.drop_nil List.take_succ_cons List.take_zero List.take_nil List.take_length List.filter_cons List.filter_nil List.elem_cons List.elem_nil List.all_cons List.all_nil Option.bind_some Option.map_some Option.some.injEq bne_self_eq_false beq_self_eq_true if_true if_false Bool.false_eq_true true_and and_true and_self Nat.zero_add Nat.add_zero Nat.zero_le Int.toNat_natCast Int.toNat_zero Option.isSome_some List.getElem?_toArray decide_true decide_false ge_iff_le gt_iff_lt Bool.not_true Bool.not_false Nat.le_refl Bool.and_true Bool.true_and Bool.and_false Bool.false_and eVal eRow eRow1 eRows eInt1 eInts eCol eCols eTbl eTbls eFK eFKs eCon eCons eSch eRel eInst eChg eChgs szOf getD_map_lt wrap_nat wrap_in List.take_of_length_le frz_eVal frz_eRow1 frz_eInt1 frz_eCol frz_eTbl frz_eFK frz_eCon frz_eRel frz_eChg noOwn_nil noOwn_cons noOwn_append L.isOwn noOwn_eVal noOwn_eRow1 noOwn_eInt1 noOwn_eCol noOwn_eTbl noOwn_eFK noOwn_eCon noOwn_eRel noOwn_eChg convK_2 convK_3 convK_5 convK_12 convK_21 convK_59 convK_163 convK_170 convK_176 convK_180 TT_2 TT_3 TT_4 TT_5 TT_9 TT_12 TT_13 TT_21 TT_22 TT_23 TT_24 TT_25 TT_26 TT_27 TT_28 TT_38 TT_39 TT_40 TT_41 TT_42 TT_45 TT_46 TT_47 TT_48 TT_49 TT_50 TT_51 TT_52 TT_59 TT_65 TT_66 TT_67 TT_68 TT_76 TT_77 TT_92 TT_93 TT_94 TT_114 TT_115 TT_132 TT_163 TT_170 TT_176 TT_180 TT_186 TT_187 TT_192 TT_193 boolTy_4 eqK_46 eqK_50 eqK_52 eqK_193
attribute [local congr] VOps.congr VHead.congr VOp.congr VVal.congr pk.congr assignK.congr appK.congr appStd.congr copyK.congr clearK.congr storeK.congr loadK.congr idxK.congr sliceK.congr indexK.congr binK.congr convKk.congr
open Go.ChangeShapes Go.RowKit Go.Proofs.YtinlgpgdinnefaaDoor Go.Proofs

theorem gPow : Tryd.prog.globalNamed "internal/strconv.uint64pow10" = some 1 := by kernel_rfl
theorem gSyn : Tryd.prog.globalNamed "strconv.ErrSyntax" = some 2 := by kernel_rfl
theorem gRng : Tryd.prog.globalNamed "strconv.ErrRange" = some 3 := by kernel_rfl
theorem tPow : (Tryd.prog.globals[1]?).map (·.type) = some 179 := by kernel_rfl
theorem tSyn : (Tryd.prog.globals[2]?).map (·.type) = some 96 := by kernel_rfl
theorem tRng : (Tryd.prog.globals[3]?).map (·.type) = some 96 := by kernel_rfl
theorem errStar : "*" ++ "errors.errorString" = "*errors.errorString" := by decide
theorem errRow (u : TypeId) (h : Tryd.prog.typeName? 3 u = some "*errors.errorString") : u = 191 :=
  typeName_ptr_named (nm := "errors.errorString") (by rw [errStar]; kernel_rfl) (by kernel_rfl) (by decide) u (by rw [errStar]; exact h)
theorem errCells : Tryd.prog.cellsOf 193 = 1 := by kernel_rfl
theorem strCells : Tryd.prog.cellsOf 9 = 1 := by kernel_rfl
theorem laidW_vals {W : World} (h : laidMet Tryd.prog Rows.valueOrderTotalRow.laid W) : LaidW Tryd.prog W where
  pow := fun _ => Lib.tabIs_of_head (k := .u64) (zs := (List.range 20).map fun i => ((10 ^ i : Nat) : Int)) gPow tPow Tryd.underlying179 Tryd.underlying163 (by kernel_rfl) (by kernel_rfl) h.tail.tail
  rng := fun _ => let ⟨_, _, h, _⟩ := (laid_sentinel h.tail.tail.tail gRng tRng Tryd.underlying96 errRow Tryd.underlying191 Tryd.underlying193 rfl rfl Tryd.underlying9 errCells strCells); ⟨_, _, h⟩
  syn := fun _ => let ⟨_, _, h, _⟩ := (laid_sentinel h.tail.tail.tail.tail gSyn tSyn Tryd.underlying96 errRow Tryd.underlying191 Tryd.underlying193 rfl rfl Tryd.underlying9 errCells strCells); ⟨_, _, h⟩
end Go.Bw
