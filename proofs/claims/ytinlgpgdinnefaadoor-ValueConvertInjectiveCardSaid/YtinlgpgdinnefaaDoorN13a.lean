/-
  WHAT IS PROVED HERE, of this translation: look_mem, tyAll, tyOk, TT_2, TT_3, TT_4, TT_5, TT_9, TT_12, TT_13, TT_21, TT_22, TT_23, TT_24, TT_25, TT_26, TT_27, TT_28, TT_38, TT_39, TT_40, TT_41, TT_42, TT_45, TT_46, TT_47, TT_48, TT_49, TT_50, TT_51, .., convert_high, convert_null, convert_same, convert_it, convert_bt, convert_tb, convert_ti, convert_ib, convert_ibx, convert_bi, convert_sat, parse_digits, digits_head, parseMag_digits, atoi_itoa, itoaB_data, itoa_size, pInt_itoa, pInt_true, boolB_true, boolB_false, pBool_bool, pBool_true, boolB_size, convV_ok, convV_range, convV_null, convV_back, valueConvertInjective_sat.
  A theorem that ends in sat says what the function it names returns, whatever the state it is called in; the bounds on its arguments stand ahead of it.
-/
import Derived.Test.YtinlgpgdinnefaaDoorProg
import Derived.KernelRfl
import Derived.Lib.Bytealg
import Derived.Laws.Externs
import Derived.Lib.AppendIntMem
import Derived.Laws.Strings
import Derived.Lib.ItoaLen
import Derived.Test.YtinlgpgdinnefaaDoorKA
import Derived.Test.YtinlgpgdinnefaaDoorKB
import Derived.Test.YtinlgpgdinnefaaDoorKC
import Derived.Test.YtinlgpgdinnefaaDoorKD
import Derived.Test.YtinlgpgdinnefaaDoorKZ
import Derived.Test.YtinlgpgdinnefaaDoorKV
import Derived.Test.YtinlgpgdinnefaaDoorKY
set_option linter.unusedSimpArgs false
set_option linter.unusedVariables false

namespace Go.Bw
open Go.Proofs
def tyTab : List (Nat × TI) := [
  (2, { size := 1, bytes := 8, agg := false, elem := none, fields := none, isStr := false, zero := some [.int .i64 0] }),
  (3, { size := 1, bytes := 8, agg := false, elem := none, fields := none, isStr := false, zero := some [.int .i64 0] }),
  (4, { size := 1, bytes := 1, agg := false, elem := none, fields := none, isStr := false, zero := some [.bool false] }),
  (5, { size := 1, bytes := 1, agg := false, elem := none, fields := none, isStr := false, zero := some [.int .u8 0] }),
  (9, { size := 1, bytes := 16, agg := false, elem := none, fields := none, isStr := true, zero := some [.str ByteArray.empty] }),
  (12, { size := 1, bytes := 8, agg := false, elem := none, fields := none, isStr := false, zero := some [.int .u64 0] }),
  (13, { size := 2, bytes := 24, agg := true, elem := none, fields := some [(0, 9), (1, 12)], isStr := false, zero := some [.str ByteArray.empty, .int .u64 0] }),
  (21, { size := 1, bytes := 4, agg := false, elem := none, fields := none, isStr := false, zero := some [.int .i32 0] }),
  (22, { size := 1, bytes := 24, agg := false, elem := some 46, fields := none, isStr := false, zero := some [.nil 3] }),
  (23, { size := 1, bytes := 24, agg := false, elem := some 3, fields := none, isStr := false, zero := some [.nil 1] }),
  (24, { size := 3, bytes := 64, agg := true, elem := none, fields := some [(0, 9), (1, 22), (2, 23)], isStr := false, zero := some [.str ByteArray.empty, .nil 3, .nil 1] }),
  (25, { size := 3, bytes := 64, agg := true, elem := none, fields := some [(0, 9), (1, 22), (2, 23)], isStr := false, zero := some [.str ByteArray.empty, .nil 3, .nil 1] }),
  (26, { size := 1, bytes := 24, agg := false, elem := some 28, fields := none, isStr := false, zero := some [.nil 1] }),
  (27, { size := 1, bytes := 24, agg := false, elem := some 50, fields := none, isStr := false, zero := some [.nil 3] }),
  (28, { size := 1, bytes := 24, agg := false, elem := some 50, fields := none, isStr := false, zero := some [.nil 3] }),
  (38, { size := 1, bytes := 24, agg := false, elem := some 25, fields := none, isStr := false, zero := some [.nil 3] }),
  (39, { size := 1, bytes := 24, agg := false, elem := some 48, fields := none, isStr := false, zero := some [.nil 3] }),
  (40, { size := 1, bytes := 24, agg := false, elem := some 52, fields := none, isStr := false, zero := some [.nil 7] }),
  (41, { size := 3, bytes := 72, agg := true, elem := none, fields := some [(0, 38), (1, 39), (2, 40)], isStr := false, zero := some [.nil 3, .nil 3, .nil 7] }),
  (42, { size := 3, bytes := 72, agg := true, elem := none, fields := some [(0, 38), (1, 39), (2, 40)], isStr := false, zero := some [.nil 3, .nil 3, .nil 7] }),
  (45, { size := 3, bytes := 32, agg := true, elem := none, fields := some [(0, 9), (1, 3), (2, 4)], isStr := false, zero := some [.str ByteArray.empty, .int .i64 0, .bool false] }),
  (46, { size := 3, bytes := 32, agg := true, elem := none, fields := some [(0, 9), (1, 3), (2, 4)], isStr := false, zero := some [.str ByteArray.empty, .int .i64 0, .bool false] }),
  (47, { size := 3, bytes := 56, agg := true, elem := none, fields := some [(0, 9), (1, 23), (2, 9)], isStr := false, zero := some [.str ByteArray.empty, .nil 1, .str ByteArray.empty] }),
  (48, { size := 3, bytes := 56, agg := true, elem := none, fields := some [(0, 9), (1, 23), (2, 9)], isStr := false, zero := some [.str ByteArray.empty, .nil 1, .str ByteArray.empty] }),
  (49, { size := 3, bytes := 32, agg := true, elem := none, fields := some [(0, 3), (1, 3), (2, 9)], isStr := false, zero := some [.int .i64 0, .int .i64 0, .str ByteArray.empty] }),
  (50, { size := 3, bytes := 32, agg := true, elem := none, fields := some [(0, 3), (1, 3), (2, 9)], isStr := false, zero := some [.int .i64 0, .int .i64 0, .str ByteArray.empty] }),
  (51, { size := 7, bytes := 80, agg := true, elem := none, fields := some [(0, 9), (1, 3), (2, 9), (3, 3), (4, 50)], isStr := false, zero := some [.str ByteArray.empty, .int .i64 0, .str ByteArray.empty, .int .i64 0, .int .i64 0, .int .i64 0, .str ByteArray.empty] }),
  (52, { size := 7, bytes := 80, agg := true, elem := none, fields := some [(0, 9), (1, 3), (2, 9), (3, 3), (4, 50)], isStr := false, zero := some [.str ByteArray.empty, .int .i64 0, .str ByteArray.empty, .int .i64 0, .int .i64 0, .int .i64 0, .str ByteArray.empty] }),
  (59, { size := 1, bytes := 8, agg := false, elem := none, fields := none, isStr := false, zero := some [.int .i64 0] }),
  (65, { size := 1, bytes := 24, agg := false, elem := some 4, fields := none, isStr := false, zero := some [.nil 1] }),
  (66, { size := 1, bytes := 24, agg := false, elem := some 115, fields := none, isStr := false, zero := some [.nil 2] }),
  (67, { size := 1, bytes := 24, agg := false, elem := some 115, fields := none, isStr := false, zero := some [.nil 2] }),
  (68, { size := 1, bytes := 24, agg := false, elem := some 77, fields := none, isStr := false, zero := some [.nil 4] }),
  (76, { size := 4, bytes := 72, agg := true, elem := none, fields := some [(0, 3), (1, 9), (2, 28), (3, 28)], isStr := false, zero := some [.int .i64 0, .str ByteArray.empty, .nil 3, .nil 3] }),
  (77, { size := 4, bytes := 72, agg := true, elem := none, fields := some [(0, 3), (1, 9), (2, 28), (3, 28)], isStr := false, zero := some [.int .i64 0, .str ByteArray.empty, .nil 3, .nil 3] }),
  (92, { size := 1, bytes := 24, agg := false, elem := some 5, fields := none, isStr := false, zero := some [.nil 1] }),
  (93, { size := 2, bytes := 32, agg := true, elem := none, fields := some [(0, 91), (1, 92)], isStr := false, zero := some [.nilp, .nil 1] }),
  (94, { size := 2, bytes := 32, agg := true, elem := none, fields := some [(0, 91), (1, 92)], isStr := false, zero := some [.nilp, .nil 1] }),
  (114, { size := 2, bytes := 40, agg := true, elem := none, fields := some [(0, 9), (1, 26)], isStr := false, zero := some [.str ByteArray.empty, .nil 1] }),
  (115, { size := 2, bytes := 40, agg := true, elem := none, fields := some [(0, 9), (1, 26)], isStr := false, zero := some [.str ByteArray.empty, .nil 1] }),
  (132, { size := 1, bytes := 24, agg := false, elem := some 67, fields := none, isStr := false, zero := some [.nil 1] }),
  (163, { size := 1, bytes := 8, agg := false, elem := none, fields := none, isStr := false, zero := some [.int .u64 0] }),
  (170, { size := 1, bytes := 8, agg := false, elem := none, fields := none, isStr := false, zero := some [.int .i64 0] }),
  (176, { size := 1, bytes := 8, agg := false, elem := none, fields := none, isStr := false, zero := some [.int .u64 0] }),
  (180, { size := 1, bytes := 4, agg := false, elem := none, fields := none, isStr := false, zero := some [.int .u32 0] }),
  (186, { size := 3, bytes := 48, agg := true, elem := none, fields := some [(0, 9), (1, 9), (2, 96)], isStr := false, zero := none }),
  (187, { size := 3, bytes := 48, agg := true, elem := none, fields := some [(0, 9), (1, 9), (2, 96)], isStr := false, zero := none }),
  (192, { size := 1, bytes := 16, agg := true, elem := none, fields := some [(0, 9)], isStr := false, zero := some [.str ByteArray.empty] }),
  (193, { size := 1, bytes := 16, agg := true, elem := none, fields := some [(0, 9)], isStr := false, zero := some [.str ByteArray.empty] })]
def TT (t : TypeId) : Option TI := look tyTab t
theorem look_mem {α : Type} {x : α} : ∀ (e : List (Nat × α)) (i : Nat), look e i = some x → (i, x) ∈ e
  | [], _, h => by cases h
  | (t, y) :: e, i, h => by
    simp only [look] at h
    split at h
    · injection h with h; subst h; subst t; simp
    · exact List.mem_cons_of_mem _ (look_mem e i h)
theorem tyAll : (tyTab.all fun p => tiOk Tryd.prog p.1 p.2) = true := by kernel_rfl
theorem tyOk : TabOk Tryd.prog TT := fun t i h => List.all_eq_true.1 tyAll (t, i) (look_mem tyTab t h)
theorem TT_2 : TT 2 = some { size := 1, bytes := 8, agg := false, elem := none, fields := none, isStr := false, zero := some [.int .i64 0] } := rfl
theorem TT_3 : TT 3 = some { size := 1, bytes := 8, agg := false, elem := none, fields := none, isStr := false, zero := some [.int .i64 0] } := rfl
theorem TT_4 : TT 4 = some { size := 1, bytes := 1, agg := false, elem := none, fields := none, isStr := false, zero := some [.bool false] } := rfl
theorem TT_5 : TT 5 = some { size := 1, bytes := 1, agg := false, elem := none, fields := none, isStr := false, zero := some [.int .u8 0] } := rfl
theorem TT_9 : TT 9 = some { size := 1, bytes := 16, agg := false, elem := none, fields := none, isStr := true, zero := some [.str ByteArray.empty] } := rfl
theorem TT_12 : TT 12 = some { size := 1, bytes := 8, agg := false, elem := none, fields := none, isStr := false, zero := some [.int .u64 0] } := rfl
theorem TT_13 : TT 13 = some { size := 2, bytes := 24, agg := true, elem := none, fields := some [(0, 9), (1, 12)], isStr := false, zero := some [.str ByteArray.empty, .int .u64 0] } := rfl
theorem TT_21 : TT 21 = some { size := 1, bytes := 4, agg := false, elem := none, fields := none, isStr := false, zero := some [.int .i32 0] } := rfl
theorem TT_22 : TT 22 = some { size := 1, bytes := 24, agg := false, elem := some 46, fields := none, isStr := false, zero := some [.nil 3] } := rfl
theorem TT_23 : TT 23 = some { size := 1, bytes := 24, agg := false, elem := some 3, fields := none, isStr := false, zero := some [.nil 1] } := rfl
theorem TT_24 : TT 24 = some { size := 3, bytes := 64, agg := true, elem := none, fields := some [(0, 9), (1, 22), (2, 23)], isStr := false, zero := some [.str ByteArray.empty, .nil 3, .nil 1] } := rfl
theorem TT_25 : TT 25 = some { size := 3, bytes := 64, agg := true, elem := none, fields := some [(0, 9), (1, 22), (2, 23)], isStr := false, zero := some [.str ByteArray.empty, .nil 3, .nil 1] } := rfl
theorem TT_26 : TT 26 = some { size := 1, bytes := 24, agg := false, elem := some 28, fields := none, isStr := false, zero := some [.nil 1] } := rfl
theorem TT_27 : TT 27 = some { size := 1, bytes := 24, agg := false, elem := some 50, fields := none, isStr := false, zero := some [.nil 3] } := rfl
theorem TT_28 : TT 28 = some { size := 1, bytes := 24, agg := false, elem := some 50, fields := none, isStr := false, zero := some [.nil 3] } := rfl
theorem TT_38 : TT 38 = some { size := 1, bytes := 24, agg := false, elem := some 25, fields := none, isStr := false, zero := some [.nil 3] } := rfl
theorem TT_39 : TT 39 = some { size := 1, bytes := 24, agg := false, elem := some 48, fields := none, isStr := false, zero := some [.nil 3] } := rfl
theorem TT_40 : TT 40 = some { size := 1, bytes := 24, agg := false, elem := some 52, fields := none, isStr := false, zero := some [.nil 7] } := rfl
theorem TT_41 : TT 41 = some { size := 3, bytes := 72, agg := true, elem := none, fields := some [(0, 38), (1, 39), (2, 40)], isStr := false, zero := some [.nil 3, .nil 3, .nil 7] } := rfl
theorem TT_42 : TT 42 = some { size := 3, bytes := 72, agg := true, elem := none, fields := some [(0, 38), (1, 39), (2, 40)], isStr := false, zero := some [.nil 3, .nil 3, .nil 7] } := rfl
theorem TT_45 : TT 45 = some { size := 3, bytes := 32, agg := true, elem := none, fields := some [(0, 9), (1, 3), (2, 4)], isStr := false, zero := some [.str ByteArray.empty, .int .i64 0, .bool false] } := rfl
theorem TT_46 : TT 46 = some { size := 3, bytes := 32, agg := true, elem := none, fields := some [(0, 9), (1, 3), (2, 4)], isStr := false, zero := some [.str ByteArray.empty, .int .i64 0, .bool false] } := rfl
theorem TT_47 : TT 47 = some { size := 3, bytes := 56, agg := true, elem := none, fields := some [(0, 9), (1, 23), (2, 9)], isStr := false, zero := some [.str ByteArray.empty, .nil 1, .str ByteArray.empty] } := rfl
theorem TT_48 : TT 48 = some { size := 3, bytes := 56, agg := true, elem := none, fields := some [(0, 9), (1, 23), (2, 9)], isStr := false, zero := some [.str ByteArray.empty, .nil 1, .str ByteArray.empty] } := rfl
theorem TT_49 : TT 49 = some { size := 3, bytes := 32, agg := true, elem := none, fields := some [(0, 3), (1, 3), (2, 9)], isStr := false, zero := some [.int .i64 0, .int .i64 0, .str ByteArray.empty] } := rfl
theorem TT_50 : TT 50 = some { size := 3, bytes := 32, agg := true, elem := none, fields := some [(0, 3), (1, 3), (2, 9)], isStr := false, zero := some [.int .i64 0, .int .i64 0, .str ByteArray.empty] } := rfl
theorem TT_51 : TT 51 = some { size := 7, bytes := 80, agg := true, elem := none, fields := some [(0, 9), (1, 3), (2, 9), (3, 3), (4, 50)], isStr := false, zero := some [.str ByteArray.empty, .int .i64 0, .str ByteArray.empty, .int .i64 0, .int .i64 0, .int .i64 0, .str ByteArray.empty] } := rfl
theorem TT_52 : TT 52 = some { size := 7, bytes := 80, agg := true, elem := none, fields := some [(0, 9), (1, 3), (2, 9), (3, 3), (4, 50)], isStr := false, zero := some [.str ByteArray.empty, .int .i64 0, .str ByteArray.empty, .int .i64 0, .int .i64 0, .int .i64 0, .str ByteArray.empty] } := rfl
theorem TT_59 : TT 59 = some { size := 1, bytes := 8, agg := false, elem := none, fields := none, isStr := false, zero := some [.int .i64 0] } := rfl
theorem TT_65 : TT 65 = some { size := 1, bytes := 24, agg := false, elem := some 4, fields := none, isStr := false, zero := some [.nil 1] } := rfl
theorem TT_66 : TT 66 = some { size := 1, bytes := 24, agg := false, elem := some 115, fields := none, isStr := false, zero := some [.nil 2] } := rfl
theorem TT_67 : TT 67 = some { size := 1, bytes := 24, agg := false, elem := some 115, fields := none, isStr := false, zero := some [.nil 2] } := rfl
theorem TT_68 : TT 68 = some { size := 1, bytes := 24, agg := false, elem := some 77, fields := none, isStr := false, zero := some [.nil 4] } := rfl
theorem TT_76 : TT 76 = some { size := 4, bytes := 72, agg := true, elem := none, fields := some [(0, 3), (1, 9), (2, 28), (3, 28)], isStr := false, zero := some [.int .i64 0, .str ByteArray.empty, .nil 3, .nil 3] } := rfl
theorem TT_77 : TT 77 = some { size := 4, bytes := 72, agg := true, elem := none, fields := some [(0, 3), (1, 9), (2, 28), (3, 28)], isStr := false, zero := some [.int .i64 0, .str ByteArray.empty, .nil 3, .nil 3] } := rfl
theorem TT_92 : TT 92 = some { size := 1, bytes := 24, agg := false, elem := some 5, fields := none, isStr := false, zero := some [.nil 1] } := rfl
theorem TT_93 : TT 93 = some { size := 2, bytes := 32, agg := true, elem := none, fields := some [(0, 91), (1, 92)], isStr := false, zero := some [.nilp, .nil 1] } := rfl
theorem TT_94 : TT 94 = some { size := 2, bytes := 32, agg := true, elem := none, fields := some [(0, 91), (1, 92)], isStr := false, zero := some [.nilp, .nil 1] } := rfl
theorem TT_114 : TT 114 = some { size := 2, bytes := 40, agg := true, elem := none, fields := some [(0, 9), (1, 26)], isStr := false, zero := some [.str ByteArray.empty, .nil 1] } := rfl
theorem TT_115 : TT 115 = some { size := 2, bytes := 40, agg := true, elem := none, fields := some [(0, 9), (1, 26)], isStr := false, zero := some [.str ByteArray.empty, .nil 1] } := rfl
theorem TT_132 : TT 132 = some { size := 1, bytes := 24, agg := false, elem := some 67, fields := none, isStr := false, zero := some [.nil 1] } := rfl
theorem TT_163 : TT 163 = some { size := 1, bytes := 8, agg := false, elem := none, fields := none, isStr := false, zero := some [.int .u64 0] } := rfl
theorem TT_170 : TT 170 = some { size := 1, bytes := 8, agg := false, elem := none, fields := none, isStr := false, zero := some [.int .i64 0] } := rfl
theorem TT_176 : TT 176 = some { size := 1, bytes := 8, agg := false, elem := none, fields := none, isStr := false, zero := some [.int .u64 0] } := rfl
theorem TT_180 : TT 180 = some { size := 1, bytes := 4, agg := false, elem := none, fields := none, isStr := false, zero := some [.int .u32 0] } := rfl
theorem TT_186 : TT 186 = some { size := 3, bytes := 48, agg := true, elem := none, fields := some [(0, 9), (1, 9), (2, 96)], isStr := false, zero := none } := rfl
theorem TT_187 : TT 187 = some { size := 3, bytes := 48, agg := true, elem := none, fields := some [(0, 9), (1, 9), (2, 96)], isStr := false, zero := none } := rfl
theorem TT_192 : TT 192 = some { size := 1, bytes := 16, agg := true, elem := none, fields := some [(0, 9)], isStr := false, zero := some [.str ByteArray.empty] } := rfl
theorem TT_193 : TT 193 = some { size := 1, bytes := 16, agg := true, elem := none, fields := some [(0, 9)], isStr := false, zero := some [.str ByteArray.empty] } := rfl
theorem eqK_46 : eqK Tryd.prog 46 = some [2, 0, 1] := by kernel_rfl
theorem eqK_50 : eqK Tryd.prog 50 = some [0, 0, 2] := by kernel_rfl
theorem eqK_52 : eqK Tryd.prog 52 = some [2, 0, 2, 0, 0, 0, 2] := by kernel_rfl
theorem eqK_193 : eqK Tryd.prog 193 = some [2] := by kernel_rfl
theorem convK_2 : convK Tryd.prog 2 = some .i64 := by kernel_rfl
theorem convK_3 : convK Tryd.prog 3 = some .i64 := by kernel_rfl
theorem convK_5 : convK Tryd.prog 5 = some .u8 := by kernel_rfl
theorem convK_12 : convK Tryd.prog 12 = some .u64 := by kernel_rfl
theorem convK_21 : convK Tryd.prog 21 = some .i32 := by kernel_rfl
theorem convK_59 : convK Tryd.prog 59 = some .i64 := by kernel_rfl
theorem convK_163 : convK Tryd.prog 163 = some .u64 := by kernel_rfl
theorem convK_170 : convK Tryd.prog 170 = some .i64 := by kernel_rfl
theorem convK_176 : convK Tryd.prog 176 = some .u64 := by kernel_rfl
theorem convK_180 : convK Tryd.prog 180 = some .u32 := by kernel_rfl
theorem boolTy_4 : boolTy Tryd.prog 4 = true := by kernel_rfl
theorem mixed : Tryd.prog.follows .mixedOrders = true := by kernel_rfl

structure Val where
  kind : Int
  int : Int
  text : ByteArray
  deriving DecidableEq, Inhabited
abbrev Row := List Val
structure Col where
  name : ByteArray
  kind : Int
  nullable : Bool
  deriving DecidableEq, Inhabited
structure Tbl where
  name : ByteArray
  cols : List Col
  pk : List Int
  deriving DecidableEq, Inhabited
structure FK where
  table : ByteArray
  cols : List Int
  ref : ByteArray
  deriving DecidableEq, Inhabited
structure Con where
  table : ByteArray
  left : Int
  op : ByteArray
  right : Int
  value : Val
  deriving DecidableEq, Inhabited
structure Sch where
  tables : List Tbl
  fks : List FK
  cons : List Con
  deriving DecidableEq, Inhabited
structure Rel where
  table : ByteArray
  rows : List Row
  deriving DecidableEq, Inhabited
abbrev Inst := List Rel
structure Chg where
  kind : Int
  table : ByteArray
  key : Row
  row : Row
  deriving DecidableEq, Inhabited

def eVal (v : Val) : List L := [.int .i64 v.kind, .int .i64 v.int, .str v.text]
def eRow (r : Row) : L := .sl 3 (r.map eVal)
def eRow1 (r : Row) : List L := [eRow r]
def eRows (rs : List Row) : L := .sl 1 (rs.map eRow1)
def eInt1 (n : Int) : List L := [.int .i64 n]
def eInts (l : List Int) : L := .sl 1 (l.map eInt1)
def eCol (c : Col) : List L := [.str c.name, .int .i64 c.kind, .bool c.nullable]
def eCols (l : List Col) : L := .sl 3 (l.map eCol)
def eTbl (t : Tbl) : List L := [.str t.name, eCols t.cols, eInts t.pk]
def eTbls (l : List Tbl) : L := .sl 3 (l.map eTbl)
def eFK (f : FK) : List L := [.str f.table, eInts f.cols, .str f.ref]
def eFKs (l : List FK) : L := .sl 3 (l.map eFK)
def eCon (c : Con) : List L := [.str c.table, .int .i64 c.left, .str c.op, .int .i64 c.right, .int .i64 c.value.kind, .int .i64 c.value.int, .str c.value.text]
def eCons (l : List Con) : L := .sl 7 (l.map eCon)
def eSch (s : Sch) : List L := [eTbls s.tables, eFKs s.fks, eCons s.cons]
def eRel (r : Rel) : List L := [.str r.table, eRows r.rows]
def eInst (i : Inst) : L := .sl 2 (i.map eRel)
def eChg (c : Chg) : List L := [.int .i64 c.kind, .str c.table, eRow c.key, eRow c.row]
def eChgs (l : List Chg) : L := .sl 4 (l.map eChg)

theorem frz_map {α : Type} {e : α → List L} (h : ∀ x, (e x).map (L.frzN 4) = e x) (l : List α) : (l.map e).map (fun x => x.map (L.frzN 4)) = l.map e := by
  rw [List.map_map]
  exact List.map_congr_left fun x _ => h x
theorem frz_eVal (l : List Val) : (l.map eVal).map (fun x => x.map (L.frzN 4)) = l.map eVal := frz_map (fun _ => rfl) l
theorem frz_eRow1 (l : List Row) : (l.map eRow1).map (fun x => x.map (L.frzN 4)) = l.map eRow1 := frz_map (fun _ => rfl) l
theorem frz_eInt1 (l : List Int) : (l.map eInt1).map (fun x => x.map (L.frzN 4)) = l.map eInt1 := frz_map (fun _ => rfl) l
theorem frz_eCol (l : List Col) : (l.map eCol).map (fun x => x.map (L.frzN 4)) = l.map eCol := frz_map (fun _ => rfl) l
theorem frz_eTbl (l : List Tbl) : (l.map eTbl).map (fun x => x.map (L.frzN 4)) = l.map eTbl := frz_map (fun _ => rfl) l
theorem frz_eFK (l : List FK) : (l.map eFK).map (fun x => x.map (L.frzN 4)) = l.map eFK := frz_map (fun _ => rfl) l
theorem frz_eCon (l : List Con) : (l.map eCon).map (fun x => x.map (L.frzN 4)) = l.map eCon := frz_map (fun _ => rfl) l
theorem frz_eRel (l : List Rel) : (l.map eRel).map (fun x => x.map (L.frzN 4)) = l.map eRel := frz_map (fun _ => rfl) l
theorem frz_eChg (l : List Chg) : (l.map eChg).map (fun x => x.map (L.frzN 4)) = l.map eChg := frz_map (fun _ => rfl) l

theorem noOwn_eVal (l : List Val) : noOwn (l.map eVal) = True := noOwn_map (fun _ => rfl) l
theorem noOwn_eRow1 (l : List Row) : noOwn (l.map eRow1) = True := noOwn_map (fun _ => rfl) l
theorem noOwn_eInt1 (l : List Int) : noOwn (l.map eInt1) = True := noOwn_map (fun _ => rfl) l
theorem noOwn_eCol (l : List Col) : noOwn (l.map eCol) = True := noOwn_map (fun _ => rfl) l
theorem noOwn_eTbl (l : List Tbl) : noOwn (l.map eTbl) = True := noOwn_map (fun _ => rfl) l
theorem noOwn_eFK (l : List FK) : noOwn (l.map eFK) = True := noOwn_map (fun _ => rfl) l
theorem noOwn_eCon (l : List Con) : noOwn (l.map eCon) = True := noOwn_map (fun _ => rfl) l
theorem noOwn_eRel (l : List Rel) : noOwn (l.map eRel) = True := noOwn_map (fun _ => rfl) l
theorem noOwn_eChg (l : List Chg) : noOwn (l.map eChg) = True := noOwn_map (fun _ => rfl) l

abbrev oI (n : Int) : V := .one (.int .i64 n)
abbrev oB (b : Bool) : V := .one (.bool b)
abbrev oS (s : ByteArray) : V := .one (.str s)
end Go.Bw

namespace Go.Bw
open Go.Proofs
attribute [local go_sem ↓] VOps_nil VOps_cons VOp_callJ VVal_callH VOps_guard GOn_tt GOn_ff GOn_tf GOn_ft GOn_not GOn_none HOn_none HOn_tt HOn_ff HOn_tf HOn_ft HOn_not VHead_nil VHead_cons VHead_guard VVal_move VVal_assign VVal_pickE pickK_true pickK_false VVal_not VVal_neg negK_int VVal_load loadK_fz loadK_ptr loadK_eptr VVal_fieldAddr VVal_field VVal_indexAddr idxK_sl idxK_ref VVal_index indexK_str VVal_extract VVal_binOp binK_one binK_agg VVal_build VVal_buildSlice VVal_makeFunc VVal_slice sliceK_str sliceK_sl sliceK_nil sliceK_ref VVal_slice3 VVal_nilCheck VVal_convert convKk_int convKk_str VVal_len VVal_max VVal_min VOp_assign assignK_int assignK_bool assignK_str assignK_clo assignK_sl assignK_nil assignK_ref assignK_agg assignK_fz assignK_ptr assignK_eptr assignK_any VOp_box VOp_alloc VOp_store storeK_ptr storeK_eptr VOp_buildSlice VOp_append appK_rr appK_rs appK_rn appK_ri appK_nr appK_ns appK_nn appK_ni appStd_eq VOp_copy copyK_ref VOp_clear clearK_ref VOp_cap VOp_eqNil VOp_move VOp_pick VOp_not VOp_neg VOp_load VOp_fieldAddr VOp_field VOp_indexAddr VOp_index VOp_extract VOp_binTmp VOp_binInt VOp_binStr VOp_build VOp_makeFunc VOp_slice VOp_nilCheck VOp_convert VOp_len VOp_max VOp_min mO_some mT_some pk_some pk_none look_cons del_cons
attribute [local go_sem] guardB gOf int_bne beq_true beq_false Bool.not_not gSlot pickK_true pickK_false negK_int loadK_fz loadK_ptr loadK_eptr idxK_sl idxK_ref indexK_str binK_one binK_agg sliceK_str sliceK_sl sliceK_nil sliceK_ref convKk_int convKk_str maxL minL assignK_int assignK_bool assignK_str assignK_clo assignK_sl assignK_nil assignK_ref assignK_agg assignK_fz assignK_ptr assignK_eptr assignK_any nilRow_eq takeRow_eq appended_eq storeK_ptr storeK_eptr store_mk appIn_eq appMk_eq marked_eq ovOut_nil ovOut_cons ovIn_nil ovIn_cons padRow_eq ysC capK_nil capK_ref ioSt_mk outB_nil outR_nil outB outR inB_nil inB_cons inR_nil inR_cons L.kl L.kl0 L.ids L.ids0 Option.getD_some evalO constA mO_some mT_some put_mk putO_some putO_none okD_some okD_none pk_some pk_none look_nil del_nil sput noBox_mk noRow_mk newBox_eq newRow0_eq St.killRow RowC.kill rowMap_mk rowOf ovAll ovAdd ovDel ovGet ovShift dstOf ysOf overlay_nil overlay_nil' overlay A.map V.map L.noPtr L.noPtr0 L.noRow L.noRow0 L.peek L.norm L.flat clos_int clos_bool clos_str clos_sl clos_nil clos_any clos_fz L.clos L.isFz L.kd moveL fieldOff eqCells eqCell eqOp oneOf boolOf intOfA tupOf vOf aggOf isPtrLike isSlice lenKind lenL nL elemTI loadV asV binL intBin intDivL shrL boolBin strBin boundN partCells fillL placesOf setL chunks repL capsOf capL callOf argsOf frzV_int frzV_bool frzV_str frzV_sl frzV_nil frzV_fz frzV_any frzV_own frzV_clo frzV_ref frzV_eptr frzV_ptr frzRow_nil frzRow_ov frzRs_nil frzRs_cons frzCs_nil frzCs_cons frzO_some frzO_none frzN_int frzN_bool frzN_str frzN_sl frzN_nil frzN_any frzN_own List.map_cons List.map_nil List.cons_append List.nil_append List.append_nil List.length_cons List.length_nil List.length_map List.length_append List.headD_cons List.tail_cons List.getElem?_cons_zero List.getElem?_cons_succ List.drop_zero List.drop_succ_cons List.drop_nil List.take_succ_cons List.take_zero List.take_nil List.take_length List.filter_cons List.filter_nil List.elem_cons List.elem_nil List.all_cons List.all_nil Option.bind_some Option.map_some Option.some.injEq bne_self_eq_false beq_self_eq_true if_true if_false Bool.false_eq_true true_and and_true and_self Nat.zero_add Nat.add_zero Nat.zero_le Int.toNat_natCast Int.toNat_zero Option.isSome_some List.getElem?_toArray decide_true decide_false ge_iff_le gt_iff_lt Bool.not_true Bool.not_false Nat.le_refl Bool.and_true Bool.true_and Bool.and_false Bool.false_and eVal eRow eRow1 eRows eInt1 eInts eCol eCols eTbl eTbls eFK eFKs eCon eCons eSch eRel eInst eChg eChgs szOf getD_map_lt wrap_nat wrap_in List.take_of_length_le frz_eVal frz_eRow1 frz_eInt1 frz_eCol frz_eTbl frz_eFK frz_eCon frz_eRel frz_eChg noOwn_nil noOwn_cons noOwn_append L.isOwn noOwn_eVal noOwn_eRow1 noOwn_eInt1 noOwn_eCol noOwn_eTbl noOwn_eFK noOwn_eCon noOwn_eRel noOwn_eChg convK_2 convK_3 convK_5 convK_12 convK_21 convK_59 convK_163 convK_170 convK_176 convK_180 TT_2 TT_3 TT_4 TT_5 TT_9 TT_12 TT_13 TT_21 TT_22 TT_23 TT_24 TT_25 TT_26 TT_27 TT_28 TT_38 TT_39 TT_40 TT_41 TT_42 TT_45 TT_46 TT_47 TT_48 TT_49 TT_50 TT_51 TT_52 TT_59 TT_65 TT_66 TT_67 TT_68 TT_76 TT_77 TT_92 TT_93 TT_94 TT_114 TT_115 TT_132 TT_163 TT_170 TT_176 TT_180 TT_186 TT_187 TT_192 TT_193 boolTy_4 eqK_46 eqK_50 eqK_52 eqK_193
attribute [local congr] VOps.congr VHead.congr VOp.congr VVal.congr pk.congr assignK.congr appK.congr appStd.congr copyK.congr clearK.congr storeK.congr loadK.congr idxK.congr sliceK.congr indexK.congr binK.congr convKk.congr
def cmpInts (a b : Int) : Int := if a < b then -1 else if a > b then 1 else 0

theorem compareInts_sat (a b : Int) : Sat Tryd.prog 61 [oI a, oI b] (.v (oI (cmpInts a b))) := by
  refine sat_of_body tyOk Tryd.func61 rfl (by kernel_rfl) ⟨Nat.le_of_ble_eq_true rfl, Nat.le_of_ble_eq_true rfl⟩ fun w0 m0 F0 => ?_
  simp only [Tryd.ntmps61, envOf, Nat.reduceAdd]
  repeat' (first
    | ((first
      | with_reducible refine AWP.regionL tyOk fun K hK => ?_
      | ((with_reducible first | refine GOn.isT ?_ ?_ | refine HOn.isT ?_ ?_ | refine pickK.isT ?_ ?_); focus (first | with_reducible rfl | with_reducible assumption | (simp only [NM, LN]; first | done | with_reducible assumption | omega)))
      | ((with_reducible first | refine GOn.isF ?_ ?_ | refine HOn.isF ?_ ?_ | refine pickK.isF ?_ ?_); focus (first | with_reducible rfl | with_reducible assumption | (simp only [NM, LN]; first | done | with_reducible assumption | omega)))
      | ((with_reducible first | refine GOn.split (fun h => ?_) (fun h => ?_) | refine HOn.split (fun h => ?_) (fun h => ?_) | refine pickK.split (fun h => ?_) (fun h => ?_)) <;> (try simp only [NM] at h))
      | with_reducible refine AWP.drawAll tyOk mixed 6 (by kernel_rfl) fun K hK => ?_) <;> simp -dsimp (disch := (first | omega | (simp only [LN]; omega))) only [go_sem, ↓reduceIte, seval])
    | ((with_reducible refine hK _ ?_); clear hK K)
    | (with_reducible first | refine AWP.seq ?_ | refine thenQ_normal ?_ | refine AWP.block ?_ | refine AWP.skip ?_ | refine AWP.ret ?_ | refine thenQ_ret ?_ | refine blockQ_ret ?_ | refine AWP.exit ?_ | refine thenQ_exit ?_ | refine blockQ_normal ?_ | refine blockQ_exit ?_)
    | refine blockQ_exit_ne rfl ?_
    | (with_reducible refine And.intro (by (first | with_reducible rfl | with_reducible assumption | omega | (simp only [LN]; first | done | with_reducible rfl | omega) | (simp only [NM, LN]; first | done | with_reducible assumption | omega) | (and_intros <;> first | with_reducible assumption | omega | (simp only [LN]; omega)) | fail)) ?_)
    | ((with_reducible refine AWP.condG (T := TT) (b := ?_) ?_ ?_); rotate_left; exact rfl)
    | (with_reducible first | refine CondG.t ?_ | refine CondG.f ?_ | refine CondG.not ?_)
    | ((with_reducible refine CondG.isT ?_ ?_); focus (first | with_reducible rfl | with_reducible assumption | (simp only [NM, LN]; first | done | with_reducible assumption | omega)))
    | ((with_reducible refine CondG.isF ?_ ?_); focus (first | with_reducible rfl | with_reducible assumption | (simp only [NM, LN]; first | done | with_reducible assumption | omega)))
    | ((with_reducible refine CondG.split (fun h => ?_) (fun h => ?_)) <;> (try simp only [NM] at h)))
  all_goals simp -dsimp (disch := (first | omega | (simp only [LN]; omega))) only [retQ, Tryd.results61, resVals, cellRV, resOf, St.rest, St.freeze, RT, go_sem, ↓reduceIte, seval]
  all_goals simp [cmpInts, *]
  all_goals omega

def zV : Val := ⟨0, 0, ByteArray.empty⟩
end Go.Bw

namespace Go.Bw
open Go.Proofs
attribute [local go_sem ↓] VOps_nil VOps_cons VOp_callJ VVal_callH VOps_guard GOn_tt GOn_ff GOn_tf GOn_ft GOn_not GOn_none HOn_none HOn_tt HOn_ff HOn_tf HOn_ft HOn_not VHead_nil VHead_cons VHead_guard VVal_move VVal_assign VVal_pickE pickK_true pickK_false VVal_not VVal_neg negK_int VVal_load loadK_fz loadK_ptr loadK_eptr VVal_fieldAddr VVal_field VVal_indexAddr idxK_sl idxK_ref VVal_index indexK_str VVal_extract VVal_binOp binK_one binK_agg VVal_build VVal_buildSlice VVal_makeFunc VVal_slice sliceK_str sliceK_sl sliceK_nil sliceK_ref VVal_slice3 VVal_nilCheck VVal_convert convKk_int convKk_str VVal_len VVal_max VVal_min VOp_assign assignK_int assignK_bool assignK_str assignK_clo assignK_sl assignK_nil assignK_ref assignK_agg assignK_fz assignK_ptr assignK_eptr assignK_any VOp_box VOp_alloc VOp_store storeK_ptr storeK_eptr VOp_buildSlice VOp_append appK_rr appK_rs appK_rn appK_ri appK_nr appK_ns appK_nn appK_ni appStd_eq VOp_copy copyK_ref VOp_clear clearK_ref VOp_cap VOp_eqNil VOp_move VOp_pick VOp_not VOp_neg VOp_load VOp_fieldAddr VOp_field VOp_indexAddr VOp_index VOp_extract VOp_binTmp VOp_binInt VOp_binStr VOp_build VOp_makeFunc VOp_slice VOp_nilCheck VOp_convert VOp_len VOp_max VOp_min mO_some mT_some pk_some pk_none look_cons del_cons
attribute [local go_sem] guardB gOf int_bne beq_true beq_false Bool.not_not gSlot pickK_true pickK_false negK_int loadK_fz loadK_ptr loadK_eptr idxK_sl idxK_ref indexK_str binK_one binK_agg sliceK_str sliceK_sl sliceK_nil sliceK_ref convKk_int convKk_str maxL minL assignK_int assignK_bool assignK_str assignK_clo assignK_sl assignK_nil assignK_ref assignK_agg assignK_fz assignK_ptr assignK_eptr assignK_any nilRow_eq takeRow_eq appended_eq storeK_ptr storeK_eptr store_mk appIn_eq appMk_eq marked_eq ovOut_nil ovOut_cons ovIn_nil ovIn_cons padRow_eq ysC capK_nil capK_ref ioSt_mk outB_nil outR_nil outB outR inB_nil inB_cons inR_nil inR_cons L.kl L.kl0 L.ids L.ids0 Option.getD_some evalO constA mO_some mT_some put_mk putO_some putO_none okD_some okD_none pk_some pk_none look_nil del_nil sput noBox_mk noRow_mk newBox_eq newRow0_eq St.killRow RowC.kill rowMap_mk rowOf ovAll ovAdd ovDel ovGet ovShift dstOf ysOf overlay_nil overlay_nil' overlay A.map V.map L.noPtr L.noPtr0 L.noRow L.noRow0 L.peek L.norm L.flat clos_int clos_bool clos_str clos_sl clos_nil clos_any clos_fz L.clos L.isFz L.kd moveL fieldOff eqCells eqCell eqOp oneOf boolOf intOfA tupOf vOf aggOf isPtrLike isSlice lenKind lenL nL elemTI loadV asV binL intBin intDivL shrL boolBin strBin boundN partCells fillL placesOf setL chunks repL capsOf capL callOf argsOf frzV_int frzV_bool frzV_str frzV_sl frzV_nil frzV_fz frzV_any frzV_own frzV_clo frzV_ref frzV_eptr frzV_ptr frzRow_nil frzRow_ov frzRs_nil frzRs_cons frzCs_nil frzCs_cons frzO_some frzO_none frzN_int frzN_bool frzN_str frzN_sl frzN_nil frzN_any frzN_own List.map_cons List.map_nil List.cons_append List.nil_append List.append_nil List.length_cons List.length_nil List.length_map List.length_append List.headD_cons List.tail_cons List.getElem?_cons_zero List.getElem?_cons_succ List.drop_zero List.drop_succ_cons List.drop_nil List.take_succ_cons List.take_zero List.take_nil List.take_length List.filter_cons List.filter_nil List.elem_cons List.elem_nil List.all_cons List.all_nil Option.bind_some Option.map_some Option.some.injEq bne_self_eq_false beq_self_eq_true if_true if_false Bool.false_eq_true true_and and_true and_self Nat.zero_add Nat.add_zero Nat.zero_le Int.toNat_natCast Int.toNat_zero Option.isSome_some List.getElem?_toArray decide_true decide_false ge_iff_le gt_iff_lt Bool.not_true Bool.not_false Nat.le_refl Bool.and_true Bool.true_and Bool.and_false Bool.false_and eVal eRow eRow1 eRows eInt1 eInts eCol eCols eTbl eTbls eFK eFKs eCon eCons eSch eRel eInst eChg eChgs szOf getD_map_lt wrap_nat wrap_in List.take_of_length_le frz_eVal frz_eRow1 frz_eInt1 frz_eCol frz_eTbl frz_eFK frz_eCon frz_eRel frz_eChg noOwn_nil noOwn_cons noOwn_append L.isOwn noOwn_eVal noOwn_eRow1 noOwn_eInt1 noOwn_eCol noOwn_eTbl noOwn_eFK noOwn_eCon noOwn_eRel noOwn_eChg convK_2 convK_3 convK_5 convK_12 convK_21 convK_59 convK_163 convK_170 convK_176 convK_180 TT_2 TT_3 TT_4 TT_5 TT_9 TT_12 TT_13 TT_21 TT_22 TT_23 TT_24 TT_25 TT_26 TT_27 TT_28 TT_38 TT_39 TT_40 TT_41 TT_42 TT_45 TT_46 TT_47 TT_48 TT_49 TT_50 TT_51 TT_52 TT_59 TT_65 TT_66 TT_67 TT_68 TT_76 TT_77 TT_92 TT_93 TT_94 TT_114 TT_115 TT_132 TT_163 TT_170 TT_176 TT_180 TT_186 TT_187 TT_192 TT_193 boolTy_4 eqK_46 eqK_50 eqK_52 eqK_193
attribute [local congr] VOps.congr VHead.congr VOp.congr VVal.congr pk.congr assignK.congr appK.congr appStd.congr copyK.congr clearK.congr storeK.congr loadK.congr idxK.congr sliceK.congr indexK.congr binK.congr convKk.congr
open Go.RowKit

/-- Two strings, by their bytes. -/
def cmpS (a b : ByteArray) : Int := Lib.compareBytes a.data.toList b.data.toList



theorem cmpstring_sat (a b : ByteArray) : Sat Tryd.prog 116 [oS a, oS b] (.v (oI (cmpS a b))) := by
  refine ⟨fun m w vs ω hC hA => ?_⟩
  obtain ⟨hl, hA⟩ := hA
  obtain ⟨v1, h1, r1⟩ := hA 0 _ rfl
  obtain ⟨v2, h2, r2⟩ := hA 1 _ rfl
  have e : vs.toArray = #[v1, v2] := by
    match vs, hl, h1, h2 with
    | [x, y], _, h1, h2 => simp at h1 h2; rw [h1, h2]
  have r1 : Rep m v1 (.str a) := r1
  have r2 : Rep m v2 (.str b) := r2
  cases r1 with
  | str _ => cases r2 with
    | str _ =>
      refine .inl ⟨.int .i64 (cmpS a b), w, ?_, ?_⟩
      · rw [e, run_callFunc_extern Tryd.func116 (by kernel_rfl) (by kernel_rfl) (by kernel_rfl) (e := Extern.BytealgCompare.compare) (by kernel_rfl), Lib.run_compareString]
        rfl
      · exact ⟨m, ω, hC, Rep.int _ _⟩

theorem CompareString_sat (a b : ByteArray) : Sat Tryd.prog 97 [oS a, oS b] (.v (oI (cmpS a b))) := by
  refine sat_of_body tyOk Tryd.func97 rfl (by kernel_rfl) ⟨Nat.le_of_ble_eq_true rfl, Nat.le_of_ble_eq_true rfl⟩ fun w0 m0 F0 => ?_
  simp only [Tryd.ntmps97, envOf, Nat.reduceAdd]
  repeat' (first
    | ((first
      | with_reducible refine AWP.regionL tyOk fun K hK => ?_
      | ((with_reducible first | refine GOn.isT ?_ ?_ | refine HOn.isT ?_ ?_ | refine pickK.isT ?_ ?_); focus (first | with_reducible rfl | with_reducible assumption | (simp only [NM, LN]; first | done | with_reducible assumption | omega)))
      | ((with_reducible first | refine GOn.isF ?_ ?_ | refine HOn.isF ?_ ?_ | refine pickK.isF ?_ ?_); focus (first | with_reducible rfl | with_reducible assumption | (simp only [NM, LN]; first | done | with_reducible assumption | omega)))
      | ((with_reducible first | refine GOn.split (fun h => ?_) (fun h => ?_) | refine HOn.split (fun h => ?_) (fun h => ?_) | refine pickK.split (fun h => ?_) (fun h => ?_)) <;> (try simp only [NM] at h))
      | with_reducible refine AWP.drawAll tyOk mixed 6 (by kernel_rfl) fun K hK => ?_
      | ((with_reducible refine CallJ.is ?_); (first | refine CallJ.pure (cmpstring_sat _ _) ?_ | ((apply CallJ.lentI); (focus (simp -dsimp (disch := (first | omega | (simp only [LN]; omega))) only [go_sem, ↓reduceIte, seval]; rfl)); (focus (first | exact (cmpstring_sat _ _))))))
      | ((with_reducible refine CallH.is ?_); (first | refine CallH.intro (cmpstring_sat _ _) ?_))) <;> simp -dsimp (disch := (first | omega | (simp only [LN]; omega))) only [go_sem, ↓reduceIte, seval])
    | ((with_reducible refine hK _ ?_); clear hK K)
    | (with_reducible first | refine AWP.seq ?_ | refine thenQ_normal ?_ | refine AWP.block ?_ | refine AWP.skip ?_ | refine AWP.ret ?_ | refine thenQ_ret ?_ | refine blockQ_ret ?_ | refine AWP.exit ?_ | refine thenQ_exit ?_ | refine blockQ_normal ?_ | refine blockQ_exit ?_)
    | refine blockQ_exit_ne rfl ?_
    | (with_reducible refine And.intro (by (first | with_reducible rfl | with_reducible assumption | omega | (simp only [LN]; first | done | with_reducible rfl | omega) | (simp only [NM, LN]; first | done | with_reducible assumption | omega) | (and_intros <;> first | with_reducible assumption | omega | (simp only [LN]; omega)) | fail)) ?_)
    | ((with_reducible refine AWP.condG (T := TT) (b := ?_) ?_ ?_); rotate_left; exact rfl)
    | (with_reducible first | refine CondG.t ?_ | refine CondG.f ?_ | refine CondG.not ?_)
    | ((with_reducible refine CondG.isT ?_ ?_); focus (first | with_reducible rfl | with_reducible assumption | (simp only [NM, LN]; first | done | with_reducible assumption | omega)))
    | ((with_reducible refine CondG.isF ?_ ?_); focus (first | with_reducible rfl | with_reducible assumption | (simp only [NM, LN]; first | done | with_reducible assumption | omega)))
    | ((with_reducible refine CondG.split (fun h => ?_) (fun h => ?_)) <;> (try simp only [NM] at h)))
  simp -dsimp (disch := (first | omega | (simp only [LN]; omega))) only [retQ, Tryd.results97, resVals, cellRV, resOf, St.rest, St.freeze, RT, go_sem, ↓reduceIte, seval]

theorem stringsCompare_sat (a b : ByteArray) : Sat Tryd.prog 62 [oS a, oS b] (.v (oI (cmpS a b))) := by
  refine sat_of_body tyOk Tryd.func62 rfl (by kernel_rfl) ⟨Nat.le_of_ble_eq_true rfl, Nat.le_of_ble_eq_true rfl⟩ fun w0 m0 F0 => ?_
  simp only [Tryd.ntmps62, envOf, Nat.reduceAdd]
  repeat' (first
    | ((first
      | with_reducible refine AWP.regionL tyOk fun K hK => ?_
      | ((with_reducible first | refine GOn.isT ?_ ?_ | refine HOn.isT ?_ ?_ | refine pickK.isT ?_ ?_); focus (first | with_reducible rfl | with_reducible assumption | (simp only [NM, LN]; first | done | with_reducible assumption | omega)))
      | ((with_reducible first | refine GOn.isF ?_ ?_ | refine HOn.isF ?_ ?_ | refine pickK.isF ?_ ?_); focus (first | with_reducible rfl | with_reducible assumption | (simp only [NM, LN]; first | done | with_reducible assumption | omega)))
      | ((with_reducible first | refine GOn.split (fun h => ?_) (fun h => ?_) | refine HOn.split (fun h => ?_) (fun h => ?_) | refine pickK.split (fun h => ?_) (fun h => ?_)) <;> (try simp only [NM] at h))
      | with_reducible refine AWP.drawAll tyOk mixed 6 (by kernel_rfl) fun K hK => ?_
      | ((with_reducible refine CallJ.is ?_); (first | refine CallJ.pure (CompareString_sat _ _) ?_ | ((apply CallJ.lentI); (focus (simp -dsimp (disch := (first | omega | (simp only [LN]; omega))) only [go_sem, ↓reduceIte, seval]; rfl)); (focus (first | exact (CompareString_sat _ _))))))
      | ((with_reducible refine CallH.is ?_); (first | refine CallH.intro (CompareString_sat _ _) ?_))) <;> simp -dsimp (disch := (first | omega | (simp only [LN]; omega))) only [go_sem, ↓reduceIte, seval])
    | ((with_reducible refine hK _ ?_); clear hK K)
    | (with_reducible first | refine AWP.seq ?_ | refine thenQ_normal ?_ | refine AWP.block ?_ | refine AWP.skip ?_ | refine AWP.ret ?_ | refine thenQ_ret ?_ | refine blockQ_ret ?_ | refine AWP.exit ?_ | refine thenQ_exit ?_ | refine blockQ_normal ?_ | refine blockQ_exit ?_)
    | refine blockQ_exit_ne rfl ?_
    | (with_reducible refine And.intro (by (first | with_reducible rfl | with_reducible assumption | omega | (simp only [LN]; first | done | with_reducible rfl | omega) | (simp only [NM, LN]; first | done | with_reducible assumption | omega) | (and_intros <;> first | with_reducible assumption | omega | (simp only [LN]; omega)) | fail)) ?_)
    | ((with_reducible refine AWP.condG (T := TT) (b := ?_) ?_ ?_); rotate_left; exact rfl)
    | (with_reducible first | refine CondG.t ?_ | refine CondG.f ?_ | refine CondG.not ?_)
    | ((with_reducible refine CondG.isT ?_ ?_); focus (first | with_reducible rfl | with_reducible assumption | (simp only [NM, LN]; first | done | with_reducible assumption | omega)))
    | ((with_reducible refine CondG.isF ?_ ?_); focus (first | with_reducible rfl | with_reducible assumption | (simp only [NM, LN]; first | done | with_reducible assumption | omega)))
    | ((with_reducible refine CondG.split (fun h => ?_) (fun h => ?_)) <;> (try simp only [NM] at h)))
  simp -dsimp (disch := (first | omega | (simp only [LN]; omega))) only [retQ, Tryd.results62, resVals, cellRV, resOf, St.rest, St.freeze, RT, go_sem, ↓reduceIte, seval]
end Go.Bw

namespace Go.Bw
open Go.Proofs
attribute [local go_sem ↓] VOps_nil VOps_cons VOp_callJ VVal_callH VOps_guard GOn_tt GOn_ff GOn_tf GOn_ft GOn_not GOn_none HOn_none HOn_tt HOn_ff HOn_tf HOn_ft HOn_not VHead_nil VHead_cons VHead_guard VVal_move VVal_assign VVal_pickE pickK_true pickK_false VVal_not VVal_neg negK_int VVal_load loadK_fz loadK_ptr loadK_eptr VVal_fieldAddr VVal_field VVal_indexAddr idxK_sl idxK_ref VVal_index indexK_str VVal_extract VVal_binOp binK_one binK_agg VVal_build VVal_buildSlice VVal_makeFunc VVal_slice sliceK_str sliceK_sl sliceK_nil sliceK_ref VVal_slice3 VVal_nilCheck VVal_convert convKk_int convKk_str VVal_len VVal_max VVal_min VOp_assign assignK_int assignK_bool assignK_str assignK_clo assignK_sl assignK_nil assignK_ref assignK_agg assignK_fz assignK_ptr assignK_eptr assignK_any VOp_box VOp_alloc VOp_store storeK_ptr storeK_eptr VOp_buildSlice VOp_append appK_rr appK_rs appK_rn appK_ri appK_nr appK_ns appK_nn appK_ni appStd_eq VOp_copy copyK_ref VOp_clear clearK_ref VOp_cap VOp_eqNil VOp_move VOp_pick VOp_not VOp_neg VOp_load VOp_fieldAddr VOp_field VOp_indexAddr VOp_index VOp_extract VOp_binTmp VOp_binInt VOp_binStr VOp_build VOp_makeFunc VOp_slice VOp_nilCheck VOp_convert VOp_len VOp_max VOp_min mO_some mT_some pk_some pk_none look_cons del_cons
attribute [local go_sem] guardB gOf int_bne beq_true beq_false Bool.not_not gSlot pickK_true pickK_false negK_int loadK_fz loadK_ptr loadK_eptr idxK_sl idxK_ref indexK_str binK_one binK_agg sliceK_str sliceK_sl sliceK_nil sliceK_ref convKk_int convKk_str maxL minL assignK_int assignK_bool assignK_str assignK_clo assignK_sl assignK_nil assignK_ref assignK_agg assignK_fz assignK_ptr assignK_eptr assignK_any nilRow_eq takeRow_eq appended_eq storeK_ptr storeK_eptr store_mk appIn_eq appMk_eq marked_eq ovOut_nil ovOut_cons ovIn_nil ovIn_cons padRow_eq ysC capK_nil capK_ref ioSt_mk outB_nil outR_nil outB outR inB_nil inB_cons inR_nil inR_cons L.kl L.kl0 L.ids L.ids0 Option.getD_some evalO constA mO_some mT_some put_mk putO_some putO_none okD_some okD_none pk_some pk_none look_nil del_nil sput noBox_mk noRow_mk newBox_eq newRow0_eq St.killRow RowC.kill rowMap_mk rowOf ovAll ovAdd ovDel ovGet ovShift dstOf ysOf overlay_nil overlay_nil' overlay A.map V.map L.noPtr L.noPtr0 L.noRow L.noRow0 L.peek L.norm L.flat clos_int clos_bool clos_str clos_sl clos_nil clos_any clos_fz L.clos L.isFz L.kd moveL fieldOff eqCells eqCell eqOp oneOf boolOf intOfA tupOf vOf aggOf isPtrLike isSlice lenKind lenL nL elemTI loadV asV binL intBin intDivL shrL boolBin strBin boundN partCells fillL placesOf setL chunks repL capsOf capL callOf argsOf frzV_int frzV_bool frzV_str frzV_sl frzV_nil frzV_fz frzV_any frzV_own frzV_clo frzV_ref frzV_eptr frzV_ptr frzRow_nil frzRow_ov frzRs_nil frzRs_cons frzCs_nil frzCs_cons frzO_some frzO_none frzN_int frzN_bool frzN_str frzN_sl frzN_nil frzN_any frzN_own List.map_cons List.map_nil List.cons_append List.nil_append List.append_nil List.length_cons List.length_nil List.length_map List.length_append List.headD_cons List.tail_cons List.getElem?_cons_zero List.getElem?_cons_succ List.drop_zero List.drop_succ_cons List.drop_nil List.take_succ_cons List.take_zero List.take_nil List.take_length List.filter_cons List.filter_nil List.elem_cons List.elem_nil List.all_cons List.all_nil Option.bind_some Option.map_some Option.some.injEq bne_self_eq_false beq_self_eq_true if_true if_false Bool.false_eq_true true_and and_true and_self Nat.zero_add Nat.add_zero Nat.zero_le Int.toNat_natCast Int.toNat_zero Option.isSome_some List.getElem?_toArray decide_true decide_false ge_iff_le gt_iff_lt Bool.not_true Bool.not_false Nat.le_refl Bool.and_true Bool.true_and Bool.and_false Bool.false_and eVal eRow eRow1 eRows eInt1 eInts eCol eCols eTbl eTbls eFK eFKs eCon eCons eSch eRel eInst eChg eChgs szOf getD_map_lt wrap_nat wrap_in List.take_of_length_le frz_eVal frz_eRow1 frz_eInt1 frz_eCol frz_eTbl frz_eFK frz_eCon frz_eRel frz_eChg noOwn_nil noOwn_cons noOwn_append L.isOwn noOwn_eVal noOwn_eRow1 noOwn_eInt1 noOwn_eCol noOwn_eTbl noOwn_eFK noOwn_eCon noOwn_eRel noOwn_eChg convK_2 convK_3 convK_5 convK_12 convK_21 convK_59 convK_163 convK_170 convK_176 convK_180 TT_2 TT_3 TT_4 TT_5 TT_9 TT_12 TT_13 TT_21 TT_22 TT_23 TT_24 TT_25 TT_26 TT_27 TT_28 TT_38 TT_39 TT_40 TT_41 TT_42 TT_45 TT_46 TT_47 TT_48 TT_49 TT_50 TT_51 TT_52 TT_59 TT_65 TT_66 TT_67 TT_68 TT_76 TT_77 TT_92 TT_93 TT_94 TT_114 TT_115 TT_132 TT_163 TT_170 TT_176 TT_180 TT_186 TT_187 TT_192 TT_193 boolTy_4 eqK_46 eqK_50 eqK_52 eqK_193
attribute [local congr] VOps.congr VHead.congr VOp.congr VVal.congr pk.congr assignK.congr appK.congr appStd.congr copyK.congr clearK.congr storeK.congr loadK.congr idxK.congr sliceK.congr indexK.congr binK.congr convKk.congr
def cmpV (a b : Val) : Int := if cmpInts a.kind b.kind ≠ 0 then cmpInts a.kind b.kind else if cmpInts a.int b.int ≠ 0 then cmpInts a.int b.int else cmpS a.text b.text
def sEq (a b : ByteArray) : Bool := a.toList == b.toList
def valE (v : Val) : Int :=
  if v.kind = 0 then if v.int ≠ 0 ∨ sEq v.text ByteArray.empty = false then 3 else 0
  else if v.kind = 1 ∨ v.kind = 2 then
    if sEq v.text ByteArray.empty = false then 3 else if (v.kind = 2 ∧ v.int ≠ 0 ∧ v.int ≠ 1) ∨ v.int < -1000000000000 ∨ v.int > 1000000000000 then 1 else 0
  else if v.kind = 3 then if v.int ≠ 0 then 3 else if v.text.size > 24 then 2 else 0
  else 7

set_option maxHeartbeats 4000000 in
set_option maxRecDepth 4000 in
theorem compare_sat (a b : Val) : Sat Tryd.prog 23 [.agg (eVal a), .agg (eVal b)] (.v (oI (cmpV a b))) := by
  refine sat_of_body tyOk Tryd.func23 rfl (by kernel_rfl) ⟨Nat.le_of_ble_eq_true rfl, Nat.le_of_ble_eq_true rfl⟩ fun w0 m0 F0 => ?_
  simp only [Tryd.ntmps23, envOf, Nat.reduceAdd]
  repeat' (first
    | ((first
      | with_reducible refine AWP.regionL tyOk fun K hK => ?_
      | ((with_reducible first | refine GOn.isT ?_ ?_ | refine HOn.isT ?_ ?_ | refine pickK.isT ?_ ?_); focus (first | with_reducible rfl | with_reducible assumption | (simp only [NM, LN]; first | done | with_reducible assumption | omega)))
      | ((with_reducible first | refine GOn.isF ?_ ?_ | refine HOn.isF ?_ ?_ | refine pickK.isF ?_ ?_); focus (first | with_reducible rfl | with_reducible assumption | (simp only [NM, LN]; first | done | with_reducible assumption | omega)))
      | ((with_reducible first | refine GOn.split (fun h => ?_) (fun h => ?_) | refine HOn.split (fun h => ?_) (fun h => ?_) | refine pickK.split (fun h => ?_) (fun h => ?_)) <;> (try simp only [NM] at h))
      | with_reducible refine AWP.drawAll tyOk mixed 6 (by kernel_rfl) fun K hK => ?_
      | ((with_reducible refine CallJ.is ?_); (first | refine CallJ.pure (compareInts_sat _ _) ?_ | refine CallJ.pure (stringsCompare_sat _ _) ?_ | ((apply CallJ.lentI); (focus (simp -dsimp (disch := (first | omega | (simp only [LN]; omega))) only [go_sem, ↓reduceIte, seval]; rfl)); (focus (first | exact (compareInts_sat _ _) | exact (stringsCompare_sat _ _))))))
      | ((with_reducible refine CallH.is ?_); (first | refine CallH.intro (compareInts_sat _ _) ?_ | refine CallH.intro (stringsCompare_sat _ _) ?_))) <;> simp -dsimp (disch := (first | omega | (simp only [LN]; omega))) only [go_sem, ↓reduceIte, seval])
    | ((with_reducible refine hK _ ?_); clear hK K)
    | (with_reducible first | refine AWP.seq ?_ | refine thenQ_normal ?_ | refine AWP.block ?_ | refine AWP.skip ?_ | refine AWP.ret ?_ | refine thenQ_ret ?_ | refine blockQ_ret ?_ | refine AWP.exit ?_ | refine thenQ_exit ?_ | refine blockQ_normal ?_ | refine blockQ_exit ?_)
    | refine blockQ_exit_ne rfl ?_
    | (with_reducible refine And.intro (by (first | with_reducible rfl | with_reducible assumption | omega | (simp only [LN]; first | done | with_reducible rfl | omega) | (simp only [NM, LN]; first | done | with_reducible assumption | omega) | (and_intros <;> first | with_reducible assumption | omega | (simp only [LN]; omega)) | fail)) ?_)
    | ((with_reducible refine AWP.condG (T := TT) (b := ?_) ?_ ?_); rotate_left; exact rfl)
    | (with_reducible first | refine CondG.t ?_ | refine CondG.f ?_ | refine CondG.not ?_)
    | ((with_reducible refine CondG.isT ?_ ?_); focus (first | with_reducible rfl | with_reducible assumption | (simp only [NM, LN]; first | done | with_reducible assumption | omega)))
    | ((with_reducible refine CondG.isF ?_ ?_); focus (first | with_reducible rfl | with_reducible assumption | (simp only [NM, LN]; first | done | with_reducible assumption | omega)))
    | ((with_reducible refine CondG.split (fun h => ?_) (fun h => ?_)) <;> (try simp only [NM] at h)))
  all_goals simp -dsimp (disch := (first | omega | (simp only [LN]; omega))) only [retQ, Tryd.results23, resVals, cellRV, resOf, St.rest, St.freeze, RT, go_sem, ↓reduceIte, seval]
  all_goals simp_all [cmpV]

set_option maxHeartbeats 4000000 in
theorem validate_sat (v : Val) : Sat Tryd.prog 27 [.agg (eVal v)] (.v (oI (valE v))) := by
  refine sat_of_body tyOk Tryd.func27 rfl (by kernel_rfl) ⟨Nat.le_of_ble_eq_true rfl, Nat.le_of_ble_eq_true rfl⟩ fun w0 m0 F0 => ?_
  simp only [Tryd.ntmps27, envOf, Nat.reduceAdd]
  repeat' (first
    | ((first
      | with_reducible refine AWP.regionL tyOk fun K hK => ?_
      | ((with_reducible first | refine GOn.isT ?_ ?_ | refine HOn.isT ?_ ?_ | refine pickK.isT ?_ ?_); focus (first | with_reducible rfl | with_reducible assumption | (simp only [NM, LN]; first | done | with_reducible assumption | omega)))
      | ((with_reducible first | refine GOn.isF ?_ ?_ | refine HOn.isF ?_ ?_ | refine pickK.isF ?_ ?_); focus (first | with_reducible rfl | with_reducible assumption | (simp only [NM, LN]; first | done | with_reducible assumption | omega)))
      | ((with_reducible first | refine GOn.split (fun h => ?_) (fun h => ?_) | refine HOn.split (fun h => ?_) (fun h => ?_) | refine pickK.split (fun h => ?_) (fun h => ?_)) <;> (try simp only [NM] at h))
      | with_reducible refine AWP.drawAll tyOk mixed 6 (by kernel_rfl) fun K hK => ?_) <;> simp -dsimp (disch := (first | omega | (simp only [LN]; omega))) only [go_sem, ↓reduceIte, seval])
    | ((with_reducible refine hK _ ?_); clear hK K)
    | (with_reducible first | refine AWP.seq ?_ | refine thenQ_normal ?_ | refine AWP.block ?_ | refine AWP.skip ?_ | refine AWP.ret ?_ | refine thenQ_ret ?_ | refine blockQ_ret ?_ | refine AWP.exit ?_ | refine thenQ_exit ?_ | refine blockQ_normal ?_ | refine blockQ_exit ?_)
    | refine blockQ_exit_ne rfl ?_
    | (with_reducible refine And.intro (by (first | with_reducible rfl | with_reducible assumption | omega | (simp only [LN]; first | done | with_reducible rfl | omega) | (simp only [NM, LN]; first | done | with_reducible assumption | omega) | (and_intros <;> first | with_reducible assumption | omega | (simp only [LN]; omega)) | fail)) ?_)
    | ((with_reducible refine AWP.condG (T := TT) (b := ?_) ?_ ?_); rotate_left; exact rfl)
    | (with_reducible first | refine CondG.t ?_ | refine CondG.f ?_ | refine CondG.not ?_)
    | ((with_reducible refine CondG.isT ?_ ?_); focus (first | with_reducible rfl | with_reducible assumption | (simp only [NM, LN]; first | done | with_reducible assumption | omega)))
    | ((with_reducible refine CondG.isF ?_ ?_); focus (first | with_reducible rfl | with_reducible assumption | (simp only [NM, LN]; first | done | with_reducible assumption | omega)))
    | ((with_reducible refine CondG.split (fun h => ?_) (fun h => ?_)) <;> (try simp only [NM] at h)))
  all_goals simp -dsimp (disch := (first | omega | (simp only [LN]; omega))) only [retQ, Tryd.results27, resVals, cellRV, resOf, St.rest, St.freeze, RT, go_sem, ↓reduceIte, seval]
  all_goals simp_all [valE, sEq]
  all_goals omega

theorem integer_sat (n : Int) : Sat Tryd.prog 41 [oI n] (.v (.agg (eVal ⟨1, n, ByteArray.empty⟩))) := by
  refine sat_of_body tyOk Tryd.func41 rfl (by kernel_rfl) ⟨Nat.le_of_ble_eq_true rfl, Nat.le_of_ble_eq_true rfl⟩ fun w0 m0 F0 => ?_
  simp only [Tryd.ntmps41, envOf, Nat.reduceAdd]
  repeat' (first
    | ((first
      | with_reducible refine AWP.regionL tyOk fun K hK => ?_
      | ((with_reducible first | refine GOn.isT ?_ ?_ | refine HOn.isT ?_ ?_ | refine pickK.isT ?_ ?_); focus (first | with_reducible rfl | with_reducible assumption | (simp only [NM, LN]; first | done | with_reducible assumption | omega)))
      | ((with_reducible first | refine GOn.isF ?_ ?_ | refine HOn.isF ?_ ?_ | refine pickK.isF ?_ ?_); focus (first | with_reducible rfl | with_reducible assumption | (simp only [NM, LN]; first | done | with_reducible assumption | omega)))
      | ((with_reducible first | refine GOn.split (fun h => ?_) (fun h => ?_) | refine HOn.split (fun h => ?_) (fun h => ?_) | refine pickK.split (fun h => ?_) (fun h => ?_)) <;> (try simp only [NM] at h))
      | with_reducible refine AWP.drawAll tyOk mixed 6 (by kernel_rfl) fun K hK => ?_) <;> simp -dsimp (disch := (first | omega | (simp only [LN]; omega))) only [go_sem, ↓reduceIte, seval])
    | ((with_reducible refine hK _ ?_); clear hK K)
    | (with_reducible first | refine AWP.seq ?_ | refine thenQ_normal ?_ | refine AWP.block ?_ | refine AWP.skip ?_ | refine AWP.ret ?_ | refine thenQ_ret ?_ | refine blockQ_ret ?_ | refine AWP.exit ?_ | refine thenQ_exit ?_ | refine blockQ_normal ?_ | refine blockQ_exit ?_)
    | refine blockQ_exit_ne rfl ?_
    | (with_reducible refine And.intro (by (first | with_reducible rfl | with_reducible assumption | omega | (simp only [LN]; first | done | with_reducible rfl | omega) | (simp only [NM, LN]; first | done | with_reducible assumption | omega) | (and_intros <;> first | with_reducible assumption | omega | (simp only [LN]; omega)) | fail)) ?_)
    | ((with_reducible refine AWP.condG (T := TT) (b := ?_) ?_ ?_); rotate_left; exact rfl)
    | (with_reducible first | refine CondG.t ?_ | refine CondG.f ?_ | refine CondG.not ?_)
    | ((with_reducible refine CondG.isT ?_ ?_); focus (first | with_reducible rfl | with_reducible assumption | (simp only [NM, LN]; first | done | with_reducible assumption | omega)))
    | ((with_reducible refine CondG.isF ?_ ?_); focus (first | with_reducible rfl | with_reducible assumption | (simp only [NM, LN]; first | done | with_reducible assumption | omega)))
    | ((with_reducible refine CondG.split (fun h => ?_) (fun h => ?_)) <;> (try simp only [NM] at h)))
  simp -dsimp (disch := (first | omega | (simp only [LN]; omega))) only [retQ, Tryd.results41, resVals, cellRV, resOf, St.rest, St.freeze, RT, go_sem, ↓reduceIte, seval]
end Go.Bw

namespace Go.Bw
open Go.Proofs
attribute [local go_sem ↓] VOps_nil VOps_cons VOp_callJ VVal_callH VOps_guard GOn_tt GOn_ff GOn_tf GOn_ft GOn_not GOn_none HOn_none HOn_tt HOn_ff HOn_tf HOn_ft HOn_not VHead_nil VHead_cons VHead_guard VVal_move VVal_assign VVal_pickE pickK_true pickK_false VVal_not VVal_neg negK_int VVal_load loadK_fz loadK_ptr loadK_eptr VVal_fieldAddr VVal_field VVal_indexAddr idxK_sl idxK_ref VVal_index indexK_str VVal_extract VVal_binOp binK_one binK_agg VVal_build VVal_buildSlice VVal_makeFunc VVal_slice sliceK_str sliceK_sl sliceK_nil sliceK_ref VVal_slice3 VVal_nilCheck VVal_convert convKk_int convKk_str VVal_len VVal_max VVal_min VOp_assign assignK_int assignK_bool assignK_str assignK_clo assignK_sl assignK_nil assignK_ref assignK_agg assignK_fz assignK_ptr assignK_eptr assignK_any VOp_box VOp_alloc VOp_store storeK_ptr storeK_eptr VOp_buildSlice VOp_append appK_rr appK_rs appK_rn appK_ri appK_nr appK_ns appK_nn appK_ni appStd_eq VOp_copy copyK_ref VOp_clear clearK_ref VOp_cap VOp_eqNil VOp_move VOp_pick VOp_not VOp_neg VOp_load VOp_fieldAddr VOp_field VOp_indexAddr VOp_index VOp_extract VOp_binTmp VOp_binInt VOp_binStr VOp_build VOp_makeFunc VOp_slice VOp_nilCheck VOp_convert VOp_len VOp_max VOp_min mO_some mT_some pk_some pk_none look_cons del_cons
attribute [local go_sem] guardB gOf int_bne beq_true beq_false Bool.not_not gSlot pickK_true pickK_false negK_int loadK_fz loadK_ptr loadK_eptr idxK_sl idxK_ref indexK_str binK_one binK_agg sliceK_str sliceK_sl sliceK_nil sliceK_ref convKk_int convKk_str maxL minL assignK_int assignK_bool assignK_str assignK_clo assignK_sl assignK_nil assignK_ref assignK_agg assignK_fz assignK_ptr assignK_eptr assignK_any nilRow_eq takeRow_eq appended_eq storeK_ptr storeK_eptr store_mk appIn_eq appMk_eq marked_eq ovOut_nil ovOut_cons ovIn_nil ovIn_cons padRow_eq ysC capK_nil capK_ref ioSt_mk outB_nil outR_nil outB outR inB_nil inB_cons inR_nil inR_cons L.kl L.kl0 L.ids L.ids0 Option.getD_some evalO constA mO_some mT_some put_mk putO_some putO_none okD_some okD_none pk_some pk_none look_nil del_nil sput noBox_mk noRow_mk newBox_eq newRow0_eq St.killRow RowC.kill rowMap_mk rowOf ovAll ovAdd ovDel ovGet ovShift dstOf ysOf overlay_nil overlay_nil' overlay A.map V.map L.noPtr L.noPtr0 L.noRow L.noRow0 L.peek L.norm L.flat clos_int clos_bool clos_str clos_sl clos_nil clos_any clos_fz L.clos L.isFz L.kd moveL fieldOff eqCells eqCell eqOp oneOf boolOf intOfA tupOf vOf aggOf isPtrLike isSlice lenKind lenL nL elemTI loadV asV binL intBin intDivL shrL boolBin strBin boundN partCells fillL placesOf setL chunks repL capsOf capL callOf argsOf frzV_int frzV_bool frzV_str frzV_sl frzV_nil frzV_fz frzV_any frzV_own frzV_clo frzV_ref frzV_eptr frzV_ptr frzRow_nil frzRow_ov frzRs_nil frzRs_cons frzCs_nil frzCs_cons frzO_some frzO_none frzN_int frzN_bool frzN_str frzN_sl frzN_nil frzN_any frzN_own List.map_cons List.map_nil List.cons_append List.nil_append List.append_nil List.length_cons List.length_nil List.length_map List.length_append List.headD_cons List.tail_cons List.getElem?_cons_zero List.getElem?_cons_succ List.drop_zero List.drop_succ_cons List.drop_nil List.take_succ_cons List.take_zero List.take_nil List.take_length List.filter_cons List.filter_nil List.elem_cons List.elem_nil List.all_cons List.all_nil Option.bind_some Option.map_some Option.some.injEq bne_self_eq_false beq_self_eq_true if_true if_false Bool.false_eq_true true_and and_true and_self Nat.zero_add Nat.add_zero Nat.zero_le Int.toNat_natCast Int.toNat_zero Option.isSome_some List.getElem?_toArray decide_true decide_false ge_iff_le gt_iff_lt Bool.not_true Bool.not_false Nat.le_refl Bool.and_true Bool.true_and Bool.and_false Bool.false_and eVal eRow eRow1 eRows eInt1 eInts eCol eCols eTbl eTbls eFK eFKs eCon eCons eSch eRel eInst eChg eChgs szOf getD_map_lt wrap_nat wrap_in List.take_of_length_le frz_eVal frz_eRow1 frz_eInt1 frz_eCol frz_eTbl frz_eFK frz_eCon frz_eRel frz_eChg noOwn_nil noOwn_cons noOwn_append L.isOwn noOwn_eVal noOwn_eRow1 noOwn_eInt1 noOwn_eCol noOwn_eTbl noOwn_eFK noOwn_eCon noOwn_eRel noOwn_eChg convK_2 convK_3 convK_5 convK_12 convK_21 convK_59 convK_163 convK_170 convK_176 convK_180 TT_2 TT_3 TT_4 TT_5 TT_9 TT_12 TT_13 TT_21 TT_22 TT_23 TT_24 TT_25 TT_26 TT_27 TT_28 TT_38 TT_39 TT_40 TT_41 TT_42 TT_45 TT_46 TT_47 TT_48 TT_49 TT_50 TT_51 TT_52 TT_59 TT_65 TT_66 TT_67 TT_68 TT_76 TT_77 TT_92 TT_93 TT_94 TT_114 TT_115 TT_132 TT_163 TT_170 TT_176 TT_180 TT_186 TT_187 TT_192 TT_193 boolTy_4 eqK_46 eqK_50 eqK_52 eqK_193
attribute [local congr] VOps.congr VHead.congr VOp.congr VVal.congr pk.congr assignK.congr appK.congr appStd.congr copyK.congr clearK.congr storeK.congr loadK.congr idxK.congr sliceK.congr indexK.congr binK.congr convKk.congr
open Go.Proofs Go.RowKit

theorem sat_of_calls {P : Program} {f : FuncId} {fn : Func} {c : Code} {xs : List V} {args : List Value} {v : Value} {r : A} (hf : P.funcs[f]? = some fn) (hb : fn.body = some c) (hn : (fn.name == "runtime.NumGoroutine") = false)
    (ha : ∀ m ω vs, ArgsRep m ω vs xs → vs = args) (hr : ∀ m ω, ARep m ω v r)
    (h : ∀ w, LaidW P w → Calls P f args.toArray w fun e w' => e = .returned v ∧ Below w.heap.size w w') : Sat P f xs r := by
  refine ⟨fun m w vs ω hC hA => ?_⟩
  have e := ha _ _ _ hA
  subst e
  refine .inr ⟨?_, (h w (hC.good w (Keeps.refl _ _))).mono fun e w' ⟨he, hw⟩ => ⟨v, he, m, ω, hC.grow hw (Mem.le_refl m) (fun _ _ => rfl) (fun x u hx => (hw.cell (World.block_lt_of_cell? w x (hC.ok x u hx))).trans (hC.ok x u hx)), hr m ω⟩⟩
  simp only [callFunc, Sem.run_bind, program, Sem.run, Result.andThen_ok, hf]
  rw [hn, hb]
  simp
theorem args1 {m : Mem} {ω : Wh} {vs : List Value} {l : L} {u : Value} (hA : ArgsRep m ω vs [.one l]) (h : ∀ v, ERep m ω v l → v = u) : vs = [u] := by
  obtain ⟨h1, h2⟩ := hA
  obtain ⟨v, h3, h4⟩ := h2 0 (.one l) rfl
  match vs, h1, h3 with
  | [x], _, h3 =>
    simp only [List.getElem?_cons_zero, Option.some.injEq] at h3
    subst h3
    rw [h x h4]
theorem erep_int {m : Mem} {ω : Wh} {v : Value} {k : IntKind} {n : Int} (h : ERep m ω v (.int k n)) : v = .int k n := by
  have h : Rep m v (.int k n) := h
  cases h; rfl
theorem erep_bool {m : Mem} {ω : Wh} {v : Value} {b : Bool} (h : ERep m ω v (.bool b)) : v = .bool b := by
  have h : Rep m v (.bool b) := h
  cases h; rfl
/-- The decimal text of a number. -/
def itoaB (n : Int) : ByteArray := ⟨(Lib.itoa n).toArray⟩
theorem itoa_sat (n : Int) (h0 : -9223372036854775808 ≤ n) (h1 : n ≤ 9223372036854775807) : Sat Tryd.prog 49 [.one (.int .i64 n)] (.v (.one (.str (itoaB n)))) :=
  sat_of_calls (args := [.int .i64 n]) (v := .string (itoaB n)) Tryd.func49 rfl (by kernel_rfl) (fun m ω vs hA => args1 hA fun v h => erep_int h) (fun m ω => Rep.str _) fun w hw =>
    (Tryd.strconv_Itoa n h0 h1 w (hw.pow (by kernel_rfl))).mono fun e w' ⟨he, k, os, hk⟩ => ⟨he, hk ▸ Lib.below_grow _ w (Nat.le_refl _) k os⟩
def boolB (b : Bool) : ByteArray := ⟨(Lib.formatBool b).toArray⟩
theorem formatBool_sat (b : Bool) : Sat Tryd.prog 63 [.one (.bool b)] (.v (.one (.str (boolB b)))) :=
  sat_of_calls (args := [.bool b]) (v := .string (boolB b)) Tryd.func63 rfl (by kernel_rfl) (fun m ω vs hA => args1 hA fun v h => erep_bool h) (fun m ω => Rep.str _) fun w hw =>
    (Tryd.strconv_FormatBool b w).mono fun e w' ⟨he, hk⟩ => ⟨he, hk ▸ Below.refl _ _⟩
end Go.Bw

namespace Go.Bw
open Go.Proofs
theorem toList_inj {a b : ByteArray} (h : a.toList = b.toList) : a = b := by
  rw [ByteArray.toList_eq, ByteArray.toList_eq] at h
  cases a; cases b
  simp only at h
  congr 1
  exact Array.ext' h
theorem sEq_iff {a b : ByteArray} : sEq a b = true ↔ a = b := by
  simp only [sEq, beq_iff_eq]
  exact ⟨toList_inj, fun h => by rw [h]⟩

/-- A comparison: zero says one and the same; turned round it is the negative; it is transitive. -/
structure IsCmp {α : Type} (c : α → α → Int) : Prop where
  eq0 : ∀ a b, c a b = 0 ↔ a = b
  anti : ∀ a b, c a b = -(c b a)
  trans : ∀ x y z, c x y < 0 → c y z < 0 → c x z < 0
theorem IsCmp.refl {α : Type} {c : α → α → Int} (h : IsCmp c) (a : α) : c a a = 0 := (h.eq0 a a).2 rfl
end Go.Bw

namespace Go.Bw
open Go.Proofs
attribute [local go_sem ↓] VOps_nil VOps_cons VOp_callJ VVal_callH VOps_guard GOn_tt GOn_ff GOn_tf GOn_ft GOn_not GOn_none HOn_none HOn_tt HOn_ff HOn_tf HOn_ft HOn_not VHead_nil VHead_cons VHead_guard VVal_move VVal_assign VVal_pickE pickK_true pickK_false VVal_not VVal_neg negK_int VVal_load loadK_fz loadK_ptr loadK_eptr VVal_fieldAddr VVal_field VVal_indexAddr idxK_sl idxK_ref VVal_index indexK_str VVal_extract VVal_binOp binK_one binK_agg VVal_build VVal_buildSlice VVal_makeFunc VVal_slice sliceK_str sliceK_sl sliceK_nil sliceK_ref VVal_slice3 VVal_nilCheck VVal_convert convKk_int convKk_str VVal_len VVal_max VVal_min VOp_assign assignK_int assignK_bool assignK_str assignK_clo assignK_sl assignK_nil assignK_ref assignK_agg assignK_fz assignK_ptr assignK_eptr assignK_any VOp_box VOp_alloc VOp_store storeK_ptr storeK_eptr VOp_buildSlice VOp_append appK_rr appK_rs appK_rn appK_ri appK_nr appK_ns appK_nn appK_ni appStd_eq VOp_copy copyK_ref VOp_clear clearK_ref VOp_cap VOp_eqNil VOp_move VOp_pick VOp_not VOp_neg VOp_load VOp_fieldAddr VOp_field VOp_indexAddr VOp_index VOp_extract VOp_binTmp VOp_binInt VOp_binStr VOp_build VOp_makeFunc VOp_slice VOp_nilCheck VOp_convert VOp_len VOp_max VOp_min mO_some mT_some pk_some pk_none look_cons del_cons
attribute [local go_sem] guardB gOf int_bne beq_true beq_false Bool.not_not gSlot pickK_true pickK_false negK_int loadK_fz loadK_ptr loadK_eptr idxK_sl idxK_ref indexK_str binK_one binK_agg sliceK_str sliceK_sl sliceK_nil sliceK_ref convKk_int convKk_str maxL minL assignK_int assignK_bool assignK_str assignK_clo assignK_sl assignK_nil assignK_ref assignK_agg assignK_fz assignK_ptr assignK_eptr assignK_any nilRow_eq takeRow_eq appended_eq storeK_ptr storeK_eptr store_mk appIn_eq appMk_eq marked_eq ovOut_nil ovOut_cons ovIn_nil ovIn_cons padRow_eq ysC capK_nil capK_ref ioSt_mk outB_nil outR_nil outB outR inB_nil inB_cons inR_nil inR_cons L.kl L.kl0 L.ids L.ids0 Option.getD_some evalO constA mO_some mT_some put_mk putO_some putO_none okD_some okD_none pk_some pk_none look_nil del_nil sput noBox_mk noRow_mk newBox_eq newRow0_eq St.killRow RowC.kill rowMap_mk rowOf ovAll ovAdd ovDel ovGet ovShift dstOf ysOf overlay_nil overlay_nil' overlay A.map V.map L.noPtr L.noPtr0 L.noRow L.noRow0 L.peek L.norm L.flat clos_int clos_bool clos_str clos_sl clos_nil clos_any clos_fz L.clos L.isFz L.kd moveL fieldOff eqCells eqCell eqOp oneOf boolOf intOfA tupOf vOf aggOf isPtrLike isSlice lenKind lenL nL elemTI loadV asV binL intBin intDivL shrL boolBin strBin boundN partCells fillL placesOf setL chunks repL capsOf capL callOf argsOf frzV_int frzV_bool frzV_str frzV_sl frzV_nil frzV_fz frzV_any frzV_own frzV_clo frzV_ref frzV_eptr frzV_ptr frzRow_nil frzRow_ov frzRs_nil frzRs_cons frzCs_nil frzCs_cons frzO_some frzO_none frzN_int frzN_bool frzN_str frzN_sl frzN_nil frzN_any frzN_own List.map_cons List.map_nil List.cons_append List.nil_append List.append_nil List.length_cons List.length_nil List.length_map List.length_append List.headD_cons List.tail_cons List.getElem?_cons_zero List.getElem?_cons_succ List.drop_zero List.drop_succ_cons List.drop_nil List.take_succ_cons List.take_zero List.take_nil List.take_length List.filter_cons List.filter_nil List.elem_cons List.elem_nil List.all_cons List.all_nil Option.bind_some Option.map_some Option.some.injEq bne_self_eq_false beq_self_eq_true if_true if_false Bool.false_eq_true true_and and_true and_self Nat.zero_add Nat.add_zero Nat.zero_le Int.toNat_natCast Int.toNat_zero Option.isSome_some List.getElem?_toArray decide_true decide_false ge_iff_le gt_iff_lt Bool.not_true Bool.not_false Nat.le_refl Bool.and_true Bool.true_and Bool.and_false Bool.false_and eVal eRow eRow1 eRows eInt1 eInts eCol eCols eTbl eTbls eFK eFKs eCon eCons eSch eRel eInst eChg eChgs szOf getD_map_lt wrap_nat wrap_in List.take_of_length_le frz_eVal frz_eRow1 frz_eInt1 frz_eCol frz_eTbl frz_eFK frz_eCon frz_eRel frz_eChg noOwn_nil noOwn_cons noOwn_append L.isOwn noOwn_eVal noOwn_eRow1 noOwn_eInt1 noOwn_eCol noOwn_eTbl noOwn_eFK noOwn_eCon noOwn_eRel noOwn_eChg convK_2 convK_3 convK_5 convK_12 convK_21 convK_59 convK_163 convK_170 convK_176 convK_180 TT_2 TT_3 TT_4 TT_5 TT_9 TT_12 TT_13 TT_21 TT_22 TT_23 TT_24 TT_25 TT_26 TT_27 TT_28 TT_38 TT_39 TT_40 TT_41 TT_42 TT_45 TT_46 TT_47 TT_48 TT_49 TT_50 TT_51 TT_52 TT_59 TT_65 TT_66 TT_67 TT_68 TT_76 TT_77 TT_92 TT_93 TT_94 TT_114 TT_115 TT_132 TT_163 TT_170 TT_176 TT_180 TT_186 TT_187 TT_192 TT_193 boolTy_4 eqK_46 eqK_50 eqK_52 eqK_193
attribute [local congr] VOps.congr VHead.congr VOp.congr VVal.congr pk.congr assignK.congr appK.congr appStd.congr copyK.congr clearK.congr storeK.congr loadK.congr idxK.congr sliceK.congr indexK.congr binK.congr convKk.congr
theorem less_sat (a b : Val) : Sat Tryd.prog 25 [.agg (eVal a), .agg (eVal b)] (.v (oB (decide (cmpV a b < 0)))) := by
  refine sat_of_body tyOk Tryd.func25 rfl (by kernel_rfl) ⟨Nat.le_of_ble_eq_true rfl, Nat.le_of_ble_eq_true rfl⟩ fun w0 m0 F0 => ?_
  simp only [Tryd.ntmps25, envOf, Nat.reduceAdd]
  repeat' (first
    | ((first
      | with_reducible refine AWP.regionL tyOk fun K hK => ?_
      | ((with_reducible first | refine GOn.isT ?_ ?_ | refine HOn.isT ?_ ?_ | refine pickK.isT ?_ ?_); focus (first | with_reducible rfl | with_reducible assumption | (simp only [NM, LN]; first | done | with_reducible assumption | omega)))
      | ((with_reducible first | refine GOn.isF ?_ ?_ | refine HOn.isF ?_ ?_ | refine pickK.isF ?_ ?_); focus (first | with_reducible rfl | with_reducible assumption | (simp only [NM, LN]; first | done | with_reducible assumption | omega)))
      | ((with_reducible first | refine GOn.split (fun h => ?_) (fun h => ?_) | refine HOn.split (fun h => ?_) (fun h => ?_) | refine pickK.split (fun h => ?_) (fun h => ?_)) <;> (try simp only [NM] at h))
      | with_reducible refine AWP.drawAll tyOk mixed 6 (by kernel_rfl) fun K hK => ?_
      | ((with_reducible refine CallJ.is ?_); (first | refine CallJ.pure (compare_sat a b) ?_ | ((apply CallJ.lentI); (focus (simp -dsimp (disch := (first | omega | (simp only [LN]; omega))) only [go_sem, ↓reduceIte, seval]; rfl)); (focus (first | exact (compare_sat a b))))))
      | ((with_reducible refine CallH.is ?_); (first | refine CallH.intro (compare_sat a b) ?_))) <;> simp -dsimp (disch := (first | omega | (simp only [LN]; omega))) only [go_sem, ↓reduceIte, seval])
    | ((with_reducible refine hK _ ?_); clear hK K)
    | (with_reducible first | refine AWP.seq ?_ | refine thenQ_normal ?_ | refine AWP.block ?_ | refine AWP.skip ?_ | refine AWP.ret ?_ | refine thenQ_ret ?_ | refine blockQ_ret ?_ | refine AWP.exit ?_ | refine thenQ_exit ?_ | refine blockQ_normal ?_ | refine blockQ_exit ?_)
    | refine blockQ_exit_ne rfl ?_
    | (with_reducible refine And.intro (by (first | with_reducible rfl | with_reducible assumption | omega | (simp only [LN]; first | done | with_reducible rfl | omega) | (simp only [NM, LN]; first | done | with_reducible assumption | omega) | (and_intros <;> first | with_reducible assumption | omega | (simp only [LN]; omega)) | fail)) ?_)
    | ((with_reducible refine AWP.condG (T := TT) (b := ?_) ?_ ?_); rotate_left; exact rfl)
    | (with_reducible first | refine CondG.t ?_ | refine CondG.f ?_ | refine CondG.not ?_)
    | ((with_reducible refine CondG.isT ?_ ?_); focus (first | with_reducible rfl | with_reducible assumption | (simp only [NM, LN]; first | done | with_reducible assumption | omega)))
    | ((with_reducible refine CondG.isF ?_ ?_); focus (first | with_reducible rfl | with_reducible assumption | (simp only [NM, LN]; first | done | with_reducible assumption | omega)))
    | ((with_reducible refine CondG.split (fun h => ?_) (fun h => ?_)) <;> (try simp only [NM] at h)))
  simp -dsimp (disch := (first | omega | (simp only [LN]; omega))) only [retQ, Tryd.results25, resVals, cellRV, resOf, St.rest, St.freeze, RT, go_sem, ↓reduceIte, seval]

def t12 : ByteArray := ⟨#[49, 50]⟩
theorem itoa12 : itoaB 12 = t12 := by kernel_rfl
set_option maxHeartbeats 4000000 in
theorem convert12_sat : Sat Tryd.prog 26 [.agg (eVal ⟨1, 12, ByteArray.empty⟩), oI 3] (.tup [.agg (eVal ⟨3, 0, t12⟩), oB true]) := by
  have hv : valE ⟨1, 12, ByteArray.empty⟩ = 0 := by kernel_rfl
  have hi := itoa_sat 12 (by omega) (by omega)
  rw [itoa12] at hi
  refine sat_of_body tyOk Tryd.func26 rfl (by kernel_rfl) ⟨Nat.le_of_ble_eq_true rfl, Nat.le_of_ble_eq_true rfl⟩ fun w0 m0 F0 => ?_
  simp only [Tryd.ntmps26, envOf, Nat.reduceAdd]
  repeat' (first
    | ((first
      | with_reducible refine AWP.regionL tyOk fun K hK => ?_
      | ((with_reducible first | refine GOn.isT ?_ ?_ | refine HOn.isT ?_ ?_ | refine pickK.isT ?_ ?_); focus (first | with_reducible rfl | with_reducible assumption | (simp only [NM, LN]; first | done | with_reducible assumption | omega)))
      | ((with_reducible first | refine GOn.isF ?_ ?_ | refine HOn.isF ?_ ?_ | refine pickK.isF ?_ ?_); focus (first | with_reducible rfl | with_reducible assumption | (simp only [NM, LN]; first | done | with_reducible assumption | omega)))
      | ((with_reducible first | refine GOn.split (fun h => ?_) (fun h => ?_) | refine HOn.split (fun h => ?_) (fun h => ?_) | refine pickK.split (fun h => ?_) (fun h => ?_)) <;> (try simp only [NM] at h))
      | with_reducible refine AWP.drawAll tyOk mixed 6 (by kernel_rfl) fun K hK => ?_
      | ((with_reducible refine CallJ.is ?_); (first | refine CallJ.pure (validate_sat ⟨1, 12, ByteArray.empty⟩) ?_ | refine CallJ.pure (hi) ?_ | ((apply CallJ.lentI); (focus (simp -dsimp (disch := (first | omega | (simp only [LN]; omega))) only [go_sem, ↓reduceIte, seval, hv]; rfl)); (focus (first | exact (validate_sat ⟨1, 12, ByteArray.empty⟩) | exact (hi))))))
      | ((with_reducible refine CallH.is ?_); (first | refine CallH.intro (validate_sat ⟨1, 12, ByteArray.empty⟩) ?_ | refine CallH.intro (hi) ?_))) <;> simp -dsimp (disch := (first | omega | (simp only [LN]; omega))) only [go_sem, ↓reduceIte, seval, hv])
    | ((with_reducible refine hK _ ?_); clear hK K)
    | (with_reducible first | refine AWP.seq ?_ | refine thenQ_normal ?_ | refine AWP.block ?_ | refine AWP.skip ?_ | refine AWP.ret ?_ | refine thenQ_ret ?_ | refine blockQ_ret ?_ | refine AWP.exit ?_ | refine thenQ_exit ?_ | refine blockQ_normal ?_ | refine blockQ_exit ?_)
    | refine blockQ_exit_ne rfl ?_
    | (with_reducible refine And.intro (by (first | with_reducible rfl | with_reducible assumption | omega | (simp only [LN]; first | done | with_reducible rfl | omega) | (simp only [NM, LN]; first | done | with_reducible assumption | omega) | (and_intros <;> first | with_reducible assumption | omega | (simp only [LN]; omega)) | fail)) ?_)
    | ((with_reducible refine AWP.condG (T := TT) (b := ?_) ?_ ?_); rotate_left; exact rfl)
    | (with_reducible first | refine CondG.t ?_ | refine CondG.f ?_ | refine CondG.not ?_)
    | ((with_reducible refine CondG.isT ?_ ?_); focus (first | with_reducible rfl | with_reducible assumption | (simp only [NM, LN]; first | done | with_reducible assumption | omega)))
    | ((with_reducible refine CondG.isF ?_ ?_); focus (first | with_reducible rfl | with_reducible assumption | (simp only [NM, LN]; first | done | with_reducible assumption | omega)))
    | ((with_reducible refine CondG.split (fun h => ?_) (fun h => ?_)) <;> (try simp only [NM] at h)))
  simp -dsimp (disch := (first | omega | (simp only [LN]; omega))) only [retQ, Tryd.results26, resVals, cellRV, resOf, St.rest, St.freeze, RT, go_sem, ↓reduceIte, seval]
theorem less34_sat : Sat Tryd.prog 25 [.agg (eVal ⟨1, 3, ByteArray.empty⟩), .agg (eVal ⟨1, 4, ByteArray.empty⟩)] (.v (oB true)) := less_sat _ _
theorem less43_sat : Sat Tryd.prog 25 [.agg (eVal ⟨1, 4, ByteArray.empty⟩), .agg (eVal ⟨1, 3, ByteArray.empty⟩)] (.v (oB false)) := less_sat _ _
set_option maxHeartbeats 8000000 in
theorem valuesWork_sat : Sat Tryd.prog 24 [] (.v (oB true)) := by
  have ht : t12.toList = ({ data := #[49, 50] } : ByteArray).toList := rfl
  refine sat_of_body tyOk Tryd.func24 rfl (by kernel_rfl) ⟨Nat.le_of_ble_eq_true rfl, Nat.le_of_ble_eq_true rfl⟩ fun w0 m0 F0 => ?_
  simp only [Tryd.ntmps24, envOf, Nat.reduceAdd]
  repeat' (first
    | ((first
      | with_reducible refine AWP.regionL tyOk fun K hK => ?_
      | ((with_reducible first | refine GOn.isT ?_ ?_ | refine HOn.isT ?_ ?_ | refine pickK.isT ?_ ?_); focus (first | with_reducible rfl | with_reducible assumption | (simp only [NM, LN]; first | done | with_reducible assumption | omega)))
      | ((with_reducible first | refine GOn.isF ?_ ?_ | refine HOn.isF ?_ ?_ | refine pickK.isF ?_ ?_); focus (first | with_reducible rfl | with_reducible assumption | (simp only [NM, LN]; first | done | with_reducible assumption | omega)))
      | ((with_reducible first | refine GOn.split (fun h => ?_) (fun h => ?_) | refine HOn.split (fun h => ?_) (fun h => ?_) | refine pickK.split (fun h => ?_) (fun h => ?_)) <;> (try simp only [NM] at h))
      | with_reducible refine AWP.drawAll tyOk mixed 6 (by kernel_rfl) fun K hK => ?_
      | ((with_reducible refine CallJ.is ?_); (first | refine CallJ.pure (integer_sat 12) ?_ | refine CallJ.pure (convert12_sat) ?_ | refine CallJ.pure (integer_sat 3) ?_ | refine CallJ.pure (integer_sat 4) ?_ | refine CallJ.pure (less34_sat) ?_ | refine CallJ.pure (less43_sat) ?_ | ((apply CallJ.lentI); (focus (simp -dsimp (disch := (first | omega | (simp only [LN]; omega))) only [go_sem, ↓reduceIte, seval, ht, beq_self_eq_true]; rfl)); (focus (first | exact (integer_sat 12) | exact (convert12_sat) | exact (integer_sat 3) | exact (integer_sat 4) | exact (less34_sat) | exact (less43_sat))))))
      | ((with_reducible refine CallH.is ?_); (first | refine CallH.intro (integer_sat 12) ?_ | refine CallH.intro (convert12_sat) ?_ | refine CallH.intro (integer_sat 3) ?_ | refine CallH.intro (integer_sat 4) ?_ | refine CallH.intro (less34_sat) ?_ | refine CallH.intro (less43_sat) ?_))) <;> simp -dsimp (disch := (first | omega | (simp only [LN]; omega))) only [go_sem, ↓reduceIte, seval, ht, beq_self_eq_true])
    | ((with_reducible refine hK _ ?_); clear hK K)
    | (with_reducible first | refine AWP.seq ?_ | refine thenQ_normal ?_ | refine AWP.block ?_ | refine AWP.skip ?_ | refine AWP.ret ?_ | refine thenQ_ret ?_ | refine blockQ_ret ?_ | refine AWP.exit ?_ | refine thenQ_exit ?_ | refine blockQ_normal ?_ | refine blockQ_exit ?_)
    | refine blockQ_exit_ne rfl ?_
    | (with_reducible refine And.intro (by (first | with_reducible rfl | with_reducible assumption | omega | (simp only [LN]; first | done | with_reducible rfl | omega) | (simp only [NM, LN]; first | done | with_reducible assumption | omega) | (and_intros <;> first | with_reducible assumption | omega | (simp only [LN]; omega)) | fail)) ?_)
    | ((with_reducible refine AWP.condG (T := TT) (b := ?_) ?_ ?_); rotate_left; exact rfl)
    | (with_reducible first | refine CondG.t ?_ | refine CondG.f ?_ | refine CondG.not ?_)
    | ((with_reducible refine CondG.isT ?_ ?_); focus (first | with_reducible rfl | with_reducible assumption | (simp only [NM, LN]; first | done | with_reducible assumption | omega)))
    | ((with_reducible refine CondG.isF ?_ ?_); focus (first | with_reducible rfl | with_reducible assumption | (simp only [NM, LN]; first | done | with_reducible assumption | omega)))
    | ((with_reducible refine CondG.split (fun h => ?_) (fun h => ?_)) <;> (try simp only [NM] at h)))
  simp -dsimp (disch := (first | omega | (simp only [LN]; omega))) only [retQ, Tryd.results24, resVals, cellRV, resOf, St.rest, St.freeze, RT, go_sem, ↓reduceIte, seval]

def bTrue : ByteArray := ⟨#[116, 114, 117, 101]⟩
def bFalse : ByteArray := ⟨#[102, 97, 108, 115, 101]⟩
/-- What parseInt returns. -/
def pInt (s : ByteArray) : Val × Bool := match Lib.atoiAll s.data.toList with
  | .ok n => if (itoaB n).toList = s.toList ∧ ¬ n < -1000000000000 ∧ ¬ 1000000000000 < n then (⟨1, n, ByteArray.empty⟩, true) else (zV, false)
  | _ => (zV, false)
/-- What parseBool returns. -/
def pBool (s : ByteArray) : Val × Bool := if sEq s bTrue then (⟨2, 1, ByteArray.empty⟩, true) else if sEq s bFalse then (⟨2, 0, ByteArray.empty⟩, true) else (zV, false)
theorem erep_str {m : Mem} {ω : Wh} {v : Value} {s : ByteArray} (h : ERep m ω v (.str s)) : v = .string s := by
  have h : Rep m v (.str s) := h
  cases h; rfl
theorem arep_valBool {m : Mem} {ω : Wh} (v : Val) (b : Bool) : ARep m ω (.tuple #[.agg #[.int .i64 v.kind, .int .i64 v.int, .string v.text], .bool b]) (.tup [.agg (eVal v), oB b]) := by
  refine ⟨_, rfl, rfl, fun j x hx => ?_⟩
  match j, hx with
  | 0, hx =>
    simp only [List.getElem?_cons_zero, Option.some.injEq] at hx
    subst hx
    refine ⟨_, rfl, #[.int .i64 v.kind, .int .i64 v.int, .string v.text], rfl, rfl, fun j l hl => ?_⟩
    match j, hl with
    | 0, hl => simp only [eVal, List.getElem?_cons_zero, Option.some.injEq] at hl; subst hl; exact ⟨_, rfl, Rep.int _ _⟩
    | 1, hl => simp only [eVal, List.getElem?_cons_succ, List.getElem?_cons_zero, Option.some.injEq] at hl; subst hl; exact ⟨_, rfl, Rep.int _ _⟩
    | 2, hl => simp only [eVal, List.getElem?_cons_succ, List.getElem?_cons_zero, Option.some.injEq] at hl; subst hl; exact ⟨_, rfl, Rep.str _⟩
    | k + 3, hl => simp [eVal] at hl
  | 1, hx =>
    simp only [List.getElem?_cons_succ, List.getElem?_cons_zero, Option.some.injEq] at hx
    subst hx
    exact ⟨_, rfl, Rep.bool _⟩
  | k + 2, hx => simp at hx
theorem laidCell {P : Program} {w : World} {n : String} {g : Nat} {v : Value} (hg : P.globalNamed n = some g) (h : w.var? P n = some #[v]) : w.cell? ⟨g, 0, none⟩ = some v := by
  have := World.var?_cell hg h 0
  simpa using this
theorem parseInt_sat (s : ByteArray) (hl : s.size ≤ 24) : Sat Tryd.prog 65 [.one (.str s)] (.tup [.agg (eVal (pInt s).1), oB (pInt s).2]) := by
  refine sat_of_calls (args := [.string s]) (v := .tuple #[.agg #[.int .i64 (pInt s).1.kind, .int .i64 (pInt s).1.int, .string (pInt s).1.text], .bool (pInt s).2]) Tryd.func65 rfl (by kernel_rfl) (fun m ω vs hA => args1 hA fun v h => erep_str h) (fun m ω => arep_valBool _ _) fun w hw => ?_
  have hp : Lib.TabIs Tryd.prog w "internal/strconv.uint64pow10" .u64 Lib.pow10Tab := hw.pow (by kernel_rfl)
  have gS : Tryd.prog.globalNamed "strconv.ErrSyntax" = some 2 := by kernel_rfl
  have gR : Tryd.prog.globalNamed "strconv.ErrRange" = some 3 := by kernel_rfl
  rcases h : Lib.atoiAll s.data.toList with n | _ | _
  rotate_left
  · have h : Lib.atoiAll s.data.toList = Lib.atoiAll [] := h
    obtain ⟨tp, p, hv⟩ := hw.syn (by kernel_rfl)
    have e : pInt s = (zV, false) := by unfold pInt; rw [h]; rfl
    rw [e]
    exact Tryd.parseInt_bad s hl h w tp p (laidCell gS hv)
  · obtain ⟨tp, p, hv⟩ := hw.rng (by kernel_rfl)
    have e : pInt s = (zV, false) := by simp [pInt, h]
    rw [e]
    exact Tryd.parseInt_range s hl h w tp p (laidCell gR hv)
  · by_cases ht : (itoaB n).toList = s.toList
    · by_cases h1 : n < -1000000000000
      · have e : pInt s = (zV, false) := by simp [pInt, h, h1]
        rw [e]
        exact Tryd.parseInt_low s hl n h ht h1 w hp
      · by_cases h2 : 1000000000000 < n
        · have e : pInt s = (zV, false) := by simp [pInt, h, h2]
          rw [e]
          exact Tryd.parseInt_high s hl n h ht h1 h2 w hp
        · have e : pInt s = (⟨1, n, ByteArray.empty⟩, true) := by
            simp only [pInt, h]
            rw [if_pos ⟨ht, h1, h2⟩]
          rw [e]
          exact Tryd.parseInt_good s hl n h ht h1 h2 w hp
    · have e : pInt s = (zV, false) := by simp [pInt, h, ht]
      rw [e]
      exact Tryd.parseInt_text s hl n h ht w hp
set_option maxHeartbeats 4000000 in
theorem parseBool_sat (s : ByteArray) : Sat Tryd.prog 64 [.one (.str s)] (.tup [.agg (eVal (pBool s).1), oB (pBool s).2]) := by
  cases h1 : sEq s bTrue with
  | true =>
    have e : pBool s = (⟨2, 1, ByteArray.empty⟩, true) := by simp [pBool, h1]
    rw [e]
    have h1 : (s.toList == (⟨#[116, 114, 117, 101]⟩ : ByteArray).toList) = true := h1
    refine sat_of_body tyOk Tryd.func64 rfl (by kernel_rfl) ⟨Nat.le_of_ble_eq_true rfl, Nat.le_of_ble_eq_true rfl⟩ fun w0 m0 F0 => ?_
    simp only [Tryd.ntmps64, envOf, Nat.reduceAdd]
    repeat' (first
      | ((first
        | with_reducible refine AWP.regionL tyOk fun K hK => ?_
        | ((with_reducible first | refine GOn.isT ?_ ?_ | refine HOn.isT ?_ ?_ | refine pickK.isT ?_ ?_); focus (first | with_reducible rfl | with_reducible assumption | (simp only [NM, LN]; first | done | with_reducible assumption | omega)))
        | ((with_reducible first | refine GOn.isF ?_ ?_ | refine HOn.isF ?_ ?_ | refine pickK.isF ?_ ?_); focus (first | with_reducible rfl | with_reducible assumption | (simp only [NM, LN]; first | done | with_reducible assumption | omega)))
        | with_reducible refine AWP.drawAll tyOk mixed 6 (by kernel_rfl) fun K hK => ?_) <;> simp -dsimp (disch := (first | omega | (simp only [LN]; omega))) only [go_sem, ↓reduceIte, seval, h1])
      | ((with_reducible refine hK _ ?_); clear hK K)
      | (with_reducible first | refine AWP.seq ?_ | refine thenQ_normal ?_ | refine AWP.block ?_ | refine AWP.skip ?_ | refine AWP.ret ?_ | refine thenQ_ret ?_ | refine blockQ_ret ?_ | refine AWP.exit ?_ | refine thenQ_exit ?_ | refine blockQ_normal ?_ | refine blockQ_exit ?_)
      | refine blockQ_exit_ne rfl ?_
      | (with_reducible refine And.intro (by (first | with_reducible rfl | with_reducible assumption | omega | (simp only [LN]; first | done | with_reducible rfl | omega) | (simp only [NM, LN]; first | done | with_reducible assumption | omega) | (and_intros <;> first | with_reducible assumption | omega | (simp only [LN]; omega)) | fail)) ?_)
      | ((with_reducible refine AWP.condG (T := TT) (b := ?_) ?_ ?_); rotate_left; exact rfl)
      | (with_reducible first | refine CondG.t ?_ | refine CondG.f ?_ | refine CondG.not ?_)
      | ((with_reducible refine CondG.isT ?_ ?_); focus (first | with_reducible rfl | with_reducible assumption | (simp only [NM, LN]; first | done | with_reducible assumption | omega)))
      | ((with_reducible refine CondG.isF ?_ ?_); focus (first | with_reducible rfl | with_reducible assumption | (simp only [NM, LN]; first | done | with_reducible assumption | omega))))
    all_goals simp -dsimp (disch := (first | omega | (simp only [LN]; omega))) only [retQ, Tryd.results64, resVals, cellRV, resOf, St.rest, St.freeze, RT, go_sem, ↓reduceIte, seval]
  | false =>
    cases h2 : sEq s bFalse with
    | true =>
      have e : pBool s = (⟨2, 0, ByteArray.empty⟩, true) := by simp [pBool, h1, h2]
      rw [e]
      have h1 : (s.toList == (⟨#[116, 114, 117, 101]⟩ : ByteArray).toList) = false := h1
      have h2 : (s.toList == (⟨#[102, 97, 108, 115, 101]⟩ : ByteArray).toList) = true := h2
      refine sat_of_body tyOk Tryd.func64 rfl (by kernel_rfl) ⟨Nat.le_of_ble_eq_true rfl, Nat.le_of_ble_eq_true rfl⟩ fun w0 m0 F0 => ?_
      simp only [Tryd.ntmps64, envOf, Nat.reduceAdd]
      repeat' (first
        | ((first
          | with_reducible refine AWP.regionL tyOk fun K hK => ?_
          | ((with_reducible first | refine GOn.isT ?_ ?_ | refine HOn.isT ?_ ?_ | refine pickK.isT ?_ ?_); focus (first | with_reducible rfl | with_reducible assumption | (simp only [NM, LN]; first | done | with_reducible assumption | omega)))
          | ((with_reducible first | refine GOn.isF ?_ ?_ | refine HOn.isF ?_ ?_ | refine pickK.isF ?_ ?_); focus (first | with_reducible rfl | with_reducible assumption | (simp only [NM, LN]; first | done | with_reducible assumption | omega)))
          | with_reducible refine AWP.drawAll tyOk mixed 6 (by kernel_rfl) fun K hK => ?_) <;> simp -dsimp (disch := (first | omega | (simp only [LN]; omega))) only [go_sem, ↓reduceIte, seval, h1, h2])
        | ((with_reducible refine hK _ ?_); clear hK K)
        | (with_reducible first | refine AWP.seq ?_ | refine thenQ_normal ?_ | refine AWP.block ?_ | refine AWP.skip ?_ | refine AWP.ret ?_ | refine thenQ_ret ?_ | refine blockQ_ret ?_ | refine AWP.exit ?_ | refine thenQ_exit ?_ | refine blockQ_normal ?_ | refine blockQ_exit ?_)
        | refine blockQ_exit_ne rfl ?_
        | (with_reducible refine And.intro (by (first | with_reducible rfl | with_reducible assumption | omega | (simp only [LN]; first | done | with_reducible rfl | omega) | (simp only [NM, LN]; first | done | with_reducible assumption | omega) | (and_intros <;> first | with_reducible assumption | omega | (simp only [LN]; omega)) | fail)) ?_)
        | ((with_reducible refine AWP.condG (T := TT) (b := ?_) ?_ ?_); rotate_left; exact rfl)
        | (with_reducible first | refine CondG.t ?_ | refine CondG.f ?_ | refine CondG.not ?_)
        | ((with_reducible refine CondG.isT ?_ ?_); focus (first | with_reducible rfl | with_reducible assumption | (simp only [NM, LN]; first | done | with_reducible assumption | omega)))
        | ((with_reducible refine CondG.isF ?_ ?_); focus (first | with_reducible rfl | with_reducible assumption | (simp only [NM, LN]; first | done | with_reducible assumption | omega))))
      all_goals simp -dsimp (disch := (first | omega | (simp only [LN]; omega))) only [retQ, Tryd.results64, resVals, cellRV, resOf, St.rest, St.freeze, RT, go_sem, ↓reduceIte, seval]
    | false =>
      have e : pBool s = (zV, false) := by simp [pBool, h1, h2]
      rw [e]
      have h1 : (s.toList == (⟨#[116, 114, 117, 101]⟩ : ByteArray).toList) = false := h1
      have h2 : (s.toList == (⟨#[102, 97, 108, 115, 101]⟩ : ByteArray).toList) = false := h2
      refine sat_of_body tyOk Tryd.func64 rfl (by kernel_rfl) ⟨Nat.le_of_ble_eq_true rfl, Nat.le_of_ble_eq_true rfl⟩ fun w0 m0 F0 => ?_
      simp only [Tryd.ntmps64, envOf, Nat.reduceAdd]
      repeat' (first
        | ((first
          | with_reducible refine AWP.regionL tyOk fun K hK => ?_
          | ((with_reducible first | refine GOn.isT ?_ ?_ | refine HOn.isT ?_ ?_ | refine pickK.isT ?_ ?_); focus (first | with_reducible rfl | with_reducible assumption | (simp only [NM, LN]; first | done | with_reducible assumption | omega)))
          | ((with_reducible first | refine GOn.isF ?_ ?_ | refine HOn.isF ?_ ?_ | refine pickK.isF ?_ ?_); focus (first | with_reducible rfl | with_reducible assumption | (simp only [NM, LN]; first | done | with_reducible assumption | omega)))
          | with_reducible refine AWP.drawAll tyOk mixed 6 (by kernel_rfl) fun K hK => ?_) <;> simp -dsimp (disch := (first | omega | (simp only [LN]; omega))) only [go_sem, ↓reduceIte, seval, h1, h2])
        | ((with_reducible refine hK _ ?_); clear hK K)
        | (with_reducible first | refine AWP.seq ?_ | refine thenQ_normal ?_ | refine AWP.block ?_ | refine AWP.skip ?_ | refine AWP.ret ?_ | refine thenQ_ret ?_ | refine blockQ_ret ?_ | refine AWP.exit ?_ | refine thenQ_exit ?_ | refine blockQ_normal ?_ | refine blockQ_exit ?_)
        | refine blockQ_exit_ne rfl ?_
        | (with_reducible refine And.intro (by (first | with_reducible rfl | with_reducible assumption | omega | (simp only [LN]; first | done | with_reducible rfl | omega) | (simp only [NM, LN]; first | done | with_reducible assumption | omega) | (and_intros <;> first | with_reducible assumption | omega | (simp only [LN]; omega)) | fail)) ?_)
        | ((with_reducible refine AWP.condG (T := TT) (b := ?_) ?_ ?_); rotate_left; exact rfl)
        | (with_reducible first | refine CondG.t ?_ | refine CondG.f ?_ | refine CondG.not ?_)
        | ((with_reducible refine CondG.isT ?_ ?_); focus (first | with_reducible rfl | with_reducible assumption | (simp only [NM, LN]; first | done | with_reducible assumption | omega)))
        | ((with_reducible refine CondG.isF ?_ ?_); focus (first | with_reducible rfl | with_reducible assumption | (simp only [NM, LN]; first | done | with_reducible assumption | omega))))
      all_goals simp -dsimp (disch := (first | omega | (simp only [LN]; omega))) only [retQ, Tryd.results64, resVals, cellRV, resOf, St.rest, St.freeze, RT, go_sem, ↓reduceIte, seval]
      rfl

theorem valCells (a b : Val) (h : a ≠ b) : (a.kind == b.kind && (a.int == b.int && a.text.toList == b.text.toList)) = false := by
  cases hk : a.kind == b.kind && (a.int == b.int && a.text.toList == b.text.toList) with
  | false => rfl
  | true =>
    simp only [Bool.and_eq_true, beq_iff_eq] at hk
    obtain ⟨h1, h2, h3⟩ := hk
    exact absurd (by cases a; cases b; simp only at h1 h2 h3; rw [h1, h2, toList_inj h3]) h

/-- What Convert returns. -/
def convV (v : Val) (k : Int) : Val × Bool :=
  if valE v ≠ 0 ∨ k < 1 ∨ 3 < k then (zV, false)
  else if v.kind = 0 ∨ v.kind = k then (v, true)
  else if k = 3 then (if v.kind = 1 then (⟨3, 0, itoaB v.int⟩, true) else (⟨3, 0, boolB (v.int == 1)⟩, true))
  else if v.kind = 3 then (if k = 2 then pBool v.text else pInt v.text)
  else if v.int = 0 ∨ v.int = 1 then (⟨k, v.int, ByteArray.empty⟩, true)
  else (zV, false)
theorem empty_of {t : ByteArray} (h : sEq t ByteArray.empty = true) : t = ByteArray.empty := (sEq_iff).1 h
theorem valE_cases {v : Val} (h : valE v = 0) : v = zV ∨ (∃ n, -1000000000000 ≤ n ∧ n ≤ 1000000000000 ∧ v = ⟨1, n, ByteArray.empty⟩) ∨ (∃ n, (n = 0 ∨ n = 1) ∧ v = ⟨2, n, ByteArray.empty⟩) ∨ ∃ t, t.size ≤ 24 ∧ v = ⟨3, 0, t⟩ := by
  obtain ⟨k, n, t⟩ := v
  unfold valE at h
  simp only at h
  split at h
  · rename_i hk
    split at h
    · cases h
    · rename_i hn
      left
      have h1 : n = 0 := by
        apply Classical.byContradiction; intro q; exact hn (.inl q)
      have h2 : sEq t ByteArray.empty = true := by
        cases q : sEq t ByteArray.empty with
        | true => rfl
        | false => exact absurd (.inr q) hn
      subst hk
      rw [h1, empty_of h2]
      rfl
  · split at h
    · rename_i h0 hk
      split at h
      · cases h
      · rename_i ht
        have ht : sEq t ByteArray.empty = true := by simpa using ht
        split at h
        · cases h
        · rename_i hr
          rw [empty_of ht]
          rcases hk with hk | hk
          · right; left
            exact ⟨n, by omega, by omega, by rw [hk]⟩
          · right; right; left
            exact ⟨n, by omega, by rw [hk]⟩
    · split at h
      · rename_i hk
        split at h
        · cases h
        · rename_i hn
          split at h
          · cases h
          · rename_i hs
            right; right; right
            exact ⟨t, by omega, by rw [hk, show n = 0 by omega]⟩
      · cases h
theorem valE_int {n : Int} (h0 : -1000000000000 ≤ n) (h1 : n ≤ 1000000000000) : valE ⟨1, n, ByteArray.empty⟩ = 0 := by
  simp [valE, sEq]
  omega
theorem valE_bool {n : Int} (h : n = 0 ∨ n = 1) : valE ⟨2, n, ByteArray.empty⟩ = 0 := by
  rcases h with rfl | rfl <;> simp [valE, sEq]
theorem valE_text {t : ByteArray} (h : t.size ≤ 24) : valE ⟨3, 0, t⟩ = 0 := by
  simp [valE]
  omega

set_option maxHeartbeats 4000000 in
theorem convert_bad (v : Val) (k : Int) (h : valE v ≠ 0) : Sat Tryd.prog 26 [.agg (eVal v), oI k] (.tup [.agg (eVal zV), oB false]) := by
  have h1 : (valE v == 0) = false := by simpa using h
  refine sat_of_body tyOk Tryd.func26 rfl (by kernel_rfl) ⟨Nat.le_of_ble_eq_true rfl, Nat.le_of_ble_eq_true rfl⟩ fun w0 m0 F0 => ?_
  simp only [Tryd.ntmps26, envOf, Nat.reduceAdd]
  repeat' (first
    | ((first
      | with_reducible refine AWP.regionL tyOk fun K hK => ?_
      | ((with_reducible first | refine GOn.isT ?_ ?_ | refine HOn.isT ?_ ?_ | refine pickK.isT ?_ ?_); focus (first | with_reducible rfl | with_reducible assumption | (simp only [NM, LN]; first | done | with_reducible assumption | omega)))
      | ((with_reducible first | refine GOn.isF ?_ ?_ | refine HOn.isF ?_ ?_ | refine pickK.isF ?_ ?_); focus (first | with_reducible rfl | with_reducible assumption | (simp only [NM, LN]; first | done | with_reducible assumption | omega)))
      | with_reducible refine AWP.drawAll tyOk mixed 6 (by kernel_rfl) fun K hK => ?_
      | ((with_reducible refine CallJ.is ?_); (first | refine CallJ.pure (validate_sat v) ?_ | ((apply CallJ.lentI); (focus (simp -dsimp (disch := (first | omega | (simp only [LN]; omega))) only [go_sem, ↓reduceIte, seval, h1]; rfl)); (focus (first | exact (validate_sat v))))))
      | ((with_reducible refine CallH.is ?_); (first | refine CallH.intro (validate_sat v) ?_))) <;> simp -dsimp (disch := (first | omega | (simp only [LN]; omega))) only [go_sem, ↓reduceIte, seval, h1])
    | ((with_reducible refine hK _ ?_); clear hK K)
    | (with_reducible first | refine AWP.seq ?_ | refine thenQ_normal ?_ | refine AWP.block ?_ | refine AWP.skip ?_ | refine AWP.ret ?_ | refine thenQ_ret ?_ | refine blockQ_ret ?_ | refine AWP.exit ?_ | refine thenQ_exit ?_ | refine blockQ_normal ?_ | refine blockQ_exit ?_)
    | refine blockQ_exit_ne rfl ?_
    | (with_reducible refine And.intro (by (first | with_reducible rfl | with_reducible assumption | omega | (simp only [LN]; first | done | with_reducible rfl | omega) | (simp only [NM, LN]; first | done | with_reducible assumption | omega) | (and_intros <;> first | with_reducible assumption | omega | (simp only [LN]; omega)) | fail)) ?_)
    | ((with_reducible refine AWP.condG (T := TT) (b := ?_) ?_ ?_); rotate_left; exact rfl)
    | (with_reducible first | refine CondG.t ?_ | refine CondG.f ?_ | refine CondG.not ?_)
    | ((with_reducible refine CondG.isT ?_ ?_); focus (first | with_reducible rfl | with_reducible assumption | (simp only [NM, LN]; first | done | with_reducible assumption | omega)))
    | ((with_reducible refine CondG.isF ?_ ?_); focus (first | with_reducible rfl | with_reducible assumption | (simp only [NM, LN]; first | done | with_reducible assumption | omega))))
  all_goals simp -dsimp (disch := (first | omega | (simp only [LN]; omega))) only [retQ, Tryd.results26, resVals, cellRV, resOf, St.rest, St.freeze, RT, go_sem, ↓reduceIte, seval]
  all_goals rfl
set_option maxHeartbeats 4000000 in
theorem convert_low (v : Val) (k : Int) (h : valE v = 0) (hk : k < 1) : Sat Tryd.prog 26 [.agg (eVal v), oI k] (.tup [.agg (eVal zV), oB false]) := by
  have h1 : decide (k < 1) = true := by simpa using hk
  refine sat_of_body tyOk Tryd.func26 rfl (by kernel_rfl) ⟨Nat.le_of_ble_eq_true rfl, Nat.le_of_ble_eq_true rfl⟩ fun w0 m0 F0 => ?_
  simp only [Tryd.ntmps26, envOf, Nat.reduceAdd]
  repeat' (first
    | ((first
      | with_reducible refine AWP.regionL tyOk fun K hK => ?_
      | ((with_reducible first | refine GOn.isT ?_ ?_ | refine HOn.isT ?_ ?_ | refine pickK.isT ?_ ?_); focus (first | with_reducible rfl | with_reducible assumption | (simp only [NM, LN]; first | done | with_reducible assumption | omega)))
      | ((with_reducible first | refine GOn.isF ?_ ?_ | refine HOn.isF ?_ ?_ | refine pickK.isF ?_ ?_); focus (first | with_reducible rfl | with_reducible assumption | (simp only [NM, LN]; first | done | with_reducible assumption | omega)))
      | with_reducible refine AWP.drawAll tyOk mixed 6 (by kernel_rfl) fun K hK => ?_
      | ((with_reducible refine CallJ.is ?_); (first | refine CallJ.pure (validate_sat v) ?_ | ((apply CallJ.lentI); (focus (simp -dsimp (disch := (first | omega | (simp only [LN]; omega))) only [go_sem, ↓reduceIte, seval, h, h1]; rfl)); (focus (first | exact (validate_sat v))))))
      | ((with_reducible refine CallH.is ?_); (first | refine CallH.intro (validate_sat v) ?_))) <;> simp -dsimp (disch := (first | omega | (simp only [LN]; omega))) only [go_sem, ↓reduceIte, seval, h, h1])
    | ((with_reducible refine hK _ ?_); clear hK K)
    | (with_reducible first | refine AWP.seq ?_ | refine thenQ_normal ?_ | refine AWP.block ?_ | refine AWP.skip ?_ | refine AWP.ret ?_ | refine thenQ_ret ?_ | refine blockQ_ret ?_ | refine AWP.exit ?_ | refine thenQ_exit ?_ | refine blockQ_normal ?_ | refine blockQ_exit ?_)
    | refine blockQ_exit_ne rfl ?_
    | (with_reducible refine And.intro (by (first | with_reducible rfl | with_reducible assumption | omega | (simp only [LN]; first | done | with_reducible rfl | omega) | (simp only [NM, LN]; first | done | with_reducible assumption | omega) | (and_intros <;> first | with_reducible assumption | omega | (simp only [LN]; omega)) | fail)) ?_)
    | ((with_reducible refine AWP.condG (T := TT) (b := ?_) ?_ ?_); rotate_left; exact rfl)
    | (with_reducible first | refine CondG.t ?_ | refine CondG.f ?_ | refine CondG.not ?_)
    | ((with_reducible refine CondG.isT ?_ ?_); focus (first | with_reducible rfl | with_reducible assumption | (simp only [NM, LN]; first | done | with_reducible assumption | omega)))
    | ((with_reducible refine CondG.isF ?_ ?_); focus (first | with_reducible rfl | with_reducible assumption | (simp only [NM, LN]; first | done | with_reducible assumption | omega))))
  all_goals simp -dsimp (disch := (first | omega | (simp only [LN]; omega))) only [retQ, Tryd.results26, resVals, cellRV, resOf, St.rest, St.freeze, RT, go_sem, ↓reduceIte, seval]
  all_goals rfl
set_option maxHeartbeats 4000000 in
theorem convert_high (v : Val) (k : Int) (h : valE v = 0) (hk : 3 < k) : Sat Tryd.prog 26 [.agg (eVal v), oI k] (.tup [.agg (eVal zV), oB false]) := by
  have h1 : decide (k < 1) = false := by simp; omega
  have h2 : decide (3 < k) = true := by simpa using hk
  refine sat_of_body tyOk Tryd.func26 rfl (by kernel_rfl) ⟨Nat.le_of_ble_eq_true rfl, Nat.le_of_ble_eq_true rfl⟩ fun w0 m0 F0 => ?_
  simp only [Tryd.ntmps26, envOf, Nat.reduceAdd]
  repeat' (first
    | ((first
      | with_reducible refine AWP.regionL tyOk fun K hK => ?_
      | ((with_reducible first | refine GOn.isT ?_ ?_ | refine HOn.isT ?_ ?_ | refine pickK.isT ?_ ?_); focus (first | with_reducible rfl | with_reducible assumption | (simp only [NM, LN]; first | done | with_reducible assumption | omega)))
      | ((with_reducible first | refine GOn.isF ?_ ?_ | refine HOn.isF ?_ ?_ | refine pickK.isF ?_ ?_); focus (first | with_reducible rfl | with_reducible assumption | (simp only [NM, LN]; first | done | with_reducible assumption | omega)))
      | with_reducible refine AWP.drawAll tyOk mixed 6 (by kernel_rfl) fun K hK => ?_
      | ((with_reducible refine CallJ.is ?_); (first | refine CallJ.pure (validate_sat v) ?_ | ((apply CallJ.lentI); (focus (simp -dsimp (disch := (first | omega | (simp only [LN]; omega))) only [go_sem, ↓reduceIte, seval, h, h1, h2]; rfl)); (focus (first | exact (validate_sat v))))))
      | ((with_reducible refine CallH.is ?_); (first | refine CallH.intro (validate_sat v) ?_))) <;> simp -dsimp (disch := (first | omega | (simp only [LN]; omega))) only [go_sem, ↓reduceIte, seval, h, h1, h2])
    | ((with_reducible refine hK _ ?_); clear hK K)
    | (with_reducible first | refine AWP.seq ?_ | refine thenQ_normal ?_ | refine AWP.block ?_ | refine AWP.skip ?_ | refine AWP.ret ?_ | refine thenQ_ret ?_ | refine blockQ_ret ?_ | refine AWP.exit ?_ | refine thenQ_exit ?_ | refine blockQ_normal ?_ | refine blockQ_exit ?_)
    | refine blockQ_exit_ne rfl ?_
    | (with_reducible refine And.intro (by (first | with_reducible rfl | with_reducible assumption | omega | (simp only [LN]; first | done | with_reducible rfl | omega) | (simp only [NM, LN]; first | done | with_reducible assumption | omega) | (and_intros <;> first | with_reducible assumption | omega | (simp only [LN]; omega)) | fail)) ?_)
    | ((with_reducible refine AWP.condG (T := TT) (b := ?_) ?_ ?_); rotate_left; exact rfl)
    | (with_reducible first | refine CondG.t ?_ | refine CondG.f ?_ | refine CondG.not ?_)
    | ((with_reducible refine CondG.isT ?_ ?_); focus (first | with_reducible rfl | with_reducible assumption | (simp only [NM, LN]; first | done | with_reducible assumption | omega)))
    | ((with_reducible refine CondG.isF ?_ ?_); focus (first | with_reducible rfl | with_reducible assumption | (simp only [NM, LN]; first | done | with_reducible assumption | omega))))
  all_goals simp -dsimp (disch := (first | omega | (simp only [LN]; omega))) only [retQ, Tryd.results26, resVals, cellRV, resOf, St.rest, St.freeze, RT, go_sem, ↓reduceIte, seval]
  all_goals rfl
set_option maxHeartbeats 4000000 in
theorem convert_null (k : Int) (h1 : 1 ≤ k) (h2 : k ≤ 3) : Sat Tryd.prog 26 [.agg (eVal zV), oI k] (.tup [.agg (eVal zV), oB true]) := by
  have hv : valE ⟨0, 0, ByteArray.empty⟩ = 0 := by kernel_rfl
  have vs := validate_sat ⟨0, 0, ByteArray.empty⟩
  rw [hv] at vs
  have h1 : decide (k < 1) = false := by simp; omega
  have h2 : decide (3 < k) = false := by simp; omega
  refine sat_of_body tyOk Tryd.func26 rfl (by kernel_rfl) ⟨Nat.le_of_ble_eq_true rfl, Nat.le_of_ble_eq_true rfl⟩ fun w0 m0 F0 => ?_
  simp only [Tryd.ntmps26, envOf, Nat.reduceAdd]
  repeat' (first
    | ((first
      | with_reducible refine AWP.regionL tyOk fun K hK => ?_
      | ((with_reducible first | refine GOn.isT ?_ ?_ | refine HOn.isT ?_ ?_ | refine pickK.isT ?_ ?_); focus (first | with_reducible rfl | with_reducible assumption | (simp only [NM, LN]; first | done | with_reducible assumption | omega)))
      | ((with_reducible first | refine GOn.isF ?_ ?_ | refine HOn.isF ?_ ?_ | refine pickK.isF ?_ ?_); focus (first | with_reducible rfl | with_reducible assumption | (simp only [NM, LN]; first | done | with_reducible assumption | omega)))
      | with_reducible refine AWP.drawAll tyOk mixed 6 (by kernel_rfl) fun K hK => ?_
      | ((with_reducible refine CallJ.is ?_); (first | refine CallJ.pure (vs) ?_ | ((apply CallJ.lentI); (focus (simp -dsimp (disch := (first | omega | (simp only [LN]; omega))) only [go_sem, ↓reduceIte, seval, h1, h2, zV]; rfl)); (focus (first | exact (vs))))))
      | ((with_reducible refine CallH.is ?_); (first | refine CallH.intro (vs) ?_))) <;> simp -dsimp (disch := (first | omega | (simp only [LN]; omega))) only [go_sem, ↓reduceIte, seval, h1, h2, zV])
    | ((with_reducible refine hK _ ?_); clear hK K)
    | (with_reducible first | refine AWP.seq ?_ | refine thenQ_normal ?_ | refine AWP.block ?_ | refine AWP.skip ?_ | refine AWP.ret ?_ | refine thenQ_ret ?_ | refine blockQ_ret ?_ | refine AWP.exit ?_ | refine thenQ_exit ?_ | refine blockQ_normal ?_ | refine blockQ_exit ?_)
    | refine blockQ_exit_ne rfl ?_
    | (with_reducible refine And.intro (by (first | with_reducible rfl | with_reducible assumption | omega | (simp only [LN]; first | done | with_reducible rfl | omega) | (simp only [NM, LN]; first | done | with_reducible assumption | omega) | (and_intros <;> first | with_reducible assumption | omega | (simp only [LN]; omega)) | fail)) ?_)
    | ((with_reducible refine AWP.condG (T := TT) (b := ?_) ?_ ?_); rotate_left; exact rfl)
    | (with_reducible first | refine CondG.t ?_ | refine CondG.f ?_ | refine CondG.not ?_)
    | ((with_reducible refine CondG.isT ?_ ?_); focus (first | with_reducible rfl | with_reducible assumption | (simp only [NM, LN]; first | done | with_reducible assumption | omega)))
    | ((with_reducible refine CondG.isF ?_ ?_); focus (first | with_reducible rfl | with_reducible assumption | (simp only [NM, LN]; first | done | with_reducible assumption | omega))))
  all_goals simp -dsimp (disch := (first | omega | (simp only [LN]; omega))) only [retQ, Tryd.results26, resVals, cellRV, resOf, St.rest, St.freeze, RT, go_sem, ↓reduceIte, seval]
  all_goals rfl
set_option maxHeartbeats 4000000 in
theorem convert_same (v : Val) (h : valE v = 0) (h1 : 1 ≤ v.kind) (h2 : v.kind ≤ 3) : Sat Tryd.prog 26 [.agg (eVal v), oI v.kind] (.tup [.agg (eVal v), oB true]) := by
  have e0 : (v.kind == 0) = false := by simp; omega
  have e1 : decide (v.kind < 1) = false := by simp; omega
  have e2 : decide (3 < v.kind) = false := by simp; omega
  refine sat_of_body tyOk Tryd.func26 rfl (by kernel_rfl) ⟨Nat.le_of_ble_eq_true rfl, Nat.le_of_ble_eq_true rfl⟩ fun w0 m0 F0 => ?_
  simp only [Tryd.ntmps26, envOf, Nat.reduceAdd]
  repeat' (first
    | ((first
      | with_reducible refine AWP.regionL tyOk fun K hK => ?_
      | ((with_reducible first | refine GOn.isT ?_ ?_ | refine HOn.isT ?_ ?_ | refine pickK.isT ?_ ?_); focus (first | with_reducible rfl | with_reducible assumption | (simp only [NM, LN]; first | done | with_reducible assumption | omega)))
      | ((with_reducible first | refine GOn.isF ?_ ?_ | refine HOn.isF ?_ ?_ | refine pickK.isF ?_ ?_); focus (first | with_reducible rfl | with_reducible assumption | (simp only [NM, LN]; first | done | with_reducible assumption | omega)))
      | with_reducible refine AWP.drawAll tyOk mixed 6 (by kernel_rfl) fun K hK => ?_
      | ((with_reducible refine CallJ.is ?_); (first | refine CallJ.pure (validate_sat v) ?_ | ((apply CallJ.lentI); (focus (simp -dsimp (disch := (first | omega | (simp only [LN]; omega))) only [go_sem, ↓reduceIte, seval, h, e0, e1, e2, beq_self_eq_true]; rfl)); (focus (first | exact (validate_sat v))))))
      | ((with_reducible refine CallH.is ?_); (first | refine CallH.intro (validate_sat v) ?_))) <;> simp -dsimp (disch := (first | omega | (simp only [LN]; omega))) only [go_sem, ↓reduceIte, seval, h, e0, e1, e2, beq_self_eq_true])
    | ((with_reducible refine hK _ ?_); clear hK K)
    | (with_reducible first | refine AWP.seq ?_ | refine thenQ_normal ?_ | refine AWP.block ?_ | refine AWP.skip ?_ | refine AWP.ret ?_ | refine thenQ_ret ?_ | refine blockQ_ret ?_ | refine AWP.exit ?_ | refine thenQ_exit ?_ | refine blockQ_normal ?_ | refine blockQ_exit ?_)
    | refine blockQ_exit_ne rfl ?_
    | (with_reducible refine And.intro (by (first | with_reducible rfl | with_reducible assumption | omega | (simp only [LN]; first | done | with_reducible rfl | omega) | (simp only [NM, LN]; first | done | with_reducible assumption | omega) | (and_intros <;> first | with_reducible assumption | omega | (simp only [LN]; omega)) | fail)) ?_)
    | ((with_reducible refine AWP.condG (T := TT) (b := ?_) ?_ ?_); rotate_left; exact rfl)
    | (with_reducible first | refine CondG.t ?_ | refine CondG.f ?_ | refine CondG.not ?_)
    | ((with_reducible refine CondG.isT ?_ ?_); focus (first | with_reducible rfl | with_reducible assumption | (simp only [NM, LN]; first | done | with_reducible assumption | omega)))
    | ((with_reducible refine CondG.isF ?_ ?_); focus (first | with_reducible rfl | with_reducible assumption | (simp only [NM, LN]; first | done | with_reducible assumption | omega))))
  all_goals simp -dsimp (disch := (first | omega | (simp only [LN]; omega))) only [retQ, Tryd.results26, resVals, cellRV, resOf, St.rest, St.freeze, RT, go_sem, ↓reduceIte, seval]
set_option maxHeartbeats 4000000 in
theorem convert_it (n : Int) (h0 : -1000000000000 ≤ n) (h1 : n ≤ 1000000000000) : Sat Tryd.prog 26 [.agg (eVal ⟨1, n, ByteArray.empty⟩), oI 3] (.tup [.agg (eVal ⟨3, 0, itoaB n⟩), oB true]) := by
  have vs := validate_sat ⟨1, n, ByteArray.empty⟩
  rw [valE_int h0 h1] at vs
  refine sat_of_body tyOk Tryd.func26 rfl (by kernel_rfl) ⟨Nat.le_of_ble_eq_true rfl, Nat.le_of_ble_eq_true rfl⟩ fun w0 m0 F0 => ?_
  simp only [Tryd.ntmps26, envOf, Nat.reduceAdd]
  repeat' (first
    | ((first
      | with_reducible refine AWP.regionL tyOk fun K hK => ?_
      | ((with_reducible first | refine GOn.isT ?_ ?_ | refine HOn.isT ?_ ?_ | refine pickK.isT ?_ ?_); focus (first | with_reducible rfl | with_reducible assumption | (simp only [NM, LN]; first | done | with_reducible assumption | omega)))
      | ((with_reducible first | refine GOn.isF ?_ ?_ | refine HOn.isF ?_ ?_ | refine pickK.isF ?_ ?_); focus (first | with_reducible rfl | with_reducible assumption | (simp only [NM, LN]; first | done | with_reducible assumption | omega)))
      | with_reducible refine AWP.drawAll tyOk mixed 6 (by kernel_rfl) fun K hK => ?_
      | ((with_reducible refine CallJ.is ?_); (first | refine CallJ.pure (vs) ?_ | refine CallJ.pure (itoa_sat n (by omega) (by omega)) ?_ | ((apply CallJ.lentI); (focus (simp -dsimp (disch := (first | omega | (simp only [LN]; omega))) only [go_sem, ↓reduceIte, seval]; rfl)); (focus (first | exact (vs) | exact (itoa_sat n (by omega) (by omega)))))))
      | ((with_reducible refine CallH.is ?_); (first | refine CallH.intro (vs) ?_ | refine CallH.intro (itoa_sat n (by omega) (by omega)) ?_))) <;> simp -dsimp (disch := (first | omega | (simp only [LN]; omega))) only [go_sem, ↓reduceIte, seval])
    | ((with_reducible refine hK _ ?_); clear hK K)
    | (with_reducible first | refine AWP.seq ?_ | refine thenQ_normal ?_ | refine AWP.block ?_ | refine AWP.skip ?_ | refine AWP.ret ?_ | refine thenQ_ret ?_ | refine blockQ_ret ?_ | refine AWP.exit ?_ | refine thenQ_exit ?_ | refine blockQ_normal ?_ | refine blockQ_exit ?_)
    | refine blockQ_exit_ne rfl ?_
    | (with_reducible refine And.intro (by (first | with_reducible rfl | with_reducible assumption | omega | (simp only [LN]; first | done | with_reducible rfl | omega) | (simp only [NM, LN]; first | done | with_reducible assumption | omega) | (and_intros <;> first | with_reducible assumption | omega | (simp only [LN]; omega)) | fail)) ?_)
    | ((with_reducible refine AWP.condG (T := TT) (b := ?_) ?_ ?_); rotate_left; exact rfl)
    | (with_reducible first | refine CondG.t ?_ | refine CondG.f ?_ | refine CondG.not ?_)
    | ((with_reducible refine CondG.isT ?_ ?_); focus (first | with_reducible rfl | with_reducible assumption | (simp only [NM, LN]; first | done | with_reducible assumption | omega)))
    | ((with_reducible refine CondG.isF ?_ ?_); focus (first | with_reducible rfl | with_reducible assumption | (simp only [NM, LN]; first | done | with_reducible assumption | omega))))
  all_goals simp -dsimp (disch := (first | omega | (simp only [LN]; omega))) only [retQ, Tryd.results26, resVals, cellRV, resOf, St.rest, St.freeze, RT, go_sem, ↓reduceIte, seval]
set_option maxHeartbeats 4000000 in
theorem convert_bt (n : Int) (h : n = 0 ∨ n = 1) : Sat Tryd.prog 26 [.agg (eVal ⟨2, n, ByteArray.empty⟩), oI 3] (.tup [.agg (eVal ⟨3, 0, boolB (n == 1)⟩), oB true]) := by
  have vs := validate_sat ⟨2, n, ByteArray.empty⟩
  rw [valE_bool h] at vs
  refine sat_of_body tyOk Tryd.func26 rfl (by kernel_rfl) ⟨Nat.le_of_ble_eq_true rfl, Nat.le_of_ble_eq_true rfl⟩ fun w0 m0 F0 => ?_
  simp only [Tryd.ntmps26, envOf, Nat.reduceAdd]
  repeat' (first
    | ((first
      | with_reducible refine AWP.regionL tyOk fun K hK => ?_
      | ((with_reducible first | refine GOn.isT ?_ ?_ | refine HOn.isT ?_ ?_ | refine pickK.isT ?_ ?_); focus (first | with_reducible rfl | with_reducible assumption | (simp only [NM, LN]; first | done | with_reducible assumption | omega)))
      | ((with_reducible first | refine GOn.isF ?_ ?_ | refine HOn.isF ?_ ?_ | refine pickK.isF ?_ ?_); focus (first | with_reducible rfl | with_reducible assumption | (simp only [NM, LN]; first | done | with_reducible assumption | omega)))
      | with_reducible refine AWP.drawAll tyOk mixed 6 (by kernel_rfl) fun K hK => ?_
      | ((with_reducible refine CallJ.is ?_); (first | refine CallJ.pure (vs) ?_ | refine CallJ.pure (formatBool_sat (n == 1)) ?_ | ((apply CallJ.lentI); (focus (simp -dsimp (disch := (first | omega | (simp only [LN]; omega))) only [go_sem, ↓reduceIte, seval]; rfl)); (focus (first | exact (vs) | exact (formatBool_sat (n == 1)))))))
      | ((with_reducible refine CallH.is ?_); (first | refine CallH.intro (vs) ?_ | refine CallH.intro (formatBool_sat (n == 1)) ?_))) <;> simp -dsimp (disch := (first | omega | (simp only [LN]; omega))) only [go_sem, ↓reduceIte, seval])
    | ((with_reducible refine hK _ ?_); clear hK K)
    | (with_reducible first | refine AWP.seq ?_ | refine thenQ_normal ?_ | refine AWP.block ?_ | refine AWP.skip ?_ | refine AWP.ret ?_ | refine thenQ_ret ?_ | refine blockQ_ret ?_ | refine AWP.exit ?_ | refine thenQ_exit ?_ | refine blockQ_normal ?_ | refine blockQ_exit ?_)
    | refine blockQ_exit_ne rfl ?_
    | (with_reducible refine And.intro (by (first | with_reducible rfl | with_reducible assumption | omega | (simp only [LN]; first | done | with_reducible rfl | omega) | (simp only [NM, LN]; first | done | with_reducible assumption | omega) | (and_intros <;> first | with_reducible assumption | omega | (simp only [LN]; omega)) | fail)) ?_)
    | ((with_reducible refine AWP.condG (T := TT) (b := ?_) ?_ ?_); rotate_left; exact rfl)
    | (with_reducible first | refine CondG.t ?_ | refine CondG.f ?_ | refine CondG.not ?_)
    | ((with_reducible refine CondG.isT ?_ ?_); focus (first | with_reducible rfl | with_reducible assumption | (simp only [NM, LN]; first | done | with_reducible assumption | omega)))
    | ((with_reducible refine CondG.isF ?_ ?_); focus (first | with_reducible rfl | with_reducible assumption | (simp only [NM, LN]; first | done | with_reducible assumption | omega))))
  all_goals simp -dsimp (disch := (first | omega | (simp only [LN]; omega))) only [retQ, Tryd.results26, resVals, cellRV, resOf, St.rest, St.freeze, RT, go_sem, ↓reduceIte, seval]
set_option maxHeartbeats 4000000 in
theorem convert_tb (t : ByteArray) (h : t.size ≤ 24) : Sat Tryd.prog 26 [.agg (eVal ⟨3, 0, t⟩), oI 2] (.tup [.agg (eVal (pBool t).1), oB (pBool t).2]) := by
  have vs := validate_sat ⟨3, 0, t⟩
  rw [valE_text h] at vs
  refine sat_of_body tyOk Tryd.func26 rfl (by kernel_rfl) ⟨Nat.le_of_ble_eq_true rfl, Nat.le_of_ble_eq_true rfl⟩ fun w0 m0 F0 => ?_
  simp only [Tryd.ntmps26, envOf, Nat.reduceAdd]
  repeat' (first
    | ((first
      | with_reducible refine AWP.regionL tyOk fun K hK => ?_
      | ((with_reducible first | refine GOn.isT ?_ ?_ | refine HOn.isT ?_ ?_ | refine pickK.isT ?_ ?_); focus (first | with_reducible rfl | with_reducible assumption | (simp only [NM, LN]; first | done | with_reducible assumption | omega)))
      | ((with_reducible first | refine GOn.isF ?_ ?_ | refine HOn.isF ?_ ?_ | refine pickK.isF ?_ ?_); focus (first | with_reducible rfl | with_reducible assumption | (simp only [NM, LN]; first | done | with_reducible assumption | omega)))
      | with_reducible refine AWP.drawAll tyOk mixed 6 (by kernel_rfl) fun K hK => ?_
      | ((with_reducible refine CallJ.is ?_); (first | refine CallJ.pure (vs) ?_ | refine CallJ.pure (parseBool_sat t) ?_ | ((apply CallJ.lentI); (focus (simp -dsimp (disch := (first | omega | (simp only [LN]; omega))) only [go_sem, ↓reduceIte, seval]; rfl)); (focus (first | exact (vs) | exact (parseBool_sat t))))))
      | ((with_reducible refine CallH.is ?_); (first | refine CallH.intro (vs) ?_ | refine CallH.intro (parseBool_sat t) ?_))) <;> simp -dsimp (disch := (first | omega | (simp only [LN]; omega))) only [go_sem, ↓reduceIte, seval])
    | ((with_reducible refine hK _ ?_); clear hK K)
    | (with_reducible first | refine AWP.seq ?_ | refine thenQ_normal ?_ | refine AWP.block ?_ | refine AWP.skip ?_ | refine AWP.ret ?_ | refine thenQ_ret ?_ | refine blockQ_ret ?_ | refine AWP.exit ?_ | refine thenQ_exit ?_ | refine blockQ_normal ?_ | refine blockQ_exit ?_)
    | refine blockQ_exit_ne rfl ?_
    | (with_reducible refine And.intro (by (first | with_reducible rfl | with_reducible assumption | omega | (simp only [LN]; first | done | with_reducible rfl | omega) | (simp only [NM, LN]; first | done | with_reducible assumption | omega) | (and_intros <;> first | with_reducible assumption | omega | (simp only [LN]; omega)) | fail)) ?_)
    | ((with_reducible refine AWP.condG (T := TT) (b := ?_) ?_ ?_); rotate_left; exact rfl)
    | (with_reducible first | refine CondG.t ?_ | refine CondG.f ?_ | refine CondG.not ?_)
    | ((with_reducible refine CondG.isT ?_ ?_); focus (first | with_reducible rfl | with_reducible assumption | (simp only [NM, LN]; first | done | with_reducible assumption | omega)))
    | ((with_reducible refine CondG.isF ?_ ?_); focus (first | with_reducible rfl | with_reducible assumption | (simp only [NM, LN]; first | done | with_reducible assumption | omega))))
  all_goals simp -dsimp (disch := (first | omega | (simp only [LN]; omega))) only [retQ, Tryd.results26, resVals, cellRV, resOf, St.rest, St.freeze, RT, go_sem, ↓reduceIte, seval]
set_option maxHeartbeats 4000000 in
theorem convert_ti (t : ByteArray) (h : t.size ≤ 24) : Sat Tryd.prog 26 [.agg (eVal ⟨3, 0, t⟩), oI 1] (.tup [.agg (eVal (pInt t).1), oB (pInt t).2]) := by
  have vs := validate_sat ⟨3, 0, t⟩
  rw [valE_text h] at vs
  refine sat_of_body tyOk Tryd.func26 rfl (by kernel_rfl) ⟨Nat.le_of_ble_eq_true rfl, Nat.le_of_ble_eq_true rfl⟩ fun w0 m0 F0 => ?_
  simp only [Tryd.ntmps26, envOf, Nat.reduceAdd]
  repeat' (first
    | ((first
      | with_reducible refine AWP.regionL tyOk fun K hK => ?_
      | ((with_reducible first | refine GOn.isT ?_ ?_ | refine HOn.isT ?_ ?_ | refine pickK.isT ?_ ?_); focus (first | with_reducible rfl | with_reducible assumption | (simp only [NM, LN]; first | done | with_reducible assumption | omega)))
      | ((with_reducible first | refine GOn.isF ?_ ?_ | refine HOn.isF ?_ ?_ | refine pickK.isF ?_ ?_); focus (first | with_reducible rfl | with_reducible assumption | (simp only [NM, LN]; first | done | with_reducible assumption | omega)))
      | with_reducible refine AWP.drawAll tyOk mixed 6 (by kernel_rfl) fun K hK => ?_
      | ((with_reducible refine CallJ.is ?_); (first | refine CallJ.pure (vs) ?_ | refine CallJ.pure (parseInt_sat t h) ?_ | ((apply CallJ.lentI); (focus (simp -dsimp (disch := (first | omega | (simp only [LN]; omega))) only [go_sem, ↓reduceIte, seval]; rfl)); (focus (first | exact (vs) | exact (parseInt_sat t h))))))
      | ((with_reducible refine CallH.is ?_); (first | refine CallH.intro (vs) ?_ | refine CallH.intro (parseInt_sat t h) ?_))) <;> simp -dsimp (disch := (first | omega | (simp only [LN]; omega))) only [go_sem, ↓reduceIte, seval])
    | ((with_reducible refine hK _ ?_); clear hK K)
    | (with_reducible first | refine AWP.seq ?_ | refine thenQ_normal ?_ | refine AWP.block ?_ | refine AWP.skip ?_ | refine AWP.ret ?_ | refine thenQ_ret ?_ | refine blockQ_ret ?_ | refine AWP.exit ?_ | refine thenQ_exit ?_ | refine blockQ_normal ?_ | refine blockQ_exit ?_)
    | refine blockQ_exit_ne rfl ?_
    | (with_reducible refine And.intro (by (first | with_reducible rfl | with_reducible assumption | omega | (simp only [LN]; first | done | with_reducible rfl | omega) | (simp only [NM, LN]; first | done | with_reducible assumption | omega) | (and_intros <;> first | with_reducible assumption | omega | (simp only [LN]; omega)) | fail)) ?_)
    | ((with_reducible refine AWP.condG (T := TT) (b := ?_) ?_ ?_); rotate_left; exact rfl)
    | (with_reducible first | refine CondG.t ?_ | refine CondG.f ?_ | refine CondG.not ?_)
    | ((with_reducible refine CondG.isT ?_ ?_); focus (first | with_reducible rfl | with_reducible assumption | (simp only [NM, LN]; first | done | with_reducible assumption | omega)))
    | ((with_reducible refine CondG.isF ?_ ?_); focus (first | with_reducible rfl | with_reducible assumption | (simp only [NM, LN]; first | done | with_reducible assumption | omega))))
  all_goals simp -dsimp (disch := (first | omega | (simp only [LN]; omega))) only [retQ, Tryd.results26, resVals, cellRV, resOf, St.rest, St.freeze, RT, go_sem, ↓reduceIte, seval]
set_option maxHeartbeats 4000000 in
theorem convert_ib (n : Int) (h : n = 0 ∨ n = 1) : Sat Tryd.prog 26 [.agg (eVal ⟨1, n, ByteArray.empty⟩), oI 2] (.tup [.agg (eVal ⟨2, n, ByteArray.empty⟩), oB true]) := by
  have vs := validate_sat ⟨1, n, ByteArray.empty⟩
  rw [valE_int (by omega) (by omega)] at vs
  rcases h with rfl | rfl
  · refine sat_of_body tyOk Tryd.func26 rfl (by kernel_rfl) ⟨Nat.le_of_ble_eq_true rfl, Nat.le_of_ble_eq_true rfl⟩ fun w0 m0 F0 => ?_
    simp only [Tryd.ntmps26, envOf, Nat.reduceAdd]
    repeat' (first
      | ((first
        | with_reducible refine AWP.regionL tyOk fun K hK => ?_
        | ((with_reducible first | refine GOn.isT ?_ ?_ | refine HOn.isT ?_ ?_ | refine pickK.isT ?_ ?_); focus (first | with_reducible rfl | with_reducible assumption | (simp only [NM, LN]; first | done | with_reducible assumption | omega)))
        | ((with_reducible first | refine GOn.isF ?_ ?_ | refine HOn.isF ?_ ?_ | refine pickK.isF ?_ ?_); focus (first | with_reducible rfl | with_reducible assumption | (simp only [NM, LN]; first | done | with_reducible assumption | omega)))
        | with_reducible refine AWP.drawAll tyOk mixed 6 (by kernel_rfl) fun K hK => ?_
        | ((with_reducible refine CallJ.is ?_); (first | refine CallJ.pure (vs) ?_ | ((apply CallJ.lentI); (focus (simp -dsimp (disch := (first | omega | (simp only [LN]; omega))) only [go_sem, ↓reduceIte, seval]; rfl)); (focus (first | exact (vs))))))
        | ((with_reducible refine CallH.is ?_); (first | refine CallH.intro (vs) ?_))) <;> simp -dsimp (disch := (first | omega | (simp only [LN]; omega))) only [go_sem, ↓reduceIte, seval])
      | ((with_reducible refine hK _ ?_); clear hK K)
      | (with_reducible first | refine AWP.seq ?_ | refine thenQ_normal ?_ | refine AWP.block ?_ | refine AWP.skip ?_ | refine AWP.ret ?_ | refine thenQ_ret ?_ | refine blockQ_ret ?_ | refine AWP.exit ?_ | refine thenQ_exit ?_ | refine blockQ_normal ?_ | refine blockQ_exit ?_)
      | refine blockQ_exit_ne rfl ?_
      | (with_reducible refine And.intro (by (first | with_reducible rfl | with_reducible assumption | omega | (simp only [LN]; first | done | with_reducible rfl | omega) | (simp only [NM, LN]; first | done | with_reducible assumption | omega) | (and_intros <;> first | with_reducible assumption | omega | (simp only [LN]; omega)) | fail)) ?_)
      | ((with_reducible refine AWP.condG (T := TT) (b := ?_) ?_ ?_); rotate_left; exact rfl)
      | (with_reducible first | refine CondG.t ?_ | refine CondG.f ?_ | refine CondG.not ?_)
      | ((with_reducible refine CondG.isT ?_ ?_); focus (first | with_reducible rfl | with_reducible assumption | (simp only [NM, LN]; first | done | with_reducible assumption | omega)))
      | ((with_reducible refine CondG.isF ?_ ?_); focus (first | with_reducible rfl | with_reducible assumption | (simp only [NM, LN]; first | done | with_reducible assumption | omega))))
    all_goals simp -dsimp (disch := (first | omega | (simp only [LN]; omega))) only [retQ, Tryd.results26, resVals, cellRV, resOf, St.rest, St.freeze, RT, go_sem, ↓reduceIte, seval]
  · refine sat_of_body tyOk Tryd.func26 rfl (by kernel_rfl) ⟨Nat.le_of_ble_eq_true rfl, Nat.le_of_ble_eq_true rfl⟩ fun w0 m0 F0 => ?_
    simp only [Tryd.ntmps26, envOf, Nat.reduceAdd]
    repeat' (first
      | ((first
        | with_reducible refine AWP.regionL tyOk fun K hK => ?_
        | ((with_reducible first | refine GOn.isT ?_ ?_ | refine HOn.isT ?_ ?_ | refine pickK.isT ?_ ?_); focus (first | with_reducible rfl | with_reducible assumption | (simp only [NM, LN]; first | done | with_reducible assumption | omega)))
        | ((with_reducible first | refine GOn.isF ?_ ?_ | refine HOn.isF ?_ ?_ | refine pickK.isF ?_ ?_); focus (first | with_reducible rfl | with_reducible assumption | (simp only [NM, LN]; first | done | with_reducible assumption | omega)))
        | with_reducible refine AWP.drawAll tyOk mixed 6 (by kernel_rfl) fun K hK => ?_
        | ((with_reducible refine CallJ.is ?_); (first | refine CallJ.pure (vs) ?_ | ((apply CallJ.lentI); (focus (simp -dsimp (disch := (first | omega | (simp only [LN]; omega))) only [go_sem, ↓reduceIte, seval]; rfl)); (focus (first | exact (vs))))))
        | ((with_reducible refine CallH.is ?_); (first | refine CallH.intro (vs) ?_))) <;> simp -dsimp (disch := (first | omega | (simp only [LN]; omega))) only [go_sem, ↓reduceIte, seval])
      | ((with_reducible refine hK _ ?_); clear hK K)
      | (with_reducible first | refine AWP.seq ?_ | refine thenQ_normal ?_ | refine AWP.block ?_ | refine AWP.skip ?_ | refine AWP.ret ?_ | refine thenQ_ret ?_ | refine blockQ_ret ?_ | refine AWP.exit ?_ | refine thenQ_exit ?_ | refine blockQ_normal ?_ | refine blockQ_exit ?_)
      | refine blockQ_exit_ne rfl ?_
      | (with_reducible refine And.intro (by (first | with_reducible rfl | with_reducible assumption | omega | (simp only [LN]; first | done | with_reducible rfl | omega) | (simp only [NM, LN]; first | done | with_reducible assumption | omega) | (and_intros <;> first | with_reducible assumption | omega | (simp only [LN]; omega)) | fail)) ?_)
      | ((with_reducible refine AWP.condG (T := TT) (b := ?_) ?_ ?_); rotate_left; exact rfl)
      | (with_reducible first | refine CondG.t ?_ | refine CondG.f ?_ | refine CondG.not ?_)
      | ((with_reducible refine CondG.isT ?_ ?_); focus (first | with_reducible rfl | with_reducible assumption | (simp only [NM, LN]; first | done | with_reducible assumption | omega)))
      | ((with_reducible refine CondG.isF ?_ ?_); focus (first | with_reducible rfl | with_reducible assumption | (simp only [NM, LN]; first | done | with_reducible assumption | omega))))
    all_goals simp -dsimp (disch := (first | omega | (simp only [LN]; omega))) only [retQ, Tryd.results26, resVals, cellRV, resOf, St.rest, St.freeze, RT, go_sem, ↓reduceIte, seval]
set_option maxHeartbeats 4000000 in
theorem convert_ibx (n : Int) (h0 : -1000000000000 ≤ n) (h1 : n ≤ 1000000000000) (g0 : n ≠ 0) (g1 : n ≠ 1) : Sat Tryd.prog 26 [.agg (eVal ⟨1, n, ByteArray.empty⟩), oI 2] (.tup [.agg (eVal zV), oB false]) := by
  have vs := validate_sat ⟨1, n, ByteArray.empty⟩
  rw [valE_int h0 h1] at vs
  have e0 : (n == 0) = false := by simpa using g0
  have e1 : (n == 1) = false := by simpa using g1
  refine sat_of_body tyOk Tryd.func26 rfl (by kernel_rfl) ⟨Nat.le_of_ble_eq_true rfl, Nat.le_of_ble_eq_true rfl⟩ fun w0 m0 F0 => ?_
  simp only [Tryd.ntmps26, envOf, Nat.reduceAdd]
  repeat' (first
    | ((first
      | with_reducible refine AWP.regionL tyOk fun K hK => ?_
      | ((with_reducible first | refine GOn.isT ?_ ?_ | refine HOn.isT ?_ ?_ | refine pickK.isT ?_ ?_); focus (first | with_reducible rfl | with_reducible assumption | (simp only [NM, LN]; first | done | with_reducible assumption | omega)))
      | ((with_reducible first | refine GOn.isF ?_ ?_ | refine HOn.isF ?_ ?_ | refine pickK.isF ?_ ?_); focus (first | with_reducible rfl | with_reducible assumption | (simp only [NM, LN]; first | done | with_reducible assumption | omega)))
      | with_reducible refine AWP.drawAll tyOk mixed 6 (by kernel_rfl) fun K hK => ?_
      | ((with_reducible refine CallJ.is ?_); (first | refine CallJ.pure (vs) ?_ | ((apply CallJ.lentI); (focus (simp -dsimp (disch := (first | omega | (simp only [LN]; omega))) only [go_sem, ↓reduceIte, seval, e0, e1]; rfl)); (focus (first | exact (vs))))))
      | ((with_reducible refine CallH.is ?_); (first | refine CallH.intro (vs) ?_))) <;> simp -dsimp (disch := (first | omega | (simp only [LN]; omega))) only [go_sem, ↓reduceIte, seval, e0, e1])
    | ((with_reducible refine hK _ ?_); clear hK K)
    | (with_reducible first | refine AWP.seq ?_ | refine thenQ_normal ?_ | refine AWP.block ?_ | refine AWP.skip ?_ | refine AWP.ret ?_ | refine thenQ_ret ?_ | refine blockQ_ret ?_ | refine AWP.exit ?_ | refine thenQ_exit ?_ | refine blockQ_normal ?_ | refine blockQ_exit ?_)
    | refine blockQ_exit_ne rfl ?_
    | (with_reducible refine And.intro (by (first | with_reducible rfl | with_reducible assumption | omega | (simp only [LN]; first | done | with_reducible rfl | omega) | (simp only [NM, LN]; first | done | with_reducible assumption | omega) | (and_intros <;> first | with_reducible assumption | omega | (simp only [LN]; omega)) | fail)) ?_)
    | ((with_reducible refine AWP.condG (T := TT) (b := ?_) ?_ ?_); rotate_left; exact rfl)
    | (with_reducible first | refine CondG.t ?_ | refine CondG.f ?_ | refine CondG.not ?_)
    | ((with_reducible refine CondG.isT ?_ ?_); focus (first | with_reducible rfl | with_reducible assumption | (simp only [NM, LN]; first | done | with_reducible assumption | omega)))
    | ((with_reducible refine CondG.isF ?_ ?_); focus (first | with_reducible rfl | with_reducible assumption | (simp only [NM, LN]; first | done | with_reducible assumption | omega))))
  all_goals simp -dsimp (disch := (first | omega | (simp only [LN]; omega))) only [retQ, Tryd.results26, resVals, cellRV, resOf, St.rest, St.freeze, RT, go_sem, ↓reduceIte, seval]
  all_goals rfl
set_option maxHeartbeats 4000000 in
theorem convert_bi (n : Int) (h : n = 0 ∨ n = 1) : Sat Tryd.prog 26 [.agg (eVal ⟨2, n, ByteArray.empty⟩), oI 1] (.tup [.agg (eVal ⟨1, n, ByteArray.empty⟩), oB true]) := by
  have vs := validate_sat ⟨2, n, ByteArray.empty⟩
  rw [valE_bool h] at vs
  rcases h with rfl | rfl
  · refine sat_of_body tyOk Tryd.func26 rfl (by kernel_rfl) ⟨Nat.le_of_ble_eq_true rfl, Nat.le_of_ble_eq_true rfl⟩ fun w0 m0 F0 => ?_
    simp only [Tryd.ntmps26, envOf, Nat.reduceAdd]
    repeat' (first
      | ((first
        | with_reducible refine AWP.regionL tyOk fun K hK => ?_
        | ((with_reducible first | refine GOn.isT ?_ ?_ | refine HOn.isT ?_ ?_ | refine pickK.isT ?_ ?_); focus (first | with_reducible rfl | with_reducible assumption | (simp only [NM, LN]; first | done | with_reducible assumption | omega)))
        | ((with_reducible first | refine GOn.isF ?_ ?_ | refine HOn.isF ?_ ?_ | refine pickK.isF ?_ ?_); focus (first | with_reducible rfl | with_reducible assumption | (simp only [NM, LN]; first | done | with_reducible assumption | omega)))
        | with_reducible refine AWP.drawAll tyOk mixed 6 (by kernel_rfl) fun K hK => ?_
        | ((with_reducible refine CallJ.is ?_); (first | refine CallJ.pure (vs) ?_ | ((apply CallJ.lentI); (focus (simp -dsimp (disch := (first | omega | (simp only [LN]; omega))) only [go_sem, ↓reduceIte, seval]; rfl)); (focus (first | exact (vs))))))
        | ((with_reducible refine CallH.is ?_); (first | refine CallH.intro (vs) ?_))) <;> simp -dsimp (disch := (first | omega | (simp only [LN]; omega))) only [go_sem, ↓reduceIte, seval])
      | ((with_reducible refine hK _ ?_); clear hK K)
      | (with_reducible first | refine AWP.seq ?_ | refine thenQ_normal ?_ | refine AWP.block ?_ | refine AWP.skip ?_ | refine AWP.ret ?_ | refine thenQ_ret ?_ | refine blockQ_ret ?_ | refine AWP.exit ?_ | refine thenQ_exit ?_ | refine blockQ_normal ?_ | refine blockQ_exit ?_)
      | refine blockQ_exit_ne rfl ?_
      | (with_reducible refine And.intro (by (first | with_reducible rfl | with_reducible assumption | omega | (simp only [LN]; first | done | with_reducible rfl | omega) | (simp only [NM, LN]; first | done | with_reducible assumption | omega) | (and_intros <;> first | with_reducible assumption | omega | (simp only [LN]; omega)) | fail)) ?_)
      | ((with_reducible refine AWP.condG (T := TT) (b := ?_) ?_ ?_); rotate_left; exact rfl)
      | (with_reducible first | refine CondG.t ?_ | refine CondG.f ?_ | refine CondG.not ?_)
      | ((with_reducible refine CondG.isT ?_ ?_); focus (first | with_reducible rfl | with_reducible assumption | (simp only [NM, LN]; first | done | with_reducible assumption | omega)))
      | ((with_reducible refine CondG.isF ?_ ?_); focus (first | with_reducible rfl | with_reducible assumption | (simp only [NM, LN]; first | done | with_reducible assumption | omega))))
    all_goals simp -dsimp (disch := (first | omega | (simp only [LN]; omega))) only [retQ, Tryd.results26, resVals, cellRV, resOf, St.rest, St.freeze, RT, go_sem, ↓reduceIte, seval]
  · refine sat_of_body tyOk Tryd.func26 rfl (by kernel_rfl) ⟨Nat.le_of_ble_eq_true rfl, Nat.le_of_ble_eq_true rfl⟩ fun w0 m0 F0 => ?_
    simp only [Tryd.ntmps26, envOf, Nat.reduceAdd]
    repeat' (first
      | ((first
        | with_reducible refine AWP.regionL tyOk fun K hK => ?_
        | ((with_reducible first | refine GOn.isT ?_ ?_ | refine HOn.isT ?_ ?_ | refine pickK.isT ?_ ?_); focus (first | with_reducible rfl | with_reducible assumption | (simp only [NM, LN]; first | done | with_reducible assumption | omega)))
        | ((with_reducible first | refine GOn.isF ?_ ?_ | refine HOn.isF ?_ ?_ | refine pickK.isF ?_ ?_); focus (first | with_reducible rfl | with_reducible assumption | (simp only [NM, LN]; first | done | with_reducible assumption | omega)))
        | with_reducible refine AWP.drawAll tyOk mixed 6 (by kernel_rfl) fun K hK => ?_
        | ((with_reducible refine CallJ.is ?_); (first | refine CallJ.pure (vs) ?_ | ((apply CallJ.lentI); (focus (simp -dsimp (disch := (first | omega | (simp only [LN]; omega))) only [go_sem, ↓reduceIte, seval]; rfl)); (focus (first | exact (vs))))))
        | ((with_reducible refine CallH.is ?_); (first | refine CallH.intro (vs) ?_))) <;> simp -dsimp (disch := (first | omega | (simp only [LN]; omega))) only [go_sem, ↓reduceIte, seval])
      | ((with_reducible refine hK _ ?_); clear hK K)
      | (with_reducible first | refine AWP.seq ?_ | refine thenQ_normal ?_ | refine AWP.block ?_ | refine AWP.skip ?_ | refine AWP.ret ?_ | refine thenQ_ret ?_ | refine blockQ_ret ?_ | refine AWP.exit ?_ | refine thenQ_exit ?_ | refine blockQ_normal ?_ | refine blockQ_exit ?_)
      | refine blockQ_exit_ne rfl ?_
      | (with_reducible refine And.intro (by (first | with_reducible rfl | with_reducible assumption | omega | (simp only [LN]; first | done | with_reducible rfl | omega) | (simp only [NM, LN]; first | done | with_reducible assumption | omega) | (and_intros <;> first | with_reducible assumption | omega | (simp only [LN]; omega)) | fail)) ?_)
      | ((with_reducible refine AWP.condG (T := TT) (b := ?_) ?_ ?_); rotate_left; exact rfl)
      | (with_reducible first | refine CondG.t ?_ | refine CondG.f ?_ | refine CondG.not ?_)
      | ((with_reducible refine CondG.isT ?_ ?_); focus (first | with_reducible rfl | with_reducible assumption | (simp only [NM, LN]; first | done | with_reducible assumption | omega)))
      | ((with_reducible refine CondG.isF ?_ ?_); focus (first | with_reducible rfl | with_reducible assumption | (simp only [NM, LN]; first | done | with_reducible assumption | omega))))
    all_goals simp -dsimp (disch := (first | omega | (simp only [LN]; omega))) only [retQ, Tryd.results26, resVals, cellRV, resOf, St.rest, St.freeze, RT, go_sem, ↓reduceIte, seval]
theorem convert_sat (v : Val) (k : Int) : Sat Tryd.prog 26 [.agg (eVal v), oI k] (.tup [.agg (eVal (convV v k).1), oB (convV v k).2]) := by
  by_cases hv : valE v = 0
  · by_cases h1 : k < 1
    · have e : convV v k = (zV, false) := by simp [convV, h1]
      rw [e]
      exact convert_low v k hv h1
    · by_cases h2 : 3 < k
      · have e : convV v k = (zV, false) := by simp [convV, h2]
        rw [e]
        exact convert_high v k hv h2
      · have g : ¬ (valE v ≠ 0 ∨ k < 1 ∨ 3 < k) := by
          rintro (h | h | h)
          · exact h hv
          · exact h1 h
          · exact h2 h
        have e : convV v k = (if v.kind = 0 ∨ v.kind = k then (v, true)
            else if k = 3 then (if v.kind = 1 then (⟨3, 0, itoaB v.int⟩, true) else (⟨3, 0, boolB (v.int == 1)⟩, true))
            else if v.kind = 3 then (if k = 2 then pBool v.text else pInt v.text)
            else if v.int = 0 ∨ v.int = 1 then (⟨k, v.int, ByteArray.empty⟩, true)
            else (zV, false)) := by rw [convV, if_neg g]
        rw [e]
        clear e
        by_cases hs : v.kind = k
        · rw [if_pos (.inr hs)]
          subst hs
          exact convert_same v hv (by omega) (by omega)
        have hk3 : k = 1 ∨ k = 2 ∨ k = 3 := by omega
        rcases valE_cases hv with rfl | ⟨n, g0, g1, rfl⟩ | ⟨n, g0, rfl⟩ | ⟨t, g0, rfl⟩
        · rw [if_pos (.inl rfl)]
          exact convert_null k (by omega) (by omega)
        · rcases hk3 with rfl | rfl | rfl
          · exact absurd rfl hs
          · by_cases hn : n = 0 ∨ n = 1
            · have := convert_ib n hn
              simpa [hn] using this
            · have := convert_ibx n g0 g1 (fun e => hn (.inl e)) (fun e => hn (.inr e))
              simpa [hn] using this
          · simpa using convert_it n g0 g1
        · rcases hk3 with rfl | rfl | rfl
          · have := convert_bi n g0
            simpa [g0] using this
          · exact absurd rfl hs
          · simpa using convert_bt n g0
        · rcases hk3 with rfl | rfl | rfl
          · simpa using convert_ti t g0
          · simpa using convert_tb t g0
          · exact absurd rfl hs
  · have e : convV v k = (zV, false) := by simp [convV, hv]
    rw [e]
    exact convert_bad v k hv
end Go.Bw

namespace Go.Bw
open Go.Proofs
theorem parse_digits : ∀ (u : Nat), u < 9223372036854775808 → ∀ r, Lib.parseUint10 0 (Lib.decDigits u ++ r) = Lib.parseUint10 u r := by
  intro u
  induction u using Nat.strongRecOn with
  | ind u ih =>
    intro hu r
    have dig : ∀ d : Nat, d < 10 → (UInt8.ofNat (48 + d)).toNat = 48 + d := fun d hd => by
      simp only [UInt8.toNat_ofNat']
      omega
    by_cases h : u < 10
    · rw [Lib.decDigits_one h]
      simp only [List.cons_append, List.nil_append, Lib.parseUint10, dig u h]
      rw [if_pos (by omega), if_neg (by omega), if_neg (by omega)]
      congr 1
      omega
    · rw [Lib.decDigits, dif_neg h, List.append_assoc, ih (u / 10) (by omega) (by omega)]
      simp only [List.cons_append, List.nil_append, Lib.parseUint10, dig (u % 10) (by omega)]
      rw [if_pos (by omega), if_neg (by omega), if_neg (by omega)]
      congr 1
      omega
theorem digits_head (u : Nat) : ∃ c r, Lib.decDigits u = c :: r ∧ 48 ≤ c.toNat ∧ c.toNat ≤ 57 := by
  induction u using Nat.strongRecOn with
  | ind u ih =>
    by_cases h : u < 10
    · rw [Lib.decDigits_one h]
      refine ⟨_, _, rfl, ?_, ?_⟩ <;> simp only [UInt8.toNat_ofNat'] <;> omega
    · obtain ⟨c, r, e, h1, h2⟩ := ih (u / 10) (by omega)
      rw [Lib.decDigits, dif_neg h, e]
      exact ⟨c, _, rfl, h1, h2⟩
theorem parseMag_digits {u : Nat} (hu : u < 9223372036854775808) : Lib.parseMag (Lib.decDigits u) = .ok u := by
  obtain ⟨c, r, e, _, _⟩ := digits_head u
  have h := parse_digits u hu []
  rw [List.append_nil] at h
  rw [Lib.parseMag, if_neg (by rw [e]; simp), h, Lib.parseUint10]
theorem atoi_itoa {n : Int} (h0 : -1000000000000 ≤ n) (h1 : n ≤ 1000000000000) : Lib.atoiAll (Lib.itoa n) = .ok n := by
  unfold Lib.itoa
  by_cases hn : n < 0
  · rw [if_pos hn]
    simp only [Lib.atoiAll]
    rw [if_pos (.inr (by decide)), parseMag_digits (by omega)]
    simp only
    rw [if_neg (by simp), if_neg (by omega), if_pos (by decide)]
    congr 1
    omega
  · rw [if_neg hn]
    obtain ⟨c, r, e, g1, g2⟩ := digits_head n.toNat
    have hm := parseMag_digits (u := n.toNat) (by omega)
    rw [e] at hm ⊢
    simp only [Lib.atoiAll]
    rw [if_neg (by omega), hm]
    simp only
    rw [if_neg (by omega), if_neg (by omega), if_neg (by omega)]
    congr 1
    omega
theorem itoaB_data (n : Int) : (itoaB n).data.toList = Lib.itoa n := by simp [itoaB]
theorem itoa_size {n : Int} (h0 : -1000000000000 ≤ n) (h1 : n ≤ 1000000000000) : (itoaB n).size ≤ 24 := by
  have h := Lib.itoa_length_le n (by omega) (by omega)
  have e : (itoaB n).size = (Lib.itoa n).length := by
    show (itoaB n).data.size = _
    rw [← Array.length_toList, itoaB_data]
  omega
theorem pInt_itoa {n : Int} (h0 : -1000000000000 ≤ n) (h1 : n ≤ 1000000000000) : pInt (itoaB n) = (⟨1, n, ByteArray.empty⟩, true) := by
  simp only [pInt, itoaB_data, atoi_itoa h0 h1]
  rw [if_pos ⟨trivial, by omega, by omega⟩]
theorem pInt_true {t : ByteArray} (h : (pInt t).2 = true) : ∃ n, -1000000000000 ≤ n ∧ n ≤ 1000000000000 ∧ pInt t = (⟨1, n, ByteArray.empty⟩, true) ∧ itoaB n = t := by
  unfold pInt at h ⊢
  split at h
  · rename_i n hn
    split at h
    · rename_i hc
      exact ⟨n, by omega, by omega, if_pos hc, toList_inj hc.1⟩
    · cases h
  · cases h
theorem boolB_true : boolB true = bTrue := by kernel_rfl
theorem boolB_false : boolB false = bFalse := by kernel_rfl
theorem pBool_bool (b : Bool) : pBool (boolB b) = (⟨2, if b then 1 else 0, ByteArray.empty⟩, true) := by
  cases b
  · rw [boolB_false]
    have h1 : sEq bFalse bTrue = false := by decide +kernel
    have h2 : sEq bFalse bFalse = true := by decide +kernel
    simp [pBool, h1, h2]
  · rw [boolB_true]
    have h2 : sEq bTrue bTrue = true := by decide +kernel
    simp [pBool, h2]
theorem pBool_true {t : ByteArray} (h : (pBool t).2 = true) : ∃ n, (n = 0 ∨ n = 1) ∧ pBool t = (⟨2, n, ByteArray.empty⟩, true) ∧ boolB (n == 1) = t := by
  unfold pBool at h ⊢
  split at h
  · rename_i h1
    exact ⟨1, .inr rfl, by rw [if_pos h1], by rw [show ((1 : Int) == 1) = true by rfl, boolB_true]; exact (sEq_iff.1 h1).symm⟩
  · rename_i h1
    split at h
    · rename_i h2
      exact ⟨0, .inl rfl, by rw [if_neg h1, if_pos h2], by rw [show ((0 : Int) == 1) = false by rfl, boolB_false]; exact (sEq_iff.1 h2).symm⟩
    · cases h
theorem boolB_size (b : Bool) : (boolB b).size ≤ 24 := by
  cases b
  · rw [boolB_false]; decide
  · rw [boolB_true]; decide

theorem convV_ok {v : Val} {k : Int} (hv : valE v = 0) (h1 : 1 ≤ k) (h3 : k ≤ 3) : convV v k = (if v.kind = 0 ∨ v.kind = k then (v, true)
    else if k = 3 then (if v.kind = 1 then (⟨3, 0, itoaB v.int⟩, true) else (⟨3, 0, boolB (v.int == 1)⟩, true))
    else if v.kind = 3 then (if k = 2 then pBool v.text else pInt v.text)
    else if v.int = 0 ∨ v.int = 1 then (⟨k, v.int, ByteArray.empty⟩, true)
    else (zV, false)) := by
  rw [convV, if_neg]
  rintro (h | h | h)
  · exact h hv
  · omega
  · omega
theorem convV_range {v : Val} {k : Int} (h : (convV v k).2 = true) : valE v = 0 ∧ 1 ≤ k ∧ k ≤ 3 := by
  unfold convV at h
  split at h
  · cases h
  · rename_i g
    refine ⟨?_, ?_, ?_⟩
    · exact Classical.byContradiction fun q => g (.inl q)
    · exact Classical.byContradiction fun q => g (.inr (.inl (by omega)))
    · exact Classical.byContradiction fun q => g (.inr (.inr (by omega)))
theorem convV_null {v : Val} {k : Int} (h : (convV v k).2 = true) (h0 : v.kind = 0) : (convV v k).1 = v := by
  obtain ⟨hv, h1, h3⟩ := convV_range h
  rw [convV_ok hv h1 h3, if_pos (.inl h0)]
/-- What converts, converts back. -/
theorem convV_back {v : Val} {k : Int} (h : (convV v k).2 = true) (h0 : v.kind ≠ 0) : convV (convV v k).1 v.kind = (v, true) ∧ (convV v k).1.kind = k ∧ valE (convV v k).1 = 0 := by
  obtain ⟨hv, h1, h3⟩ := convV_range h
  by_cases hs : v.kind = k
  · have e : convV v k = (v, true) := by rw [convV_ok hv h1 h3, if_pos (.inr hs)]
    rw [e]
    refine ⟨?_, hs, hv⟩
    rw [hs, e]
  have hk3 : k = 1 ∨ k = 2 ∨ k = 3 := by omega
  rcases valE_cases hv with rfl | ⟨n, g0, g1, rfl⟩ | ⟨n, g0, rfl⟩ | ⟨t, g0, rfl⟩
  · exact absurd rfl h0
  · rcases hk3 with rfl | rfl | rfl
    · exact absurd rfl hs
    · have e := convV_ok hv (k := 2) (by omega) (by omega)
      simp only [reduceCtorEq] at e
      rw [if_neg (by simp), if_neg (by simp), if_neg (by simp)] at e
      by_cases hn : n = 0 ∨ n = 1
      · rw [if_pos hn] at e
        rw [e]
        refine ⟨?_, rfl, valE_bool hn⟩
        rw [convV_ok (valE_bool hn) (by simp only; omega) (by simp only; omega), if_neg (by simp), if_neg (by simp), if_neg (by simp), if_pos hn]
      · rw [if_neg hn] at e
        rw [e] at h
        cases h
    · have e := convV_ok hv (k := 3) (by omega) (by omega)
      rw [if_neg (by simp), if_pos rfl, if_pos rfl] at e
      rw [e]
      refine ⟨?_, rfl, valE_text (itoa_size g0 g1)⟩
      rw [convV_ok (valE_text (itoa_size g0 g1)) (by simp only; omega) (by simp only; omega), if_neg (by simp), if_neg (by simp), if_pos rfl, if_neg (by simp)]
      exact pInt_itoa g0 g1
  · rcases hk3 with rfl | rfl | rfl
    · have e := convV_ok hv (k := 1) (by omega) (by omega)
      rw [if_neg (by simp), if_neg (by simp), if_neg (by simp), if_pos g0] at e
      rw [e]
      have g : valE ⟨1, n, ByteArray.empty⟩ = 0 := valE_int (by omega) (by omega)
      refine ⟨?_, rfl, g⟩
      rw [convV_ok g (by simp only; omega) (by simp only; omega), if_neg (by simp), if_neg (by simp), if_neg (by simp), if_pos g0]
    · exact absurd rfl hs
    · have e := convV_ok hv (k := 3) (by omega) (by omega)
      rw [if_neg (by simp), if_pos rfl, if_neg (by simp)] at e
      rw [e]
      refine ⟨?_, rfl, valE_text (boolB_size _)⟩
      rw [convV_ok (valE_text (boolB_size _)) (by simp only; omega) (by simp only; omega), if_neg (by simp), if_neg (by simp), if_pos rfl, if_pos rfl]
      simp only
      rw [pBool_bool]
      rcases g0 with rfl | rfl <;> rfl
  · rcases hk3 with rfl | rfl | rfl
    · have e := convV_ok hv (k := 1) (by omega) (by omega)
      rw [if_neg (by simp), if_neg (by simp), if_pos rfl, if_neg (by simp)] at e
      rw [e] at h ⊢
      obtain ⟨n, q0, q1, q2, q3⟩ := pInt_true h
      simp only at q2 q3
      rw [q2]
      have g : valE ⟨1, n, ByteArray.empty⟩ = 0 := valE_int q0 q1
      refine ⟨?_, rfl, g⟩
      rw [convV_ok g (by simp only; omega) (by simp only; omega), if_neg (by simp), if_pos rfl, if_pos rfl]
      simp only
      rw [q3]
    · have e := convV_ok hv (k := 2) (by omega) (by omega)
      rw [if_neg (by simp), if_neg (by simp), if_pos rfl, if_pos rfl] at e
      rw [e] at h ⊢
      obtain ⟨n, q0, q2, q3⟩ := pBool_true h
      simp only at q2 q3
      rw [q2]
      refine ⟨?_, rfl, valE_bool q0⟩
      rw [convV_ok (valE_bool q0) (by simp only; omega) (by simp only; omega), if_neg (by simp), if_pos rfl, if_neg (by simp)]
      simp only
      rw [q3]
    · exact absurd rfl hs
end Go.Bw

namespace Go.Bw
open Go.Proofs
attribute [local go_sem ↓] VOps_nil VOps_cons VOp_callJ VVal_callH VOps_guard GOn_tt GOn_ff GOn_tf GOn_ft GOn_not GOn_none HOn_none HOn_tt HOn_ff HOn_tf HOn_ft HOn_not VHead_nil VHead_cons VHead_guard VVal_move VVal_assign VVal_pickE pickK_true pickK_false VVal_not VVal_neg negK_int VVal_load loadK_fz loadK_ptr loadK_eptr VVal_fieldAddr VVal_field VVal_indexAddr idxK_sl idxK_ref VVal_index indexK_str VVal_extract VVal_binOp binK_one binK_agg VVal_build VVal_buildSlice VVal_makeFunc VVal_slice sliceK_str sliceK_sl sliceK_nil sliceK_ref VVal_slice3 VVal_nilCheck VVal_convert convKk_int convKk_str VVal_len VVal_max VVal_min VOp_assign assignK_int assignK_bool assignK_str assignK_clo assignK_sl assignK_nil assignK_ref assignK_agg assignK_fz assignK_ptr assignK_eptr assignK_any VOp_box VOp_alloc VOp_store storeK_ptr storeK_eptr VOp_buildSlice VOp_append appK_rr appK_rs appK_rn appK_ri appK_nr appK_ns appK_nn appK_ni appStd_eq VOp_copy copyK_ref VOp_clear clearK_ref VOp_cap VOp_eqNil VOp_move VOp_pick VOp_not VOp_neg VOp_load VOp_fieldAddr VOp_field VOp_indexAddr VOp_index VOp_extract VOp_binTmp VOp_binInt VOp_binStr VOp_build VOp_makeFunc VOp_slice VOp_nilCheck VOp_convert VOp_len VOp_max VOp_min mO_some mT_some pk_some pk_none look_cons del_cons
attribute [local go_sem] guardB gOf int_bne beq_true beq_false Bool.not_not gSlot pickK_true pickK_false negK_int loadK_fz loadK_ptr loadK_eptr idxK_sl idxK_ref indexK_str binK_one binK_agg sliceK_str sliceK_sl sliceK_nil sliceK_ref convKk_int convKk_str maxL minL assignK_int assignK_bool assignK_str assignK_clo assignK_sl assignK_nil assignK_ref assignK_agg assignK_fz assignK_ptr assignK_eptr assignK_any nilRow_eq takeRow_eq appended_eq storeK_ptr storeK_eptr store_mk appIn_eq appMk_eq marked_eq ovOut_nil ovOut_cons ovIn_nil ovIn_cons padRow_eq ysC capK_nil capK_ref ioSt_mk outB_nil outR_nil outB outR inB_nil inB_cons inR_nil inR_cons L.kl L.kl0 L.ids L.ids0 Option.getD_some evalO constA mO_some mT_some put_mk putO_some putO_none okD_some okD_none pk_some pk_none look_nil del_nil sput noBox_mk noRow_mk newBox_eq newRow0_eq St.killRow RowC.kill rowMap_mk rowOf ovAll ovAdd ovDel ovGet ovShift dstOf ysOf overlay_nil overlay_nil' overlay A.map V.map L.noPtr L.noPtr0 L.noRow L.noRow0 L.peek L.norm L.flat clos_int clos_bool clos_str clos_sl clos_nil clos_any clos_fz L.clos L.isFz L.kd moveL fieldOff eqCells eqCell eqOp oneOf boolOf intOfA tupOf vOf aggOf isPtrLike isSlice lenKind lenL nL elemTI loadV asV binL intBin intDivL shrL boolBin strBin boundN partCells fillL placesOf setL chunks repL capsOf capL callOf argsOf frzV_int frzV_bool frzV_str frzV_sl frzV_nil frzV_fz frzV_any frzV_own frzV_clo frzV_ref frzV_eptr frzV_ptr frzRow_nil frzRow_ov frzRs_nil frzRs_cons frzCs_nil frzCs_cons frzO_some frzO_none frzN_int frzN_bool frzN_str frzN_sl frzN_nil frzN_any frzN_own List.map_cons List.map_nil List.cons_append List.nil_append List.append_nil List.length_cons List.length_nil List.length_map List.length_append List.headD_cons List.tail_cons List.getElem?_cons_zero List.getElem?_cons_succ List.drop_zero List.drop_succ_cons List.drop_nil List.take_succ_cons List.take_zero List.take_nil List.take_length List.filter_cons List.filter_nil List.elem_cons List.elem_nil List.all_cons List.all_nil Option.bind_some Option.map_some Option.some.injEq bne_self_eq_false beq_self_eq_true if_true if_false Bool.false_eq_true true_and and_true and_self Nat.zero_add Nat.add_zero Nat.zero_le Int.toNat_natCast Int.toNat_zero Option.isSome_some List.getElem?_toArray decide_true decide_false ge_iff_le gt_iff_lt Bool.not_true Bool.not_false Nat.le_refl Bool.and_true Bool.true_and Bool.and_false Bool.false_and eVal eRow eRow1 eRows eInt1 eInts eCol eCols eTbl eTbls eFK eFKs eCon eCons eSch eRel eInst eChg eChgs szOf getD_map_lt wrap_nat wrap_in List.take_of_length_le frz_eVal frz_eRow1 frz_eInt1 frz_eCol frz_eTbl frz_eFK frz_eCon frz_eRel frz_eChg noOwn_nil noOwn_cons noOwn_append L.isOwn noOwn_eVal noOwn_eRow1 noOwn_eInt1 noOwn_eCol noOwn_eTbl noOwn_eFK noOwn_eCon noOwn_eRel noOwn_eChg convK_2 convK_3 convK_5 convK_12 convK_21 convK_59 convK_163 convK_170 convK_176 convK_180 TT_2 TT_3 TT_4 TT_5 TT_9 TT_12 TT_13 TT_21 TT_22 TT_23 TT_24 TT_25 TT_26 TT_27 TT_28 TT_38 TT_39 TT_40 TT_41 TT_42 TT_45 TT_46 TT_47 TT_48 TT_49 TT_50 TT_51 TT_52 TT_59 TT_65 TT_66 TT_67 TT_68 TT_76 TT_77 TT_92 TT_93 TT_94 TT_114 TT_115 TT_132 TT_163 TT_170 TT_176 TT_180 TT_186 TT_187 TT_192 TT_193 boolTy_4 eqK_46 eqK_50 eqK_52 eqK_193
attribute [local congr] VOps.congr VHead.congr VOp.congr VVal.congr pk.congr assignK.congr appK.congr appStd.congr copyK.congr clearK.congr storeK.congr loadK.congr idxK.congr sliceK.congr indexK.congr binK.congr convKk.congr
set_option maxHeartbeats 8000000 in
theorem valueConvertInjective_sat (a b : Val) (k : Int) : Sat Tryd.prog 8 [.agg (eVal a), .agg (eVal b), oI k] (.v (oB true)) := by
  have c1 := convert_sat a k
  have c2 := convert_sat b k
  by_cases hk : a.kind = b.kind
  · have ek : (a.kind == b.kind) = true := by simpa using hk
    by_cases hab : a = b
    · have ec : (a.kind == b.kind && (a.int == b.int && a.text.toList == b.text.toList)) = true := by rw [hab]; simp
      have ec3 : (a.int == b.int && a.text.toList == b.text.toList) = true := by rw [hab]; simp
      refine sat_of_body tyOk Tryd.func8 rfl (by kernel_rfl) ⟨Nat.le_of_ble_eq_true rfl, Nat.le_of_ble_eq_true rfl⟩ fun w0 m0 F0 => ?_
      simp only [Tryd.ntmps8, envOf, Nat.reduceAdd]
      repeat' (first
        | ((first
          | with_reducible refine AWP.regionL tyOk fun K hK => ?_
          | ((with_reducible first | refine GOn.isT ?_ ?_ | refine HOn.isT ?_ ?_ | refine pickK.isT ?_ ?_); focus (first | with_reducible rfl | with_reducible assumption | (simp only [NM, LN]; first | done | with_reducible assumption | omega)))
          | ((with_reducible first | refine GOn.isF ?_ ?_ | refine HOn.isF ?_ ?_ | refine pickK.isF ?_ ?_); focus (first | with_reducible rfl | with_reducible assumption | (simp only [NM, LN]; first | done | with_reducible assumption | omega)))
          | ((with_reducible refine CallJ.is ?_); (first | refine CallJ.pure (valuesWork_sat) ?_ | ((apply CallJ.lentI); (focus (simp -dsimp (disch := (first | omega | (simp only [LN]; omega))) only [go_sem, ↓reduceIte, seval, ek, ec, ec3]; rfl)); (focus (first | exact (valuesWork_sat))))))
          | ((with_reducible refine CallH.is ?_); (first | refine CallH.intro (valuesWork_sat) ?_))) <;> simp -dsimp (disch := (first | omega | (simp only [LN]; omega))) only [go_sem, ↓reduceIte, seval, ek, ec, ec3])
        | ((with_reducible refine hK _ ?_); clear hK K)
        | (with_reducible first | refine AWP.seq ?_ | refine thenQ_normal ?_ | refine AWP.block ?_ | refine AWP.skip ?_ | refine AWP.ret ?_ | refine thenQ_ret ?_ | refine blockQ_ret ?_ | refine AWP.exit ?_ | refine thenQ_exit ?_ | refine blockQ_normal ?_ | refine blockQ_exit ?_)
        | refine blockQ_exit_ne rfl ?_
        | (with_reducible refine And.intro (by (first | with_reducible rfl | with_reducible assumption | omega | (simp only [LN]; first | done | with_reducible rfl | omega) | (simp only [NM, LN]; first | done | with_reducible assumption | omega) | (and_intros <;> first | with_reducible assumption | omega | (simp only [LN]; omega)) | fail)) ?_)
        | ((with_reducible refine AWP.condG (T := TT) (b := ?_) ?_ ?_); rotate_left; exact rfl)
        | (with_reducible first | refine CondG.t ?_ | refine CondG.f ?_ | refine CondG.not ?_)
        | ((with_reducible refine CondG.isT ?_ ?_); focus (first | with_reducible rfl | with_reducible assumption | (simp only [NM, LN]; first | done | with_reducible assumption | omega)))
        | ((with_reducible refine CondG.isF ?_ ?_); focus (first | with_reducible rfl | with_reducible assumption | (simp only [NM, LN]; first | done | with_reducible assumption | omega))))
      all_goals simp -dsimp (disch := (first | omega | (simp only [LN]; omega))) only [retQ, Tryd.results8, resVals, cellRV, resOf, St.rest, St.freeze, RT, go_sem, ↓reduceIte, seval]
    · have ec := valCells a b hab
      have ec3 : (a.int == b.int && a.text.toList == b.text.toList) = false := by rw [ek] at ec; exact ec
      cases h1 : (convV a k).2 with
      | false =>
        rw [h1] at c1
        refine sat_of_body tyOk Tryd.func8 rfl (by kernel_rfl) ⟨Nat.le_of_ble_eq_true rfl, Nat.le_of_ble_eq_true rfl⟩ fun w0 m0 F0 => ?_
        simp only [Tryd.ntmps8, envOf, Nat.reduceAdd]
        repeat' (first
          | ((first
            | with_reducible refine AWP.regionL tyOk fun K hK => ?_
            | ((with_reducible first | refine GOn.isT ?_ ?_ | refine HOn.isT ?_ ?_ | refine pickK.isT ?_ ?_); focus (first | with_reducible rfl | with_reducible assumption | (simp only [NM, LN]; first | done | with_reducible assumption | omega)))
            | ((with_reducible first | refine GOn.isF ?_ ?_ | refine HOn.isF ?_ ?_ | refine pickK.isF ?_ ?_); focus (first | with_reducible rfl | with_reducible assumption | (simp only [NM, LN]; first | done | with_reducible assumption | omega)))
            | ((with_reducible refine CallJ.is ?_); (first | refine CallJ.pure (valuesWork_sat) ?_ | refine CallJ.pure (c1) ?_ | refine CallJ.pure (c2) ?_ | ((apply CallJ.lentI); (focus (simp -dsimp (disch := (first | omega | (simp only [LN]; omega))) only [go_sem, ↓reduceIte, seval, ek, ec, ec3]; rfl)); (focus (first | exact (valuesWork_sat) | exact (c1) | exact (c2))))))
            | ((with_reducible refine CallH.is ?_); (first | refine CallH.intro (valuesWork_sat) ?_ | refine CallH.intro (c1) ?_ | refine CallH.intro (c2) ?_))) <;> simp -dsimp (disch := (first | omega | (simp only [LN]; omega))) only [go_sem, ↓reduceIte, seval, ek, ec, ec3])
          | ((with_reducible refine hK _ ?_); clear hK K)
          | (with_reducible first | refine AWP.seq ?_ | refine thenQ_normal ?_ | refine AWP.block ?_ | refine AWP.skip ?_ | refine AWP.ret ?_ | refine thenQ_ret ?_ | refine blockQ_ret ?_ | refine AWP.exit ?_ | refine thenQ_exit ?_ | refine blockQ_normal ?_ | refine blockQ_exit ?_)
          | refine blockQ_exit_ne rfl ?_
          | (with_reducible refine And.intro (by (first | with_reducible rfl | with_reducible assumption | omega | (simp only [LN]; first | done | with_reducible rfl | omega) | (simp only [NM, LN]; first | done | with_reducible assumption | omega) | (and_intros <;> first | with_reducible assumption | omega | (simp only [LN]; omega)) | fail)) ?_)
          | ((with_reducible refine AWP.condG (T := TT) (b := ?_) ?_ ?_); rotate_left; exact rfl)
          | (with_reducible first | refine CondG.t ?_ | refine CondG.f ?_ | refine CondG.not ?_)
          | ((with_reducible refine CondG.isT ?_ ?_); focus (first | with_reducible rfl | with_reducible assumption | (simp only [NM, LN]; first | done | with_reducible assumption | omega)))
          | ((with_reducible refine CondG.isF ?_ ?_); focus (first | with_reducible rfl | with_reducible assumption | (simp only [NM, LN]; first | done | with_reducible assumption | omega))))
        all_goals simp -dsimp (disch := (first | omega | (simp only [LN]; omega))) only [retQ, Tryd.results8, resVals, cellRV, resOf, St.rest, St.freeze, RT, go_sem, ↓reduceIte, seval]
      | true =>
        rw [h1] at c1
        cases h2 : (convV b k).2 with
        | false =>
          rw [h2] at c2
          refine sat_of_body tyOk Tryd.func8 rfl (by kernel_rfl) ⟨Nat.le_of_ble_eq_true rfl, Nat.le_of_ble_eq_true rfl⟩ fun w0 m0 F0 => ?_
          simp only [Tryd.ntmps8, envOf, Nat.reduceAdd]
          repeat' (first
            | ((first
              | with_reducible refine AWP.regionL tyOk fun K hK => ?_
              | ((with_reducible first | refine GOn.isT ?_ ?_ | refine HOn.isT ?_ ?_ | refine pickK.isT ?_ ?_); focus (first | with_reducible rfl | with_reducible assumption | (simp only [NM, LN]; first | done | with_reducible assumption | omega)))
              | ((with_reducible first | refine GOn.isF ?_ ?_ | refine HOn.isF ?_ ?_ | refine pickK.isF ?_ ?_); focus (first | with_reducible rfl | with_reducible assumption | (simp only [NM, LN]; first | done | with_reducible assumption | omega)))
              | ((with_reducible refine CallJ.is ?_); (first | refine CallJ.pure (valuesWork_sat) ?_ | refine CallJ.pure (c1) ?_ | refine CallJ.pure (c2) ?_ | ((apply CallJ.lentI); (focus (simp -dsimp (disch := (first | omega | (simp only [LN]; omega))) only [go_sem, ↓reduceIte, seval, ek, ec, ec3]; rfl)); (focus (first | exact (valuesWork_sat) | exact (c1) | exact (c2))))))
              | ((with_reducible refine CallH.is ?_); (first | refine CallH.intro (valuesWork_sat) ?_ | refine CallH.intro (c1) ?_ | refine CallH.intro (c2) ?_))) <;> simp -dsimp (disch := (first | omega | (simp only [LN]; omega))) only [go_sem, ↓reduceIte, seval, ek, ec, ec3])
            | ((with_reducible refine hK _ ?_); clear hK K)
            | (with_reducible first | refine AWP.seq ?_ | refine thenQ_normal ?_ | refine AWP.block ?_ | refine AWP.skip ?_ | refine AWP.ret ?_ | refine thenQ_ret ?_ | refine blockQ_ret ?_ | refine AWP.exit ?_ | refine thenQ_exit ?_ | refine blockQ_normal ?_ | refine blockQ_exit ?_)
            | refine blockQ_exit_ne rfl ?_
            | (with_reducible refine And.intro (by (first | with_reducible rfl | with_reducible assumption | omega | (simp only [LN]; first | done | with_reducible rfl | omega) | (simp only [NM, LN]; first | done | with_reducible assumption | omega) | (and_intros <;> first | with_reducible assumption | omega | (simp only [LN]; omega)) | fail)) ?_)
            | ((with_reducible refine AWP.condG (T := TT) (b := ?_) ?_ ?_); rotate_left; exact rfl)
            | (with_reducible first | refine CondG.t ?_ | refine CondG.f ?_ | refine CondG.not ?_)
            | ((with_reducible refine CondG.isT ?_ ?_); focus (first | with_reducible rfl | with_reducible assumption | (simp only [NM, LN]; first | done | with_reducible assumption | omega)))
            | ((with_reducible refine CondG.isF ?_ ?_); focus (first | with_reducible rfl | with_reducible assumption | (simp only [NM, LN]; first | done | with_reducible assumption | omega))))
          all_goals simp -dsimp (disch := (first | omega | (simp only [LN]; omega))) only [retQ, Tryd.results8, resVals, cellRV, resOf, St.rest, St.freeze, RT, go_sem, ↓reduceIte, seval]
        | true =>
          rw [h2] at c2
          have hne : (convV a k).1 ≠ (convV b k).1 := by
            intro e
            by_cases h0 : a.kind = 0
            · have g1 := convV_null h1 h0
              have g2 := convV_null h2 (by rw [← hk]; exact h0)
              rw [g1, g2] at e
              exact hab e
            · have g1 := (convV_back h1 h0).1
              have g2 := (convV_back h2 (by rw [← hk]; exact h0)).1
              rw [e, hk, g2] at g1
              exact hab (congrArg Prod.fst g1).symm
          have en := valCells _ _ hne
          generalize (convV a k).1 = x at *
          generalize (convV b k).1 = y at *
          refine sat_of_body tyOk Tryd.func8 rfl (by kernel_rfl) ⟨Nat.le_of_ble_eq_true rfl, Nat.le_of_ble_eq_true rfl⟩ fun w0 m0 F0 => ?_
          simp only [Tryd.ntmps8, envOf, Nat.reduceAdd]
          repeat' (first
            | ((first
              | with_reducible refine AWP.regionL tyOk fun K hK => ?_
              | ((with_reducible first | refine GOn.isT ?_ ?_ | refine HOn.isT ?_ ?_ | refine pickK.isT ?_ ?_); focus (first | with_reducible rfl | with_reducible assumption | (simp only [NM, LN]; first | done | with_reducible assumption | omega)))
              | ((with_reducible first | refine GOn.isF ?_ ?_ | refine HOn.isF ?_ ?_ | refine pickK.isF ?_ ?_); focus (first | with_reducible rfl | with_reducible assumption | (simp only [NM, LN]; first | done | with_reducible assumption | omega)))
              | ((with_reducible refine CallJ.is ?_); (first | refine CallJ.pure (valuesWork_sat) ?_ | refine CallJ.pure (c1) ?_ | refine CallJ.pure (c2) ?_ | ((apply CallJ.lentI); (focus (simp -dsimp (disch := (first | omega | (simp only [LN]; omega))) only [go_sem, ↓reduceIte, seval, ek, ec, ec3, en]; rfl)); (focus (first | exact (valuesWork_sat) | exact (c1) | exact (c2))))))
              | ((with_reducible refine CallH.is ?_); (first | refine CallH.intro (valuesWork_sat) ?_ | refine CallH.intro (c1) ?_ | refine CallH.intro (c2) ?_))) <;> simp -dsimp (disch := (first | omega | (simp only [LN]; omega))) only [go_sem, ↓reduceIte, seval, ek, ec, ec3, en])
            | ((with_reducible refine hK _ ?_); clear hK K)
            | (with_reducible first | refine AWP.seq ?_ | refine thenQ_normal ?_ | refine AWP.block ?_ | refine AWP.skip ?_ | refine AWP.ret ?_ | refine thenQ_ret ?_ | refine blockQ_ret ?_ | refine AWP.exit ?_ | refine thenQ_exit ?_ | refine blockQ_normal ?_ | refine blockQ_exit ?_)
            | refine blockQ_exit_ne rfl ?_
            | (with_reducible refine And.intro (by (first | with_reducible rfl | with_reducible assumption | omega | (simp only [LN]; first | done | with_reducible rfl | omega) | (simp only [NM, LN]; first | done | with_reducible assumption | omega) | (and_intros <;> first | with_reducible assumption | omega | (simp only [LN]; omega)) | fail)) ?_)
            | ((with_reducible refine AWP.condG (T := TT) (b := ?_) ?_ ?_); rotate_left; exact rfl)
            | (with_reducible first | refine CondG.t ?_ | refine CondG.f ?_ | refine CondG.not ?_)
            | ((with_reducible refine CondG.isT ?_ ?_); focus (first | with_reducible rfl | with_reducible assumption | (simp only [NM, LN]; first | done | with_reducible assumption | omega)))
            | ((with_reducible refine CondG.isF ?_ ?_); focus (first | with_reducible rfl | with_reducible assumption | (simp only [NM, LN]; first | done | with_reducible assumption | omega))))
          all_goals simp -dsimp (disch := (first | omega | (simp only [LN]; omega))) only [retQ, Tryd.results8, resVals, cellRV, resOf, St.rest, St.freeze, RT, go_sem, ↓reduceIte, seval]
  · have ek : (a.kind == b.kind) = false := by simpa using hk
    refine sat_of_body tyOk Tryd.func8 rfl (by kernel_rfl) ⟨Nat.le_of_ble_eq_true rfl, Nat.le_of_ble_eq_true rfl⟩ fun w0 m0 F0 => ?_
    simp only [Tryd.ntmps8, envOf, Nat.reduceAdd]
    repeat' (first
      | ((first
        | with_reducible refine AWP.regionL tyOk fun K hK => ?_
        | ((with_reducible first | refine GOn.isT ?_ ?_ | refine HOn.isT ?_ ?_ | refine pickK.isT ?_ ?_); focus (first | with_reducible rfl | with_reducible assumption | (simp only [NM, LN]; first | done | with_reducible assumption | omega)))
        | ((with_reducible first | refine GOn.isF ?_ ?_ | refine HOn.isF ?_ ?_ | refine pickK.isF ?_ ?_); focus (first | with_reducible rfl | with_reducible assumption | (simp only [NM, LN]; first | done | with_reducible assumption | omega)))
        | ((with_reducible refine CallJ.is ?_); (first | refine CallJ.pure (valuesWork_sat) ?_ | ((apply CallJ.lentI); (focus (simp -dsimp (disch := (first | omega | (simp only [LN]; omega))) only [go_sem, ↓reduceIte, seval, ek]; rfl)); (focus (first | exact (valuesWork_sat))))))
        | ((with_reducible refine CallH.is ?_); (first | refine CallH.intro (valuesWork_sat) ?_))) <;> simp -dsimp (disch := (first | omega | (simp only [LN]; omega))) only [go_sem, ↓reduceIte, seval, ek])
      | ((with_reducible refine hK _ ?_); clear hK K)
      | (with_reducible first | refine AWP.seq ?_ | refine thenQ_normal ?_ | refine AWP.block ?_ | refine AWP.skip ?_ | refine AWP.ret ?_ | refine thenQ_ret ?_ | refine blockQ_ret ?_ | refine AWP.exit ?_ | refine thenQ_exit ?_ | refine blockQ_normal ?_ | refine blockQ_exit ?_)
      | refine blockQ_exit_ne rfl ?_
      | (with_reducible refine And.intro (by (first | with_reducible rfl | with_reducible assumption | omega | (simp only [LN]; first | done | with_reducible rfl | omega) | (simp only [NM, LN]; first | done | with_reducible assumption | omega) | (and_intros <;> first | with_reducible assumption | omega | (simp only [LN]; omega)) | fail)) ?_)
      | ((with_reducible refine AWP.condG (T := TT) (b := ?_) ?_ ?_); rotate_left; exact rfl)
      | (with_reducible first | refine CondG.t ?_ | refine CondG.f ?_ | refine CondG.not ?_)
      | ((with_reducible refine CondG.isT ?_ ?_); focus (first | with_reducible rfl | with_reducible assumption | (simp only [NM, LN]; first | done | with_reducible assumption | omega)))
      | ((with_reducible refine CondG.isF ?_ ?_); focus (first | with_reducible rfl | with_reducible assumption | (simp only [NM, LN]; first | done | with_reducible assumption | omega))))
    all_goals simp -dsimp (disch := (first | omega | (simp only [LN]; omega))) only [retQ, Tryd.results8, resVals, cellRV, resOf, St.rest, St.freeze, RT, go_sem, ↓reduceIte, seval]
end Go.Bw
