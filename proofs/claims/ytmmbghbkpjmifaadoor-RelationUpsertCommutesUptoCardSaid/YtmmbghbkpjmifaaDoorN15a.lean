/-
  WHAT IS PROVED HERE, of this translation: look_mem, tyAll, tyOk, TT_2, TT_3, TT_4, TT_5, TT_9, TT_12, TT_13, TT_21, TT_22, TT_23, TT_24, TT_25, TT_26, TT_27, TT_28, TT_38, TT_39, TT_40, TT_41, TT_42, TT_45, TT_46, TT_47, TT_48, TT_49, TT_50, TT_51, .., integer_sat, itoaB_size, cellB_size, encL_zero, encL_succ, encL_le, itoa_ne, encL_ne, okIds_ptr, okIds_byt, encode_sat, cmpstring_sat, CompareString_sat, stringsCompare_sat, compare_sat, idx_step, idx_hit, idx_end, scan_step, scan_hit, scan_end, scan_leaf, idx_cases, scan_all_none, compareRows_sat, cloneRow_own, cloneRow_sat, relClone_own, find_sat.
  A theorem that ends in sat says what the function it names returns, whatever the state it is called in; the bounds on its arguments stand ahead of it.
-/
import Derived.Test.YtmmbghbkpjmifaaDoorProg
import Derived.KernelRfl
import Derived.Lib.AppendIntMem
import Derived.Lib.ItoaLen
import Derived.Lib.Bytealg
import Derived.Laws.Externs
import Derived.Test.YtmmbghbkpjmifaaDoorKSA
import Derived.Test.YtmmbghbkpjmifaaDoorKZ
import Derived.Test.YtmmbghbkpjmifaaDoorKA
import Derived.Test.YtmmbghbkpjmifaaDoorKB
import Derived.Test.YtmmbghbkpjmifaaDoorKC
import Derived.Test.YtmmbghbkpjmifaaDoorKD
import Derived.Test.YtmmbghbkpjmifaaDoorKV
import Derived.Test.YtmmbghbkpjmifaaDoorKB7
set_option linter.unusedSimpArgs false
set_option linter.unusedVariables false

namespace Go.Bw
open Go.Proofs
def tyTab : List (Nat × TI) := [
  (2, { size := 1, bytes := 8, agg := false, elem := none, fields := none, isStr := false, zero := some [.int .i64 0] }),
  (3, { size := 1, bytes := 8, agg := false, elem := none, fields := none, isStr := false, zero := some [.int .i64 0] }),
  (4, { size := 1, bytes := 1, agg := false, elem := none, fields := none, isStr := false, zero := some [.bool false] }),
  (5, { size := 1, bytes := 1, agg := false, elem := none, fields := none, isStr := false, zero := some [.int .u8 0] }),
  (9, { size := 1, bytes := 16, agg := false, elem := none, fields := none, isStr := true, zero := some [.str ByteArray.empty] }),
  (12, { size := 1, bytes := 8, agg := false, elem := none, fields := none, isStr := false, zero := some [.int .u64 0] }),
  (13, { size := 2, bytes := 24, agg := true, elem := none, fields := some [(0, 9), (1, 12)], isStr := false, zero := some [.str ByteArray.empty, .int .u64 0] }),
  (21, { size := 1, bytes := 4, agg := false, elem := none, fields := none, isStr := false, zero := some [.int .i32 0] }),
  (22, { size := 1, bytes := 24, agg := false, elem := some 46, fields := none, isStr := false, zero := some [.nil 3] }),
  (23, { size := 1, bytes := 24, agg := false, elem := some 3, fields := none, isStr := false, zero := some [.nil 1] }),
  (24, { size := 3, bytes := 64, agg := true, elem := none, fields := some [(0, 9), (1, 22), (2, 23)], isStr := false, zero := some [.str ByteArray.empty, .nil 3, .nil 1] }),
  (25, { size := 3, bytes := 64, agg := true, elem := none, fields := some [(0, 9), (1, 22), (2, 23)], isStr := false, zero := some [.str ByteArray.empty, .nil 3, .nil 1] }),
  (26, { size := 1, bytes := 24, agg := false, elem := some 28, fields := none, isStr := false, zero := some [.nil 1] }),
  (27, { size := 1, bytes := 24, agg := false, elem := some 50, fields := none, isStr := false, zero := some [.nil 3] }),
  (28, { size := 1, bytes := 24, agg := false, elem := some 50, fields := none, isStr := false, zero := some [.nil 3] }),
  (38, { size := 1, bytes := 24, agg := false, elem := some 25, fields := none, isStr := false, zero := some [.nil 3] }),
  (39, { size := 1, bytes := 24, agg := false, elem := some 48, fields := none, isStr := false, zero := some [.nil 3] }),
  (40, { size := 1, bytes := 24, agg := false, elem := some 52, fields := none, isStr := false, zero := some [.nil 7] }),
  (41, { size := 3, bytes := 72, agg := true, elem := none, fields := some [(0, 38), (1, 39), (2, 40)], isStr := false, zero := some [.nil 3, .nil 3, .nil 7] }),
  (42, { size := 3, bytes := 72, agg := true, elem := none, fields := some [(0, 38), (1, 39), (2, 40)], isStr := false, zero := some [.nil 3, .nil 3, .nil 7] }),
  (45, { size := 3, bytes := 32, agg := true, elem := none, fields := some [(0, 9), (1, 3), (2, 4)], isStr := false, zero := some [.str ByteArray.empty, .int .i64 0, .bool false] }),
  (46, { size := 3, bytes := 32, agg := true, elem := none, fields := some [(0, 9), (1, 3), (2, 4)], isStr := false, zero := some [.str ByteArray.empty, .int .i64 0, .bool false] }),
  (47, { size := 3, bytes := 56, agg := true, elem := none, fields := some [(0, 9), (1, 23), (2, 9)], isStr := false, zero := some [.str ByteArray.empty, .nil 1, .str ByteArray.empty] }),
  (48, { size := 3, bytes := 56, agg := true, elem := none, fields := some [(0, 9), (1, 23), (2, 9)], isStr := false, zero := some [.str ByteArray.empty, .nil 1, .str ByteArray.empty] }),
  (49, { size := 3, bytes := 32, agg := true, elem := none, fields := some [(0, 3), (1, 3), (2, 9)], isStr := false, zero := some [.int .i64 0, .int .i64 0, .str ByteArray.empty] }),
  (50, { size := 3, bytes := 32, agg := true, elem := none, fields := some [(0, 3), (1, 3), (2, 9)], isStr := false, zero := some [.int .i64 0, .int .i64 0, .str ByteArray.empty] }),
  (51, { size := 7, bytes := 80, agg := true, elem := none, fields := some [(0, 9), (1, 3), (2, 9), (3, 3), (4, 50)], isStr := false, zero := some [.str ByteArray.empty, .int .i64 0, .str ByteArray.empty, .int .i64 0, .int .i64 0, .int .i64 0, .str ByteArray.empty] }),
  (52, { size := 7, bytes := 80, agg := true, elem := none, fields := some [(0, 9), (1, 3), (2, 9), (3, 3), (4, 50)], isStr := false, zero := some [.str ByteArray.empty, .int .i64 0, .str ByteArray.empty, .int .i64 0, .int .i64 0, .int .i64 0, .str ByteArray.empty] }),
  (54, { size := 1, bytes := 24, agg := false, elem := some 101, fields := none, isStr := false, zero := some [.nil 2] }),
  (55, { size := 1, bytes := 24, agg := false, elem := some 101, fields := none, isStr := false, zero := some [.nil 2] }),
  (56, { size := 1, bytes := 24, agg := false, elem := some 66, fields := none, isStr := false, zero := some [.nil 4] }),
  (57, { size := 1, bytes := 8, agg := false, elem := none, fields := none, isStr := false, zero := some [.int .i64 0] }),
  (65, { size := 4, bytes := 72, agg := true, elem := none, fields := some [(0, 3), (1, 9), (2, 28), (3, 28)], isStr := false, zero := some [.int .i64 0, .str ByteArray.empty, .nil 3, .nil 3] }),
  (66, { size := 4, bytes := 72, agg := true, elem := none, fields := some [(0, 3), (1, 9), (2, 28), (3, 28)], isStr := false, zero := some [.int .i64 0, .str ByteArray.empty, .nil 3, .nil 3] }),
  (82, { size := 1, bytes := 24, agg := false, elem := some 5, fields := none, isStr := false, zero := some [.nil 1] }),
  (83, { size := 2, bytes := 32, agg := true, elem := none, fields := some [(0, 81), (1, 82)], isStr := false, zero := some [.nilp, .nil 1] }),
  (84, { size := 2, bytes := 32, agg := true, elem := none, fields := some [(0, 81), (1, 82)], isStr := false, zero := some [.nilp, .nil 1] }),
  (100, { size := 2, bytes := 40, agg := true, elem := none, fields := some [(0, 9), (1, 26)], isStr := false, zero := some [.str ByteArray.empty, .nil 1] }),
  (101, { size := 2, bytes := 40, agg := true, elem := none, fields := some [(0, 9), (1, 26)], isStr := false, zero := some [.str ByteArray.empty, .nil 1] }),
  (118, { size := 1, bytes := 24, agg := false, elem := some 55, fields := none, isStr := false, zero := some [.nil 1] }),
  (155, { size := 1, bytes := 8, agg := false, elem := none, fields := none, isStr := false, zero := some [.int .u64 0] }),
  (162, { size := 1, bytes := 8, agg := false, elem := none, fields := none, isStr := false, zero := some [.int .u64 0] }),
  (166, { size := 1, bytes := 4, agg := false, elem := none, fields := none, isStr := false, zero := some [.int .u32 0] })]
def TT (t : TypeId) : Option TI := look tyTab t
theorem look_mem {α : Type} {x : α} : ∀ (e : List (Nat × α)) (i : Nat), look e i = some x → (i, x) ∈ e
  | [], _, h => by cases h
  | (t, y) :: e, i, h => by
    simp only [look] at h
    split at h
    · injection h with h; subst h; subst t; simp
    · exact List.mem_cons_of_mem _ (look_mem e i h)
theorem tyAll : (tyTab.all fun p => tiOk Tryd.prog p.1 p.2) = true := by kernel_rfl
theorem tyOk : TabOk Tryd.prog TT := fun t i h => List.all_eq_true.1 tyAll (t, i) (look_mem tyTab t h)
theorem TT_2 : TT 2 = some { size := 1, bytes := 8, agg := false, elem := none, fields := none, isStr := false, zero := some [.int .i64 0] } := rfl
theorem TT_3 : TT 3 = some { size := 1, bytes := 8, agg := false, elem := none, fields := none, isStr := false, zero := some [.int .i64 0] } := rfl
theorem TT_4 : TT 4 = some { size := 1, bytes := 1, agg := false, elem := none, fields := none, isStr := false, zero := some [.bool false] } := rfl
theorem TT_5 : TT 5 = some { size := 1, bytes := 1, agg := false, elem := none, fields := none, isStr := false, zero := some [.int .u8 0] } := rfl
theorem TT_9 : TT 9 = some { size := 1, bytes := 16, agg := false, elem := none, fields := none, isStr := true, zero := some [.str ByteArray.empty] } := rfl
theorem TT_12 : TT 12 = some { size := 1, bytes := 8, agg := false, elem := none, fields := none, isStr := false, zero := some [.int .u64 0] } := rfl
theorem TT_13 : TT 13 = some { size := 2, bytes := 24, agg := true, elem := none, fields := some [(0, 9), (1, 12)], isStr := false, zero := some [.str ByteArray.empty, .int .u64 0] } := rfl
theorem TT_21 : TT 21 = some { size := 1, bytes := 4, agg := false, elem := none, fields := none, isStr := false, zero := some [.int .i32 0] } := rfl
theorem TT_22 : TT 22 = some { size := 1, bytes := 24, agg := false, elem := some 46, fields := none, isStr := false, zero := some [.nil 3] } := rfl
theorem TT_23 : TT 23 = some { size := 1, bytes := 24, agg := false, elem := some 3, fields := none, isStr := false, zero := some [.nil 1] } := rfl
theorem TT_24 : TT 24 = some { size := 3, bytes := 64, agg := true, elem := none, fields := some [(0, 9), (1, 22), (2, 23)], isStr := false, zero := some [.str ByteArray.empty, .nil 3, .nil 1] } := rfl
theorem TT_25 : TT 25 = some { size := 3, bytes := 64, agg := true, elem := none, fields := some [(0, 9), (1, 22), (2, 23)], isStr := false, zero := some [.str ByteArray.empty, .nil 3, .nil 1] } := rfl
theorem TT_26 : TT 26 = some { size := 1, bytes := 24, agg := false, elem := some 28, fields := none, isStr := false, zero := some [.nil 1] } := rfl
theorem TT_27 : TT 27 = some { size := 1, bytes := 24, agg := false, elem := some 50, fields := none, isStr := false, zero := some [.nil 3] } := rfl
theorem TT_28 : TT 28 = some { size := 1, bytes := 24, agg := false, elem := some 50, fields := none, isStr := false, zero := some [.nil 3] } := rfl
theorem TT_38 : TT 38 = some { size := 1, bytes := 24, agg := false, elem := some 25, fields := none, isStr := false, zero := some [.nil 3] } := rfl
theorem TT_39 : TT 39 = some { size := 1, bytes := 24, agg := false, elem := some 48, fields := none, isStr := false, zero := some [.nil 3] } := rfl
theorem TT_40 : TT 40 = some { size := 1, bytes := 24, agg := false, elem := some 52, fields := none, isStr := false, zero := some [.nil 7] } := rfl
theorem TT_41 : TT 41 = some { size := 3, bytes := 72, agg := true, elem := none, fields := some [(0, 38), (1, 39), (2, 40)], isStr := false, zero := some [.nil 3, .nil 3, .nil 7] } := rfl
theorem TT_42 : TT 42 = some { size := 3, bytes := 72, agg := true, elem := none, fields := some [(0, 38), (1, 39), (2, 40)], isStr := false, zero := some [.nil 3, .nil 3, .nil 7] } := rfl
theorem TT_45 : TT 45 = some { size := 3, bytes := 32, agg := true, elem := none, fields := some [(0, 9), (1, 3), (2, 4)], isStr := false, zero := some [.str ByteArray.empty, .int .i64 0, .bool false] } := rfl
theorem TT_46 : TT 46 = some { size := 3, bytes := 32, agg := true, elem := none, fields := some [(0, 9), (1, 3), (2, 4)], isStr := false, zero := some [.str ByteArray.empty, .int .i64 0, .bool false] } := rfl
theorem TT_47 : TT 47 = some { size := 3, bytes := 56, agg := true, elem := none, fields := some [(0, 9), (1, 23), (2, 9)], isStr := false, zero := some [.str ByteArray.empty, .nil 1, .str ByteArray.empty] } := rfl
theorem TT_48 : TT 48 = some { size := 3, bytes := 56, agg := true, elem := none, fields := some [(0, 9), (1, 23), (2, 9)], isStr := false, zero := some [.str ByteArray.empty, .nil 1, .str ByteArray.empty] } := rfl
theorem TT_49 : TT 49 = some { size := 3, bytes := 32, agg := true, elem := none, fields := some [(0, 3), (1, 3), (2, 9)], isStr := false, zero := some [.int .i64 0, .int .i64 0, .str ByteArray.empty] } := rfl
theorem TT_50 : TT 50 = some { size := 3, bytes := 32, agg := true, elem := none, fields := some [(0, 3), (1, 3), (2, 9)], isStr := false, zero := some [.int .i64 0, .int .i64 0, .str ByteArray.empty] } := rfl
theorem TT_51 : TT 51 = some { size := 7, bytes := 80, agg := true, elem := none, fields := some [(0, 9), (1, 3), (2, 9), (3, 3), (4, 50)], isStr := false, zero := some [.str ByteArray.empty, .int .i64 0, .str ByteArray.empty, .int .i64 0, .int .i64 0, .int .i64 0, .str ByteArray.empty] } := rfl
theorem TT_52 : TT 52 = some { size := 7, bytes := 80, agg := true, elem := none, fields := some [(0, 9), (1, 3), (2, 9), (3, 3), (4, 50)], isStr := false, zero := some [.str ByteArray.empty, .int .i64 0, .str ByteArray.empty, .int .i64 0, .int .i64 0, .int .i64 0, .str ByteArray.empty] } := rfl
theorem TT_54 : TT 54 = some { size := 1, bytes := 24, agg := false, elem := some 101, fields := none, isStr := false, zero := some [.nil 2] } := rfl
theorem TT_55 : TT 55 = some { size := 1, bytes := 24, agg := false, elem := some 101, fields := none, isStr := false, zero := some [.nil 2] } := rfl
theorem TT_56 : TT 56 = some { size := 1, bytes := 24, agg := false, elem := some 66, fields := none, isStr := false, zero := some [.nil 4] } := rfl
theorem TT_57 : TT 57 = some { size := 1, bytes := 8, agg := false, elem := none, fields := none, isStr := false, zero := some [.int .i64 0] } := rfl
theorem TT_65 : TT 65 = some { size := 4, bytes := 72, agg := true, elem := none, fields := some [(0, 3), (1, 9), (2, 28), (3, 28)], isStr := false, zero := some [.int .i64 0, .str ByteArray.empty, .nil 3, .nil 3] } := rfl
theorem TT_66 : TT 66 = some { size := 4, bytes := 72, agg := true, elem := none, fields := some [(0, 3), (1, 9), (2, 28), (3, 28)], isStr := false, zero := some [.int .i64 0, .str ByteArray.empty, .nil 3, .nil 3] } := rfl
theorem TT_82 : TT 82 = some { size := 1, bytes := 24, agg := false, elem := some 5, fields := none, isStr := false, zero := some [.nil 1] } := rfl
theorem TT_83 : TT 83 = some { size := 2, bytes := 32, agg := true, elem := none, fields := some [(0, 81), (1, 82)], isStr := false, zero := some [.nilp, .nil 1] } := rfl
theorem TT_84 : TT 84 = some { size := 2, bytes := 32, agg := true, elem := none, fields := some [(0, 81), (1, 82)], isStr := false, zero := some [.nilp, .nil 1] } := rfl
theorem TT_100 : TT 100 = some { size := 2, bytes := 40, agg := true, elem := none, fields := some [(0, 9), (1, 26)], isStr := false, zero := some [.str ByteArray.empty, .nil 1] } := rfl
theorem TT_101 : TT 101 = some { size := 2, bytes := 40, agg := true, elem := none, fields := some [(0, 9), (1, 26)], isStr := false, zero := some [.str ByteArray.empty, .nil 1] } := rfl
theorem TT_118 : TT 118 = some { size := 1, bytes := 24, agg := false, elem := some 55, fields := none, isStr := false, zero := some [.nil 1] } := rfl
theorem TT_155 : TT 155 = some { size := 1, bytes := 8, agg := false, elem := none, fields := none, isStr := false, zero := some [.int .u64 0] } := rfl
theorem TT_162 : TT 162 = some { size := 1, bytes := 8, agg := false, elem := none, fields := none, isStr := false, zero := some [.int .u64 0] } := rfl
theorem TT_166 : TT 166 = some { size := 1, bytes := 4, agg := false, elem := none, fields := none, isStr := false, zero := some [.int .u32 0] } := rfl
theorem eqK_46 : eqK Tryd.prog 46 = some [2, 0, 1] := by kernel_rfl
theorem eqK_50 : eqK Tryd.prog 50 = some [0, 0, 2] := by kernel_rfl
theorem eqK_52 : eqK Tryd.prog 52 = some [2, 0, 2, 0, 0, 0, 2] := by kernel_rfl
theorem convK_2 : convK Tryd.prog 2 = some .i64 := by kernel_rfl
theorem convK_3 : convK Tryd.prog 3 = some .i64 := by kernel_rfl
theorem convK_5 : convK Tryd.prog 5 = some .u8 := by kernel_rfl
theorem convK_12 : convK Tryd.prog 12 = some .u64 := by kernel_rfl
theorem convK_21 : convK Tryd.prog 21 = some .i32 := by kernel_rfl
theorem convK_57 : convK Tryd.prog 57 = some .i64 := by kernel_rfl
theorem convK_155 : convK Tryd.prog 155 = some .u64 := by kernel_rfl
theorem convK_162 : convK Tryd.prog 162 = some .u64 := by kernel_rfl
theorem convK_166 : convK Tryd.prog 166 = some .u32 := by kernel_rfl
theorem boolTy_4 : boolTy Tryd.prog 4 = true := by kernel_rfl
theorem mixed : Tryd.prog.follows .mixedOrders = true := by kernel_rfl

structure Val where
  kind : Int
  int : Int
  text : ByteArray
  deriving DecidableEq, Inhabited
abbrev Row := List Val
structure Col where
  name : ByteArray
  kind : Int
  nullable : Bool
  deriving DecidableEq, Inhabited
structure Tbl where
  name : ByteArray
  cols : List Col
  pk : List Int
  deriving DecidableEq, Inhabited
structure FK where
  table : ByteArray
  cols : List Int
  ref : ByteArray
  deriving DecidableEq, Inhabited
structure Con where
  table : ByteArray
  left : Int
  op : ByteArray
  right : Int
  value : Val
  deriving DecidableEq, Inhabited
structure Sch where
  tables : List Tbl
  fks : List FK
  cons : List Con
  deriving DecidableEq, Inhabited
structure Rel where
  table : ByteArray
  rows : List Row
  deriving DecidableEq, Inhabited
abbrev Inst := List Rel
structure Chg where
  kind : Int
  table : ByteArray
  key : Row
  row : Row
  deriving DecidableEq, Inhabited

def eVal (v : Val) : List L := [.int .i64 v.kind, .int .i64 v.int, .str v.text]
def eRow (r : Row) : L := .sl 3 (r.map eVal)
def eRow1 (r : Row) : List L := [eRow r]
def eRows (rs : List Row) : L := .sl 1 (rs.map eRow1)
def eInt1 (n : Int) : List L := [.int .i64 n]
def eInts (l : List Int) : L := .sl 1 (l.map eInt1)
def eCol (c : Col) : List L := [.str c.name, .int .i64 c.kind, .bool c.nullable]
def eCols (l : List Col) : L := .sl 3 (l.map eCol)
def eTbl (t : Tbl) : List L := [.str t.name, eCols t.cols, eInts t.pk]
def eTbls (l : List Tbl) : L := .sl 3 (l.map eTbl)
def eFK (f : FK) : List L := [.str f.table, eInts f.cols, .str f.ref]
def eFKs (l : List FK) : L := .sl 3 (l.map eFK)
def eCon (c : Con) : List L := [.str c.table, .int .i64 c.left, .str c.op, .int .i64 c.right, .int .i64 c.value.kind, .int .i64 c.value.int, .str c.value.text]
def eCons (l : List Con) : L := .sl 7 (l.map eCon)
def eSch (s : Sch) : List L := [eTbls s.tables, eFKs s.fks, eCons s.cons]
def eRel (r : Rel) : List L := [.str r.table, eRows r.rows]
def eInst (i : Inst) : L := .sl 2 (i.map eRel)
def eChg (c : Chg) : List L := [.int .i64 c.kind, .str c.table, eRow c.key, eRow c.row]
def eChgs (l : List Chg) : L := .sl 4 (l.map eChg)

theorem frz_map {α : Type} {e : α → List L} (h : ∀ x, (e x).map (L.frzN 4) = e x) (l : List α) : (l.map e).map (fun x => x.map (L.frzN 4)) = l.map e := by
  rw [List.map_map]
  exact List.map_congr_left fun x _ => h x
theorem frz_eVal (l : List Val) : (l.map eVal).map (fun x => x.map (L.frzN 4)) = l.map eVal := frz_map (fun _ => rfl) l
theorem frz_eRow1 (l : List Row) : (l.map eRow1).map (fun x => x.map (L.frzN 4)) = l.map eRow1 := frz_map (fun _ => rfl) l
theorem frz_eInt1 (l : List Int) : (l.map eInt1).map (fun x => x.map (L.frzN 4)) = l.map eInt1 := frz_map (fun _ => rfl) l
theorem frz_eCol (l : List Col) : (l.map eCol).map (fun x => x.map (L.frzN 4)) = l.map eCol := frz_map (fun _ => rfl) l
theorem frz_eTbl (l : List Tbl) : (l.map eTbl).map (fun x => x.map (L.frzN 4)) = l.map eTbl := frz_map (fun _ => rfl) l
theorem frz_eFK (l : List FK) : (l.map eFK).map (fun x => x.map (L.frzN 4)) = l.map eFK := frz_map (fun _ => rfl) l
theorem frz_eCon (l : List Con) : (l.map eCon).map (fun x => x.map (L.frzN 4)) = l.map eCon := frz_map (fun _ => rfl) l
theorem frz_eRel (l : List Rel) : (l.map eRel).map (fun x => x.map (L.frzN 4)) = l.map eRel := frz_map (fun _ => rfl) l
theorem frz_eChg (l : List Chg) : (l.map eChg).map (fun x => x.map (L.frzN 4)) = l.map eChg := frz_map (fun _ => rfl) l

theorem noOwn_eVal (l : List Val) : noOwn (l.map eVal) = True := noOwn_map (fun _ => rfl) l
theorem noOwn_eRow1 (l : List Row) : noOwn (l.map eRow1) = True := noOwn_map (fun _ => rfl) l
theorem noOwn_eInt1 (l : List Int) : noOwn (l.map eInt1) = True := noOwn_map (fun _ => rfl) l
theorem noOwn_eCol (l : List Col) : noOwn (l.map eCol) = True := noOwn_map (fun _ => rfl) l
theorem noOwn_eTbl (l : List Tbl) : noOwn (l.map eTbl) = True := noOwn_map (fun _ => rfl) l
theorem noOwn_eFK (l : List FK) : noOwn (l.map eFK) = True := noOwn_map (fun _ => rfl) l
theorem noOwn_eCon (l : List Con) : noOwn (l.map eCon) = True := noOwn_map (fun _ => rfl) l
theorem noOwn_eRel (l : List Rel) : noOwn (l.map eRel) = True := noOwn_map (fun _ => rfl) l
theorem noOwn_eChg (l : List Chg) : noOwn (l.map eChg) = True := noOwn_map (fun _ => rfl) l

abbrev oI (n : Int) : V := .one (.int .i64 n)
abbrev oB (b : Bool) : V := .one (.bool b)
abbrev oS (s : ByteArray) : V := .one (.str s)

/-- How each lies in cells. -/
theorem EN : (∀ (v : Val), eVal v = [.int .i64 v.kind, .int .i64 v.int, .str v.text]) ∧ (∀ (r : Row), eRow r = .sl 3 (r.map eVal)) ∧ (∀ (r : Row), eRow1 r = [eRow r]) ∧ (∀ (rs : List Row), eRows rs = .sl 1 (rs.map eRow1)) ∧ (∀ (n : Int), eInt1 n = [.int .i64 n]) ∧ (∀ (l : List Int), eInts l = .sl 1 (l.map eInt1)) ∧ (∀ (c : Col), eCol c = [.str c.name, .int .i64 c.kind, .bool c.nullable]) ∧ (∀ (l : List Col), eCols l = .sl 3 (l.map eCol)) ∧ (∀ (t : Tbl), eTbl t = [.str t.name, eCols t.cols, eInts t.pk]) ∧ (∀ (l : List Tbl), eTbls l = .sl 3 (l.map eTbl)) ∧ (∀ (f : FK), eFK f = [.str f.table, eInts f.cols, .str f.ref]) ∧ (∀ (l : List FK), eFKs l = .sl 3 (l.map eFK)) ∧ (∀ (c : Con), eCon c = [.str c.table, .int .i64 c.left, .str c.op, .int .i64 c.right, .int .i64 c.value.kind, .int .i64 c.value.int, .str c.value.text]) ∧ (∀ (l : List Con), eCons l = .sl 7 (l.map eCon)) ∧ (∀ (s : Sch), eSch s = [eTbls s.tables, eFKs s.fks, eCons s.cons]) ∧ (∀ (r : Rel), eRel r = [.str r.table, eRows r.rows]) ∧ (∀ (i : Inst), eInst i = .sl 2 (i.map eRel)) ∧ (∀ (c : Chg), eChg c = [.int .i64 c.kind, .str c.table, eRow c.key, eRow c.row]) ∧ (∀ (l : List Chg), eChgs l = .sl 4 (l.map eChg)) :=
  ⟨fun _ => rfl, fun _ => rfl, fun _ => rfl, fun _ => rfl, fun _ => rfl, fun _ => rfl, fun _ => rfl, fun _ => rfl, fun _ => rfl, fun _ => rfl, fun _ => rfl, fun _ => rfl, fun _ => rfl, fun _ => rfl, fun _ => rfl, fun _ => rfl, fun _ => rfl, fun _ => rfl, fun _ => rfl⟩
end Go.Bw

namespace Go.Bw
open Go.Proofs
attribute [local go_sem ↓] VOps_nil VOps_cons VOp_callJ VVal_callH VOps_guard GOn_tt GOn_ff GOn_tf GOn_ft GOn_not GOn_none HOn_none HOn_tt HOn_ff HOn_tf HOn_ft HOn_not VHead_nil VHead_cons VHead_guard VVal_move VVal_assign VVal_pickE pickK_true pickK_false VVal_not VVal_neg negK_int VVal_load loadK_fz loadK_ptr loadK_eptr VVal_fieldAddr VVal_field VVal_indexAddr idxK_sl idxK_ref VVal_index indexK_str VVal_extract VVal_binOp binK_one binK_agg VVal_build VVal_buildSlice VVal_makeFunc VVal_slice sliceK_str sliceK_sl sliceK_nil sliceK_ref VVal_slice3 VVal_nilCheck VVal_convert convKk_int convKk_str VVal_len VVal_max VVal_min VOp_assign assignK_int assignK_bool assignK_str assignK_clo assignK_sl assignK_nil assignK_ref assignK_agg assignK_fz assignK_ptr assignK_eptr assignK_any VOp_box VOp_alloc VOp_store storeK_ptr storeK_eptr VOp_buildSlice VOp_append appK_rr appK_rs appK_rn appK_ri appK_nr appK_ns appK_nn appK_ni appStd_eq VOp_copy copyK_ref VOp_clear clearK_ref VOp_cap VOp_eqNil VOp_move VOp_pick VOp_not VOp_neg VOp_load VOp_fieldAddr VOp_field VOp_indexAddr VOp_index VOp_extract VOp_binTmp VOp_binInt VOp_binStr VOp_build VOp_makeFunc VOp_slice VOp_nilCheck VOp_convert VOp_len VOp_max VOp_min mO_some mT_some pk_some pk_none look_cons del_cons
attribute [local go_sem] guardB gOf int_bne beq_true beq_false Bool.not_not gSlot pickK_true pickK_false negK_int loadK_fz loadK_ptr loadK_eptr idxK_sl idxK_ref indexK_str binK_one binK_agg sliceK_str sliceK_sl sliceK_nil sliceK_ref convKk_int convKk_str maxL minL assignK_int assignK_bool assignK_str assignK_clo assignK_sl assignK_nil assignK_ref assignK_agg assignK_fz assignK_ptr assignK_eptr assignK_any nilRow_eq takeRow_eq appended_eq storeK_ptr storeK_eptr store_mk appIn_eq appMk_eq marked_eq ovOut_nil ovOut_cons ovIn_nil ovIn_cons padRow_eq ysC capK_nil capK_ref ioSt_mk outB_nil outR_nil outB outR inB_nil inB_cons inR_nil inR_cons L.kl L.kl0 L.ids L.ids0 Option.getD_some evalO constA mO_some mT_some put_mk putO_some putO_none okD_some okD_none pk_some pk_none look_nil del_nil sput noBox_mk noRow_mk newBox_eq newRow0_eq St.killRow RowC.kill rowMap_mk rowOf ovAll ovAdd ovDel ovGet ovShift dstOf ysOf overlay_nil overlay_nil' overlay A.map V.map L.noPtr L.noPtr0 L.noRow L.noRow0 L.peek L.norm L.flat clos_int clos_bool clos_str clos_sl clos_nil clos_any clos_fz L.clos L.isFz L.kd moveL fieldOff eqCells eqCell eqOp oneOf boolOf intOfA tupOf vOf aggOf isPtrLike isSlice lenKind lenL nL elemTI loadV asV binL intBin intDivL shrL boolBin strBin strAdd boundN partCells fillL placesOf setL chunks repL capsOf capL callOf argsOf frzV_int frzV_bool frzV_str frzV_sl frzV_nil frzV_fz frzV_any frzV_own frzV_clo frzV_ref frzV_eptr frzV_ptr frzRow_nil frzRow_ov frzRs_nil frzRs_cons frzCs_nil frzCs_cons frzO_some frzO_none frzN_int frzN_bool frzN_str frzN_sl frzN_nil frzN_any frzN_own List.map_cons List.map_nil List.cons_append List.nil_append List.append_nil List.length_cons List.length_nil List.length_map List.length_append List.headD_cons List.tail_cons List.getElem?_cons_zero List.getElem?_cons_succ List.drop_zero List.drop_succ_cons List.drop_nil List.take_succ_cons List.take_zero List.take_nil List.take_length List.filter_cons List.filter_nil List.elem_cons List.elem_nil List.all_cons List.all_nil Option.bind_some Option.map_some Option.some.injEq bne_self_eq_false beq_self_eq_true if_true if_false Bool.false_eq_true true_and and_true and_self Nat.zero_add Nat.add_zero Nat.zero_le Int.toNat_natCast Int.toNat_zero Option.isSome_some List.getElem?_toArray decide_true decide_false ge_iff_le gt_iff_lt Bool.not_true Bool.not_false Nat.le_refl Bool.and_true Bool.true_and Bool.and_false Bool.false_and eVal eRow eRow1 eRows eInt1 eInts eCol eCols eTbl eTbls eFK eFKs eCon eCons eSch eRel eInst eChg eChgs szOf getD_map_lt wrap_nat wrap_in List.take_of_length_le frz_eVal frz_eRow1 frz_eInt1 frz_eCol frz_eTbl frz_eFK frz_eCon frz_eRel frz_eChg noOwn_nil noOwn_cons noOwn_append L.isOwn noOwn_eVal noOwn_eRow1 noOwn_eInt1 noOwn_eCol noOwn_eTbl noOwn_eFK noOwn_eCon noOwn_eRel noOwn_eChg convK_2 convK_3 convK_5 convK_12 convK_21 convK_57 convK_155 convK_162 convK_166 TT_2 TT_3 TT_4 TT_5 TT_9 TT_12 TT_13 TT_21 TT_22 TT_23 TT_24 TT_25 TT_26 TT_27 TT_28 TT_38 TT_39 TT_40 TT_41 TT_42 TT_45 TT_46 TT_47 TT_48 TT_49 TT_50 TT_51 TT_52 TT_54 TT_55 TT_56 TT_57 TT_65 TT_66 TT_82 TT_83 TT_84 TT_100 TT_101 TT_118 TT_155 TT_162 TT_166 boolTy_4 eqK_46 eqK_50 eqK_52
attribute [local congr] VOps.congr VHead.congr VOp.congr VVal.congr pk.congr assignK.congr appK.congr appStd.congr copyK.congr clearK.congr storeK.congr loadK.congr idxK.congr sliceK.congr indexK.congr binK.congr convKk.congr
open Go.Proofs Go.RowKit

theorem sat_of_calls {P : Program} {f : FuncId} {fn : Func} {c : Code} {xs : List V} {args : List Value} {v : Value} {r : A} (hf : P.funcs[f]? = some fn) (hb : fn.body = some c) (hn : (fn.name == "runtime.NumGoroutine") = false)
    (ha : ∀ m ω vs, ArgsRep m ω vs xs → vs = args) (hr : ∀ m ω, ARep m ω v r)
    (h : ∀ w, LaidW P w → Calls P f args.toArray w fun e w' => e = .returned v ∧ Below w.heap.size w w') : Sat P f xs r := by
  refine ⟨fun m w vs ω hC hA => ?_⟩
  have e := ha _ _ _ hA
  subst e
  refine .inr ⟨?_, (h w (hC.good w (Keeps.refl _ _))).mono fun e w' ⟨he, hw⟩ => ⟨v, he, m, ω, hC.grow hw (Mem.le_refl m) (fun _ _ => rfl) (fun x u hx => (hw.cell (World.block_lt_of_cell? w x (hC.ok x u hx))).trans (hC.ok x u hx)), hr m ω⟩⟩
  simp only [callFunc, Sem.run_bind, program, Sem.run, Result.andThen_ok, hf]
  rw [hn, hb]
  simp
theorem args1 {m : Mem} {ω : Wh} {vs : List Value} {l : L} {u : Value} (hA : ArgsRep m ω vs [.one l]) (h : ∀ v, ERep m ω v l → v = u) : vs = [u] := by
  obtain ⟨h1, h2⟩ := hA
  obtain ⟨v, h3, h4⟩ := h2 0 (.one l) rfl
  match vs, h1, h3 with
  | [x], _, h3 =>
    simp only [List.getElem?_cons_zero, Option.some.injEq] at h3
    subst h3
    rw [h x h4]
theorem erep_int {m : Mem} {ω : Wh} {v : Value} {k : IntKind} {n : Int} (h : ERep m ω v (.int k n)) : v = .int k n := by
  have h : Rep m v (.int k n) := h
  cases h; rfl
/-- The decimal text of a number. -/
def itoaB (n : Int) : ByteArray := ⟨(Lib.itoa n).toArray⟩
theorem itoa_sat (n : Int) (h0 : -9223372036854775808 ≤ n) (h1 : n ≤ 9223372036854775807) : Sat Tryd.prog 39 [.one (.int .i64 n)] (.v (.one (.str (itoaB n)))) :=
  sat_of_calls (args := [.int .i64 n]) (v := .string (itoaB n)) Tryd.func39 rfl (by kernel_rfl) (fun m ω vs hA => args1 hA fun v h => erep_int h) (fun m ω => Rep.str _) fun w hw =>
    (Tryd.strconv_Itoa n h0 h1 w (hw.pow (by kernel_rfl))).mono fun e w' ⟨he, k, os, hk⟩ => ⟨he, hk ▸ Lib.below_grow _ w (Nat.le_refl _) k os⟩
end Go.Bw

namespace Go.Bw
open Go.Proofs
attribute [local go_sem ↓] VOps_nil VOps_cons VOp_callJ VVal_callH VOps_guard GOn_tt GOn_ff GOn_tf GOn_ft GOn_not GOn_none HOn_none HOn_tt HOn_ff HOn_tf HOn_ft HOn_not VHead_nil VHead_cons VHead_guard VVal_move VVal_assign VVal_pickE pickK_true pickK_false VVal_not VVal_neg negK_int VVal_load loadK_fz loadK_ptr loadK_eptr VVal_fieldAddr VVal_field VVal_indexAddr idxK_sl idxK_ref VVal_index indexK_str VVal_extract VVal_binOp binK_one binK_agg VVal_build VVal_buildSlice VVal_makeFunc VVal_slice sliceK_str sliceK_sl sliceK_nil sliceK_ref VVal_slice3 VVal_nilCheck VVal_convert convKk_int convKk_str VVal_len VVal_max VVal_min VOp_assign assignK_int assignK_bool assignK_str assignK_clo assignK_sl assignK_nil assignK_ref assignK_agg assignK_fz assignK_ptr assignK_eptr assignK_any VOp_box VOp_alloc VOp_store storeK_ptr storeK_eptr VOp_buildSlice VOp_append appK_rr appK_rs appK_rn appK_ri appK_nr appK_ns appK_nn appK_ni appStd_eq VOp_copy copyK_ref VOp_clear clearK_ref VOp_cap VOp_eqNil VOp_move VOp_pick VOp_not VOp_neg VOp_load VOp_fieldAddr VOp_field VOp_indexAddr VOp_index VOp_extract VOp_binTmp VOp_binInt VOp_binStr VOp_build VOp_makeFunc VOp_slice VOp_nilCheck VOp_convert VOp_len VOp_max VOp_min mO_some mT_some pk_some pk_none look_cons del_cons
attribute [local go_sem] guardB gOf int_bne beq_true beq_false Bool.not_not gSlot pickK_true pickK_false negK_int loadK_fz loadK_ptr loadK_eptr idxK_sl idxK_ref indexK_str binK_one binK_agg sliceK_str sliceK_sl sliceK_nil sliceK_ref convKk_int convKk_str maxL minL assignK_int assignK_bool assignK_str assignK_clo assignK_sl assignK_nil assignK_ref assignK_agg assignK_fz assignK_ptr assignK_eptr assignK_any nilRow_eq takeRow_eq appended_eq storeK_ptr storeK_eptr store_mk appIn_eq appMk_eq marked_eq ovOut_nil ovOut_cons ovIn_nil ovIn_cons padRow_eq ysC capK_nil capK_ref ioSt_mk outB_nil outR_nil outB outR inB_nil inB_cons inR_nil inR_cons L.kl L.kl0 L.ids L.ids0 Option.getD_some evalO constA mO_some mT_some put_mk putO_some putO_none okD_some okD_none pk_some pk_none look_nil del_nil sput noBox_mk noRow_mk newBox_eq newRow0_eq St.killRow RowC.kill rowMap_mk rowOf ovAll ovAdd ovDel ovGet ovShift dstOf ysOf overlay_nil overlay_nil' overlay A.map V.map L.noPtr L.noPtr0 L.noRow L.noRow0 L.peek L.norm L.flat clos_int clos_bool clos_str clos_sl clos_nil clos_any clos_fz L.clos L.isFz L.kd moveL fieldOff eqCells eqCell eqOp oneOf boolOf intOfA tupOf vOf aggOf isPtrLike isSlice lenKind lenL nL elemTI loadV asV binL intBin intDivL shrL boolBin strBin strAdd boundN partCells fillL placesOf setL chunks repL capsOf capL callOf argsOf frzV_int frzV_bool frzV_str frzV_sl frzV_nil frzV_fz frzV_any frzV_own frzV_clo frzV_ref frzV_eptr frzV_ptr frzRow_nil frzRow_ov frzRs_nil frzRs_cons frzCs_nil frzCs_cons frzO_some frzO_none frzN_int frzN_bool frzN_str frzN_sl frzN_nil frzN_any frzN_own List.map_cons List.map_nil List.cons_append List.nil_append List.append_nil List.length_cons List.length_nil List.length_map List.length_append List.headD_cons List.tail_cons List.getElem?_cons_zero List.getElem?_cons_succ List.drop_zero List.drop_succ_cons List.drop_nil List.take_succ_cons List.take_zero List.take_nil List.take_length List.filter_cons List.filter_nil List.elem_cons List.elem_nil List.all_cons List.all_nil Option.bind_some Option.map_some Option.some.injEq bne_self_eq_false beq_self_eq_true if_true if_false Bool.false_eq_true true_and and_true and_self Nat.zero_add Nat.add_zero Nat.zero_le Int.toNat_natCast Int.toNat_zero Option.isSome_some List.getElem?_toArray decide_true decide_false ge_iff_le gt_iff_lt Bool.not_true Bool.not_false Nat.le_refl Bool.and_true Bool.true_and Bool.and_false Bool.false_and eVal eRow eRow1 eRows eInt1 eInts eCol eCols eTbl eTbls eFK eFKs eCon eCons eSch eRel eInst eChg eChgs szOf getD_map_lt wrap_nat wrap_in List.take_of_length_le frz_eVal frz_eRow1 frz_eInt1 frz_eCol frz_eTbl frz_eFK frz_eCon frz_eRel frz_eChg noOwn_nil noOwn_cons noOwn_append L.isOwn noOwn_eVal noOwn_eRow1 noOwn_eInt1 noOwn_eCol noOwn_eTbl noOwn_eFK noOwn_eCon noOwn_eRel noOwn_eChg convK_2 convK_3 convK_5 convK_12 convK_21 convK_57 convK_155 convK_162 convK_166 TT_2 TT_3 TT_4 TT_5 TT_9 TT_12 TT_13 TT_21 TT_22 TT_23 TT_24 TT_25 TT_26 TT_27 TT_28 TT_38 TT_39 TT_40 TT_41 TT_42 TT_45 TT_46 TT_47 TT_48 TT_49 TT_50 TT_51 TT_52 TT_54 TT_55 TT_56 TT_57 TT_65 TT_66 TT_82 TT_83 TT_84 TT_100 TT_101 TT_118 TT_155 TT_162 TT_166 boolTy_4 eqK_46 eqK_50 eqK_52
attribute [local congr] VOps.congr VHead.congr VOp.congr VVal.congr pk.congr assignK.congr appK.congr appStd.congr copyK.congr clearK.congr storeK.congr loadK.congr idxK.congr sliceK.congr indexK.congr binK.congr convKk.congr
open Go.Proofs Go.RowKit Go.Shelf

abbrev tB : TypeId := 5
theorem bytesAt_of {w : World} {G : Nat → Prop} {v : Value} {t : TypeId} {l : List UInt8} (h : ByT w G v t l) : BytesAt w t v l.length (Lib.byteCells l) := by
  refine ⟨Lib.byteCells_length l, ?_⟩
  rcases h with ⟨rfl, rfl⟩ | ⟨g, cap, cur, _, h1, h2, h3, h4, h5, h6⟩
  · exact .inl ⟨rfl, rfl⟩
  · exact .inr ⟨g, cap, cur, h1, h2, h3, h4, h5, h6⟩
theorem byT_own {w : World} {G : Nat → Prop} {v : Value} {t : TypeId} {l : List UInt8} (h : ByT w G v t l) {k : Nat} (hk : v.ownBlock = some k) : G k := by
  rcases h with ⟨rfl, rfl⟩ | ⟨g, cap, cur, h0, rfl, _⟩
  · cases hk
  · simp only [Value.ownBlock, Option.some.injEq] at hk
    exact hk ▸ h0
theorem byT_of {w : World} {v : Value} {t : TypeId} {l : List UInt8} {n : Nat} (h : BytesAt w t v n (Lib.byteCells l)) : ByT w (fun k => v.ownBlock = some k) v t l := by
  have hn : l.length = n := (Lib.byteCells_length l).symm.trans h.1
  subst hn
  rcases h.2 with ⟨rfl, h0⟩ | ⟨g, cap, cur, rfl, h2, h3, h4, h5, h6⟩
  · exact .inl ⟨List.eq_nil_of_length_eq_zero h0, rfl⟩
  · exact .inr ⟨g, cap, cur, rfl, rfl, h2, h3, h4, h5, h6⟩
theorem erep_str' {m : Mem} {ω : Wh} {v : Value} {s : ByteArray} (h : ERep m ω v (.str s)) : v = .string s := by
  have h : Rep m v (.str s) := h
  cases h; rfl
theorem ws_call {P : Program} {f : FuncId} {fn : Func} {c : Code} {args : Array Value} {w : World} {R : Value → World → Prop} (hf : P.funcs[f]? = some fn) (hb : fn.body = some c) (hn : (fn.name == "runtime.NumGoroutine") = false)
    (h : Calls P f args w fun e w' => ∃ v, e = .returned v ∧ R v w') : CallsR P f args w R := by
  refine .inr ⟨?_, h⟩
  simp only [callFunc, Sem.run_bind, program, Sem.run, Result.andThen_ok, hf]
  rw [hn, hb]
  simp
theorem args2 {m : Mem} {ω : Wh} {vs : List Value} {x y : L} (hA : ArgsRep m ω vs [.one x, .one y]) : ∃ a b, vs = [a, b] ∧ ERep m ω a x ∧ ERep m ω b y := by
  obtain ⟨h1, h2⟩ := hA
  match vs, h1 with
  | [a, b], _ =>
    obtain ⟨a', ha, ha'⟩ := h2 0 _ rfl
    obtain ⟨b', hb, hb'⟩ := h2 1 _ rfl
    simp only [List.getElem?_cons_zero, List.getElem?_cons_succ, Option.some.injEq] at ha hb
    subst ha; subst hb
    exact ⟨_, _, rfl, ha', hb'⟩
/-- What a box of a used builder is. -/
theorem bld_box {m : Mem} {w : World} {ω : Wh} {id : Nat} {c : L} {t : TypeId} {l : List UInt8} (h : BoxRep m w ω id [c, .byt t l]) :
    ∃ p v e, w.heap[ω.box id]? = some (.cells #[p, v] e (0, 0)) ∧ ω.f false id (ω.box id) ∧ (∃ G0, XRep m w ω G0 p c) ∧ BytesAt w t v l.length (Lib.byteCells l) ∧ v.ownBlock ≠ some (ω.box id) ∧ ∀ k, v.ownBlock = some k → ω.f false id k := by
  obtain ⟨cs, e, h1, h2, h3, G, h4, h5, h6⟩ := h
  obtain ⟨p, hp, xp⟩ := h6 0 c rfl
  obtain ⟨v, hv, xv⟩ := h6 1 (.byt t l) rfl
  have hcs : cs = #[p, v] := by
    obtain ⟨L⟩ := cs
    match L, h2 with
    | [a, b], _ =>
      simp only [List.getElem?_toArray, List.getElem?_cons_zero, List.getElem?_cons_succ, Option.some.injEq] at hp hv
      rw [hp, hv]
  subst hcs
  have xv : ByT w (G 1) v t l := xv
  exact ⟨p, v, e, h1, h3, ⟨_, xp⟩, bytesAt_of xv, fun e' => (h4 1 _ (byT_own xv e')).2 rfl, fun k hk => (h4 1 k (byT_own xv hk)).1⟩
/-- The box behind a write. -/
theorem bld_after {P : Program} {w0 : World} {m0 : Mem} {F0 : Home} {s : St} {a : Act} {w w' : World} {m : Mem} {ω : Wh} {id : Nat} {ls0 : List L} {t e : TypeId} {l : List UInt8} {n : Nat} {v v' : Value}
    (h : CI P w0 m0 F0 s a w m ω) (hb : look s.box id = some ls0) (hf : ω.f false id (ω.box id)) (ho : ∀ k, v.ownBlock = some k → ω.f false id k)
    (h1 : w'.heap[ω.box id]? = some (.cells #[.pointer (some ⟨ω.box id, 0, none⟩), v'] e (0, 0))) (h2 : BytesAt w' t v' n (Lib.byteCells l)) (h3 : v'.ownBlock ≠ some (ω.box id)) (h4 : Moved w w' v v') (h5 : KeptBut (fun k => k = ω.box id ∨ v.ownBlock = some k) w w') :
    ∃ ω', CI P w0 m0 F0 { s with box := sput id [.ptr id 0, .byt t l] s.box } a w' m ω' ∧ ω'.box = ω.box ∧ ω'.row = ω.row := by
  refine h.boxGrow hb h5.os h5.tape h5.output h5.size (fun k hk hn => h5.block k hk ?_) h1 rfl (fun j k => j = 1 ∧ v'.ownBlock = some k) (fun j k hj => ⟨?_, fun e' => h3 (e' ▸ hj.2)⟩) (fun j j' k hj hj' => hj.1.trans hj'.1.symm) fun j x hx => ?_
  · rintro (rfl | hk2)
    · exact hn hf
    · exact hn (ho k hk2)
  · rcases h4 with h4 | ⟨k', h6, h7, h8⟩
    · exact .inl (ho k (h4 ▸ hj.2))
    · rw [h6] at hj
      obtain ⟨_, hj⟩ := hj
      injection hj with hj
      subst hj
      exact .inr ⟨h7, h8⟩
  · match j, hx with
    | 0, hx =>
      simp only [List.getElem?_cons_zero, Option.some.injEq] at hx
      subst hx
      exact ⟨_, rfl, rfl⟩
    | 1, hx =>
      simp only [List.getElem?_cons_succ, List.getElem?_cons_zero, Option.some.injEq] at hx
      subst hx
      refine ⟨_, rfl, ?_⟩
      have q := byT_of h2
      show ByT w' (fun k => 1 = 1 ∧ v'.ownBlock = some k) v' t l
      refine q.imp (fun q => q) fun ⟨g, cap, cur, q1, q2⟩ => ⟨g, cap, cur, ⟨rfl, q1⟩, q2⟩
    | k + 2, hx => simp at hx
theorem strCells_bytes (s : ByteArray) : Lib.strCells s = Lib.byteCells s.data.toList := rfl
theorem byteCells_app (a b : List UInt8) : Lib.byteCells a ++ Lib.byteCells b = Lib.byteCells (a ++ b) := by simp [Lib.byteCells]
theorem arep_ws {m : Mem} {ω : Wh} (n : Int) : ARep m ω (.tuple #[.int .i64 n, .nilIface]) (.tup [.one (.int .i64 n), .one .any]) := by
  refine ⟨_, rfl, rfl, fun j x hx => ?_⟩
  match j, hx with
  | 0, hx =>
    simp only [List.getElem?_cons_zero, Option.some.injEq] at hx
    subst hx
    exact ⟨_, rfl, Rep.int _ _⟩
  | 1, hx =>
    simp only [List.getElem?_cons_succ, List.getElem?_cons_zero, Option.some.injEq] at hx
    subst hx
    exact ⟨_, rfl, Rep.any _ rfl⟩
  | k + 2, hx => simp at hx
/-- WriteString on a builder that has been written. -/
theorem writeString_satM (l : List UInt8) (s : ByteArray) (hlen : l.length + s.size ≤ 140737488355328) :
    SatM Tryd.prog 38 [.one (.ptr 1000 0), .one (.str s)] [(1000, [.ptr 1000 0, .byt tB l])] [] (.tup [.one (.int .i64 s.size), .one .any]) [(1000, [.ptr 1000 0, .byt tB (l ++ s.data.toList)])] [] := by
  refine ⟨fun m w vs ω hC hA => ?_⟩
  obtain ⟨a, b, rfl, ha, hb⟩ := args2 hA
  have ha : a = .pointer (some ⟨ω.box 1000, 0, none⟩) := ha
  have hb : b = .string s := erep_str' hb
  subst ha; subst hb
  obtain ⟨p, v, e, h1, h2, ⟨G0, h3⟩, h4, h5, h6⟩ := bld_box (hC.box 1000 _ rfl)
  have h3 : p = .pointer (some ⟨ω.box 1000, 0, none⟩) := h3
  subst h3
  refine ws_call Tryd.func38 rfl (by kernel_rfl) ((Any.ws_used Tryd.bld166 Tryd.bldX (ω.box 1000) e v l.length (Lib.byteCells l) s w h1 h4 h5 hlen).mono fun en w' ⟨he, v', k1, k2, k3, k4, k5⟩ => ⟨_, he, ?_⟩)
  rw [strCells_bytes, byteCells_app] at k2
  obtain ⟨ω', q1, q2, q3⟩ := bld_after hC rfl h2 h6 k1 k2 k3 k4 k5
  exact ⟨m, ω', q1, arep_ws _⟩
/-- String of a builder that holds something. -/
theorem string_satM (l : List UInt8) (h0 : l ≠ []) : SatM Tryd.prog 40 [.one (.ptr 1000 0)] [(1000, [.ptr 1000 0, .byt tB l])] [] (.v (.one (.str ⟨l.toArray⟩))) [] [] := by
  refine ⟨fun m w vs ω hC hA => ?_⟩
  obtain rfl : vs = [.pointer (some ⟨ω.box 1000, 0, none⟩)] := args1 hA fun v h => h
  obtain ⟨p, v, e, h1, h2, ⟨G0, h3⟩, h4, h5, h6⟩ := bld_box (hC.box 1000 _ rfl)
  refine ws_call Tryd.func40 rfl (by kernel_rfl) ((Any.str_all Tryd.bld169 Tryd.bldX (ω.box 1000) e p v l w h1 h4 h0).mono fun en w' ⟨he, g, k1, k2⟩ => ⟨_, he, ?_⟩)
  have hlive : (roots [(1000, [L.ptr 1000 0, .byt tB l])] []).live false 1000 := rfl
  obtain ⟨f1, f2, f3⟩ := hC.fresh false 1000 hlive g (h6 g k1)
  have hW : CI Tryd.prog w m (handed [(1000, [L.ptr 1000 0, .byt tB l])] [] ω) (roots [] []) a0 w m ω := hC.weaken rfl (fun _ _ h => h) (fun i ls h => by cases h) (fun i ls h => by cases h)
  exact ⟨m, ω, hW.touch k2 f2 (fun κ id hl => by cases κ <;> cases hl) f3, Rep.str _⟩
end Go.Bw

namespace Go.Bw
open Go.Proofs
attribute [local go_sem ↓] VOps_nil VOps_cons VOp_callJ VVal_callH VOps_guard GOn_tt GOn_ff GOn_tf GOn_ft GOn_not GOn_none HOn_none HOn_tt HOn_ff HOn_tf HOn_ft HOn_not VHead_nil VHead_cons VHead_guard VVal_move VVal_assign VVal_pickE pickK_true pickK_false VVal_not VVal_neg negK_int VVal_load loadK_fz loadK_ptr loadK_eptr VVal_fieldAddr VVal_field VVal_indexAddr idxK_sl idxK_ref VVal_index indexK_str VVal_extract VVal_binOp binK_one binK_agg VVal_build VVal_buildSlice VVal_makeFunc VVal_slice sliceK_str sliceK_sl sliceK_nil sliceK_ref VVal_slice3 VVal_nilCheck VVal_convert convKk_int convKk_str VVal_len VVal_max VVal_min VOp_assign assignK_int assignK_bool assignK_str assignK_clo assignK_sl assignK_nil assignK_ref assignK_agg assignK_fz assignK_ptr assignK_eptr assignK_any VOp_box VOp_alloc VOp_store storeK_ptr storeK_eptr VOp_buildSlice VOp_append appK_rr appK_rs appK_rn appK_ri appK_nr appK_ns appK_nn appK_ni appStd_eq VOp_copy copyK_ref VOp_clear clearK_ref VOp_cap VOp_eqNil VOp_move VOp_pick VOp_not VOp_neg VOp_load VOp_fieldAddr VOp_field VOp_indexAddr VOp_index VOp_extract VOp_binTmp VOp_binInt VOp_binStr VOp_build VOp_makeFunc VOp_slice VOp_nilCheck VOp_convert VOp_len VOp_max VOp_min mO_some mT_some pk_some pk_none look_cons del_cons
attribute [local go_sem] guardB gOf int_bne beq_true beq_false Bool.not_not gSlot pickK_true pickK_false negK_int loadK_fz loadK_ptr loadK_eptr idxK_sl idxK_ref indexK_str binK_one binK_agg sliceK_str sliceK_sl sliceK_nil sliceK_ref convKk_int convKk_str maxL minL assignK_int assignK_bool assignK_str assignK_clo assignK_sl assignK_nil assignK_ref assignK_agg assignK_fz assignK_ptr assignK_eptr assignK_any nilRow_eq takeRow_eq appended_eq storeK_ptr storeK_eptr store_mk appIn_eq appMk_eq marked_eq ovOut_nil ovOut_cons ovIn_nil ovIn_cons padRow_eq ysC capK_nil capK_ref ioSt_mk outB_nil outR_nil outB outR inB_nil inB_cons inR_nil inR_cons L.kl L.kl0 L.ids L.ids0 Option.getD_some evalO constA mO_some mT_some put_mk putO_some putO_none okD_some okD_none pk_some pk_none look_nil del_nil sput noBox_mk noRow_mk newBox_eq newRow0_eq St.killRow RowC.kill rowMap_mk rowOf ovAll ovAdd ovDel ovGet ovShift dstOf ysOf overlay_nil overlay_nil' overlay A.map V.map L.noPtr L.noPtr0 L.noRow L.noRow0 L.peek L.norm L.flat clos_int clos_bool clos_str clos_sl clos_nil clos_any clos_fz L.clos L.isFz L.kd moveL fieldOff eqCells eqCell eqOp oneOf boolOf intOfA tupOf vOf aggOf isPtrLike isSlice lenKind lenL nL elemTI loadV asV binL intBin intDivL shrL boolBin strBin strAdd boundN partCells fillL placesOf setL chunks repL capsOf capL callOf argsOf frzV_int frzV_bool frzV_str frzV_sl frzV_nil frzV_fz frzV_any frzV_own frzV_clo frzV_ref frzV_eptr frzV_ptr frzRow_nil frzRow_ov frzRs_nil frzRs_cons frzCs_nil frzCs_cons frzO_some frzO_none frzN_int frzN_bool frzN_str frzN_sl frzN_nil frzN_any frzN_own List.map_cons List.map_nil List.cons_append List.nil_append List.append_nil List.length_cons List.length_nil List.length_map List.length_append List.headD_cons List.tail_cons List.getElem?_cons_zero List.getElem?_cons_succ List.drop_zero List.drop_succ_cons List.drop_nil List.take_succ_cons List.take_zero List.take_nil List.take_length List.filter_cons List.filter_nil List.elem_cons List.elem_nil List.all_cons List.all_nil Option.bind_some Option.map_some Option.some.injEq bne_self_eq_false beq_self_eq_true if_true if_false Bool.false_eq_true true_and and_true and_self Nat.zero_add Nat.add_zero Nat.zero_le Int.toNat_natCast Int.toNat_zero Option.isSome_some List.getElem?_toArray decide_true decide_false ge_iff_le gt_iff_lt Bool.not_true Bool.not_false Nat.le_refl Bool.and_true Bool.true_and Bool.and_false Bool.false_and eVal eRow eRow1 eRows eInt1 eInts eCol eCols eTbl eTbls eFK eFKs eCon eCons eSch eRel eInst eChg eChgs szOf getD_map_lt wrap_nat wrap_in List.take_of_length_le frz_eVal frz_eRow1 frz_eInt1 frz_eCol frz_eTbl frz_eFK frz_eCon frz_eRel frz_eChg noOwn_nil noOwn_cons noOwn_append L.isOwn noOwn_eVal noOwn_eRow1 noOwn_eInt1 noOwn_eCol noOwn_eTbl noOwn_eFK noOwn_eCon noOwn_eRel noOwn_eChg convK_2 convK_3 convK_5 convK_12 convK_21 convK_57 convK_155 convK_162 convK_166 TT_2 TT_3 TT_4 TT_5 TT_9 TT_12 TT_13 TT_21 TT_22 TT_23 TT_24 TT_25 TT_26 TT_27 TT_28 TT_38 TT_39 TT_40 TT_41 TT_42 TT_45 TT_46 TT_47 TT_48 TT_49 TT_50 TT_51 TT_52 TT_54 TT_55 TT_56 TT_57 TT_65 TT_66 TT_82 TT_83 TT_84 TT_100 TT_101 TT_118 TT_155 TT_162 TT_166 boolTy_4 eqK_46 eqK_50 eqK_52
attribute [local congr] VOps.congr VHead.congr VOp.congr VVal.congr pk.congr assignK.congr appK.congr appStd.congr copyK.congr clearK.congr storeK.congr loadK.congr idxK.congr sliceK.congr indexK.congr binK.congr convKk.congr
open Go.Proofs Go.RowKit Go.Shelf

section
variable {P : Program} {T : TypeId → Option TI} {w0 : World} {m0 : Mem} {F0 : Home} {s s' : St} {a : Act} {w w' : World} {m : Mem} {ω : Wh}
def StepsX (P : Program) (Q : Exit → Act → World → Prop) : List Oper → Act → World → (Act → World → Prop) → Prop
  | [], a, w, K => K a w
  | o :: l, a, w, K => o.guard = none ∧ o.wp P a w (fun a' w' => StepsX P Q l a' w' K) Q
theorem StepsX_sound {ops : Array Oper} {Q : Exit → Act → World → Prop} : ∀ (l : List Oper) (k : Nat) (a : Act) (w : World), ops.toList.drop k = l → StepsX P Q l a w (Q .normal) → wpOps P ops Q (List.range' k l.length) a w
  | [], k, a, w, _, h => h
  | o :: l, k, a, w, hl, h => by
    have hk : ops[k]? = some o := by
      have : (ops.toList.drop k)[0]? = some o := by rw [hl]; rfl
      simpa [List.getElem?_drop] using this
    have hl' : ops.toList.drop (k + 1) = l := by
      have : (ops.toList.drop k).drop 1 = l := by rw [hl]; rfl
      simpa [List.drop_drop] using this
    obtain ⟨hg, h⟩ := h
    simp only [List.length_cons, List.range'_succ, wpOps, hk]
    have hw : Region.wanted o (yielded ops a.tmps) = true := by simp [Region.wanted, hg]
    rw [if_pos hw]
    exact .inl (Oper.wp_mono (fun a' w' h => StepsX_sound l (k + 1) a' w' hl' h) h)
theorem wp_regionX {id : Nat} {l : List Oper} {Q : Exit → Act → World → Prop} (h : StepsX P Q l a w (Q .normal)) : (Code.region id l.toArray false).wp P Q a w := by
  refine wp_region ?_
  have := StepsX_sound (ops := l.toArray) l 0 a w (by simp) h
  have hlen : l.length = l.toArray.size := by simp
  rwa [← List.range_eq_range', hlen] at this
theorem run_alloc {o : Oper} {e : TypeId} {inf : TypeInfo} {z : Value} (ho : o.op = .alloc e) (g1 : P.info? e = some inf) (g2 : inf.zero = some z) :
    (execOp a.eval o).run P w = .ok (.value (.pointer (some ⟨w.heap.size, 0, none⟩))) (w.alloc (.cells z.cells e (0, 0))) := by
  unfold execOp
  simp only [ho, Instr.alloc, zeroValue, typeInfo, program, newVar, newRow, newObj, Sem.run_bind, Sem.run, Result.andThen_ok, Sem.run_pure, g1, g2]
  rfl
theorem gives_callK {o : Oper} {c : Call} {f : FuncId} {xs : List V} {r : A} (ho : o.op = .call c) (h : CI P w0 m0 F0 s a w m ω) (hc : callOf T s c = some (f, xs)) (hS : Sat P f xs r) :
    Gives P o a w fun v w' => ∃ m', CI P w0 m0 F0 s a w' m' ω ∧ ARep m' ω v (r.map L.clos) ∧ ∀ k, k < w.heap.size → w'.heap[k]? = w.heap[k]? := by
  obtain ⟨vs, h1, h2⟩ := callOf_sound ho h hc
  refine (gives_of_callsR h1 (hS.call m w vs ω (CI.none h.goodN h.ok) h2)).mono fun v w' hp => ?_
  obtain ⟨m', ω', hC, hv⟩ := hp
  exact ⟨m', h.grow ⟨hC.keeps.os, hC.keeps.tape, hC.keeps.output, hC.keeps.size, fun k hk => hC.keeps.block k hk owned_none⟩ hC.mle (fun x hx => hC.mold x hx owned_none) hC.ok, hv.map fun v l hl => L.clos_e hl, fun k hk => hC.keeps.block k hk owned_none⟩
end

abbrev tBld : TypeId := 84
set_option maxHeartbeats 2000000 in
/-- 'var b strings.Builder; b.WriteString(strconv.Itoa(len(row)))'. -/
theorem bld_start {w0 : World} {m0 : Mem} {F0 : Home} {Q : Exit → St → Prop} {c : Code} {i1 i2 : Nat} {o1 o2 o3 o4 o5 : Oper} {e : ByteArray} {sz : Nat} {xs : List (List L)} (hl : xs.length ≤ 1048576)
    (h1 : o1.op = .alloc tBld ∧ o1.dst = some 3 ∧ o1.guard = none) (h2 : o2.op = .move (.tmp 0) ∧ o2.dst = some 6 ∧ o2.guard = none)
    (h3 : o3.op = .call { callee := .builtin .len, args := #[.tmp 6], argTypes := #[28] } ∧ o3.dst = some 7 ∧ o3.guard = none)
    (h4 : o4.op = .call { callee := .value (.func 39), args := #[.tmp 7], argTypes := #[3] } ∧ o4.dst = some 8 ∧ o4.guard = none)
    (h5 : o5.op = .call { callee := .value (.func 38), args := #[.tmp 3, .tmp 8], argTypes := #[tBld, 9] } ∧ o5.dst = some 9 ∧ o5.guard = none)
    (H : AWP Tryd.prog w0 m0 F0 c Q ⟨38, [(0, .v (.one (.sl sz xs))), (3, .v (.one (.ptr 3 0)))], [(3, [.ptr 3 0, .byt tB (Lib.itoa xs.length)])], []⟩) :
    AWP Tryd.prog w0 m0 F0 (.seq (.region i1 #[o1] false) (.seq (.region i2 #[o2, o3, o4, o5] false) c)) Q ⟨38, [(2, .v (.one (.str e))), (0, .v (.one (.sl sz xs)))], [], []⟩ := by
  intro a w ⟨m, ω, hC⟩
  refine wp_seq (wp_regionX (l := [o1]) ⟨h1.2.2, ?_⟩)
  -- the new builder
  have hT : tiOk Tryd.prog tBld _ = true := tyOk tBld _ rfl
  obtain ⟨inf, z, g1, g2, g3, _⟩ := (tiFacts hT).zero _ rfl
  have hz : z.cells = #[.pointer none, .slice none 0 0] := by
    have e1 : (Tryd.prog.info? tBld).map (·.zero) = some (some (.agg #[.pointer none, .slice none 0 0])) := by kernel_rfl
    rw [g1] at e1
    have e2 : some z = some (.agg #[.pointer none, .slice none 0 0]) := g2.symm.trans (Option.some.inj e1)
    rw [Option.some.inj e2]
    rfl
  have hrun := run_alloc (P := Tryd.prog) (a := a) (w := w) h1.1 g1 g2
  refine gives_of_run (R := fun v w' => v = .pointer (some ⟨w.heap.size, 0, none⟩) ∧ w' = w.alloc (.cells z.cells tBld (0, 0))) hrun ⟨rfl, rfl⟩ _ _ fun v w1 ⟨hv, hw1⟩ => ?_
  obtain ⟨ω1, hC1, hb1⟩ := hC.newBox 3 (by show 3 < 38; decide) z.cells tBld [.nilp, .nil 1] (by rw [hz]; rfl) fun j l hj => by
    rw [hz]
    match j, hj with
    | 0, hj => simp only [List.getElem?_cons_zero, Option.some.injEq] at hj; subst hj; exact ⟨_, rfl, Rep.nilp⟩
    | 1, hj => simp only [List.getElem?_cons_succ, List.getElem?_cons_zero, Option.some.injEq] at hj; subst hj; exact ⟨_, rfl, Rep.nil _⟩
    | k + 2, hj => simp at hj
  rw [← hw1] at hC1
  have hblk : w1.heap[ω1.box 3]? = some (.cells #[.pointer none, .slice none 0 0] tBld (0, 0)) := by
    rw [hw1, hb1, hz]
    exact heap_alloc_new w _
  clear hrun hw1
  have hC2' := hC1.put (d := 3) (v := v) (x := .v (.one (.ptr 3 0))) (by show 3 < 38; decide) (by rw [hv]; show _ = _; rw [hb1])
  have hC2 : CI Tryd.prog w0 m0 F0 ⟨38, [(3, .v (.one (.ptr 3 0))), (0, .v (.one (.sl sz xs)))], [(3, [.nilp, .nil 1])], []⟩ (a.put (some 3) v) w1 m ω1 := by
    exact hC2'.weaken rfl (allIn_look ⟨rfl, rfl, trivial⟩) (allIn_look ⟨rfl, trivial⟩) (fun t x ht => by cases ht)
  clear hC2' hC1
  rw [h1.2.1]
  refine wp_seq (wp_regionX (l := [o2, o3, o4, o5]) ⟨h2.2.2, ?_⟩)
  -- the row, its length
  obtain ⟨_, k2⟩ := givesA_move (P := Tryd.prog) (T := TT) (o := o2) h2.1 hC2 (y := .v (.one (.sl sz xs))) rfl
  obtain ⟨v2, m2, r2, hC3, a2⟩ := k2 (by simp [plainOp, h2.1])
  refine gives_of_run (R := fun v w' => v = v2 ∧ w' = w1) r2 ⟨rfl, rfl⟩ _ _ fun v' w' ⟨e1, e2⟩ => ?_
  rw [e1, e2]
  clear e1 e2
  rw [h2.2.1]
  have hC4 := hC3.put (d := 6) (by show 6 < 38; decide) a2
  refine ⟨h3.2.2, ?_⟩
  obtain ⟨_, k3⟩ := givesA_len (P := Tryd.prog) (T := TT) (o := o3) h3.1 (tyOk 28 _ rfl) hC4 (l := .sl sz xs) rfl rfl rfl
  obtain ⟨v3, m3, r3, hC5, a3⟩ := k3 (by simp [plainOp, h3.1])
  refine gives_of_run (R := fun v w' => v = v3 ∧ w' = w1) r3 ⟨rfl, rfl⟩ _ _ fun v' w' ⟨e1, e2⟩ => ?_
  rw [e1, e2]
  clear e1 e2
  rw [h3.2.1]
  have hC6 := hC5.put (d := 7) (by show 7 < 38; decide) a3
  -- the numeral
  refine ⟨h4.2.2, ?_⟩
  refine gives_callK (T := TT) h4.1 hC6 (f := 39) (xs := [.one (.int .i64 xs.length)]) rfl (itoa_sat xs.length (by omega) (by omega)) _ _ fun v4 w4 ⟨m4, hC7, a4, hk⟩ => ?_
  rw [h4.2.1]
  have hC8 := hC7.put (d := 8) (by show 8 < 38; decide) a4
  have hlt : ω1.box 3 < w1.heap.size := by
    rcases Nat.lt_or_ge (ω1.box 3) w1.heap.size with h' | h'
    · exact h'
    · rw [Array.getElem?_eq_none h'] at hblk; cases hblk
  have hblk4 := (hk _ hlt).trans hblk
  -- the first write
  refine ⟨h5.2.2, ?_⟩
  have hv4 : v4 = .string (itoaB xs.length) := erep_str' (ω := ω1) a4
  have hrun : ∀ aa : Act, aa.eval (.tmp 3) = .pointer (some ⟨ω1.box 3, 0, none⟩) → aa.eval (.tmp 8) = .string (itoaB xs.length) → (execOp aa.eval o5).run Tryd.prog w4 = (callFunc 38 #[.pointer (some ⟨ω1.box 3, 0, none⟩), .string (itoaB xs.length)]).run Tryd.prog w4 := by
    intro aa q1 q2
    have qf : aa.eval (.func 38) = .func (.func 38) #[] #[] := rfl
    unfold execOp
    simp only [h5.1, qf, resolve, Deferred.ofValue, Sem.run_bind, Sem.run_pure, Result.andThen_ok, invoke, List.map_toArray, List.map_cons, List.map_nil, q1, q2]
    congr 2
  have hsz : (itoaB xs.length).size = (Lib.itoa xs.length).length := by
    show (itoaB xs.length).data.size = _
    rw [← Array.length_toList]
    simp [itoaB]
  have hws := (Any.ws_fresh Tryd.bld166 Tryd.bldX (ω1.box 3) (.slice none 0 0) 0 [] (itoaB xs.length) w4 hblk4 ⟨rfl, .inl ⟨rfl, rfl⟩⟩ (by simp [Value.ownBlock]) (by rw [hsz]; have := Lib.itoa_length_le xs.length (by omega) (by omega); omega))
  have e0 : ([] : List Value) ++ Lib.strCells (itoaB xs.length) = Lib.byteCells (Lib.itoa xs.length) := by simp [strCells_bytes, itoaB]
  rw [e0] at hws
  have hcr := ws_call (R := fun v w' => v = .tuple #[.int .i64 (itoaB xs.length).size, .nilIface] ∧ ∃ v', w'.heap[ω1.box 3]? = some (.cells #[.pointer (some ⟨ω1.box 3, 0, none⟩), v'] tBld (0, 0)) ∧ BytesAt w' tB v' (0 + (itoaB xs.length).size) (Lib.byteCells (Lib.itoa xs.length)) ∧ v'.ownBlock ≠ some (ω1.box 3) ∧ Moved w4 w' (.slice none 0 0) v' ∧ KeptBut (fun k => k = ω1.box 3 ∨ (Value.slice none 0 0).ownBlock = some k) w4 w')
    Tryd.func38 rfl (by kernel_rfl) (hws.mono fun en w' ⟨he, h⟩ => ⟨_, he, rfl, h⟩)
  refine gives_of_callsR (hrun _ ?_ ?_) hcr _ _ fun v5 w5 ⟨hv5, v', k1, k2, k3, k4, k5⟩ => ?_
  · exact hC8.env 3 (.v (.one (.ptr 3 0))) rfl
  · exact erep_str' (ω := ω1) (hC8.env 8 (.v (.one (.str (itoaB xs.length)))) rfl)
  rw [h5.2.1]
  obtain ⟨_, _, _, _, hf3, _⟩ := hC8.box 3 [.nilp, .nil 1] rfl
  obtain ⟨ω', hC9, q2, q3⟩ := bld_after hC8 (id := 3) (ls0 := [.nilp, .nil 1]) rfl hf3 (fun k hk => by cases hk) k1 k2 k3 k4 k5
  have hC10 := hC9.put (d := 9) (by show 9 < 38; decide) (hv5 ▸ arep_ws (m := m4) (ω := ω') _)
  refine H _ _ (Conc.le ⟨m4, ω', hC10⟩ ⟨rfl, allIn_look ⟨rfl, rfl, trivial⟩, allIn_look ⟨rfl, trivial⟩, fun t x ht => by cases ht⟩)
end Go.Bw

namespace Go.Bw
open Go.Proofs
attribute [local go_sem ↓] VOps_nil VOps_cons VOp_callJ VVal_callH VOps_guard GOn_tt GOn_ff GOn_tf GOn_ft GOn_not GOn_none HOn_none HOn_tt HOn_ff HOn_tf HOn_ft HOn_not VHead_nil VHead_cons VHead_guard VVal_move VVal_assign VVal_pickE pickK_true pickK_false VVal_not VVal_neg negK_int VVal_load loadK_fz loadK_ptr loadK_eptr VVal_fieldAddr VVal_field VVal_indexAddr idxK_sl idxK_ref VVal_index indexK_str VVal_extract VVal_binOp binK_one binK_agg VVal_build VVal_buildSlice VVal_makeFunc VVal_slice sliceK_str sliceK_sl sliceK_nil sliceK_ref VVal_slice3 VVal_nilCheck VVal_convert convKk_int convKk_str VVal_len VVal_max VVal_min VOp_assign assignK_int assignK_bool assignK_str assignK_clo assignK_sl assignK_nil assignK_ref assignK_agg assignK_fz assignK_ptr assignK_eptr assignK_any VOp_box VOp_alloc VOp_store storeK_ptr storeK_eptr VOp_buildSlice VOp_append appK_rr appK_rs appK_rn appK_ri appK_nr appK_ns appK_nn appK_ni appStd_eq VOp_copy copyK_ref VOp_clear clearK_ref VOp_cap VOp_eqNil VOp_move VOp_pick VOp_not VOp_neg VOp_load VOp_fieldAddr VOp_field VOp_indexAddr VOp_index VOp_extract VOp_binTmp VOp_binInt VOp_binStr VOp_build VOp_makeFunc VOp_slice VOp_nilCheck VOp_convert VOp_len VOp_max VOp_min mO_some mT_some pk_some pk_none look_cons del_cons
attribute [local go_sem] guardB gOf int_bne beq_true beq_false Bool.not_not gSlot pickK_true pickK_false negK_int loadK_fz loadK_ptr loadK_eptr idxK_sl idxK_ref indexK_str binK_one binK_agg sliceK_str sliceK_sl sliceK_nil sliceK_ref convKk_int convKk_str maxL minL assignK_int assignK_bool assignK_str assignK_clo assignK_sl assignK_nil assignK_ref assignK_agg assignK_fz assignK_ptr assignK_eptr assignK_any nilRow_eq takeRow_eq appended_eq storeK_ptr storeK_eptr store_mk appIn_eq appMk_eq marked_eq ovOut_nil ovOut_cons ovIn_nil ovIn_cons padRow_eq ysC capK_nil capK_ref ioSt_mk outB_nil outR_nil outB outR inB_nil inB_cons inR_nil inR_cons L.kl L.kl0 L.ids L.ids0 Option.getD_some evalO constA mO_some mT_some put_mk putO_some putO_none okD_some okD_none pk_some pk_none look_nil del_nil sput noBox_mk noRow_mk newBox_eq newRow0_eq St.killRow RowC.kill rowMap_mk rowOf ovAll ovAdd ovDel ovGet ovShift dstOf ysOf overlay_nil overlay_nil' overlay A.map V.map L.noPtr L.noPtr0 L.noRow L.noRow0 L.peek L.norm L.flat clos_int clos_bool clos_str clos_sl clos_nil clos_any clos_fz L.clos L.isFz L.kd moveL fieldOff eqCells eqCell eqOp oneOf boolOf intOfA tupOf vOf aggOf isPtrLike isSlice lenKind lenL nL elemTI loadV asV binL intBin intDivL shrL boolBin strBin strAdd boundN partCells fillL placesOf setL chunks repL capsOf capL callOf argsOf frzV_int frzV_bool frzV_str frzV_sl frzV_nil frzV_fz frzV_any frzV_own frzV_clo frzV_ref frzV_eptr frzV_ptr frzRow_nil frzRow_ov frzRs_nil frzRs_cons frzCs_nil frzCs_cons frzO_some frzO_none frzN_int frzN_bool frzN_str frzN_sl frzN_nil frzN_any frzN_own List.map_cons List.map_nil List.cons_append List.nil_append List.append_nil List.length_cons List.length_nil List.length_map List.length_append List.headD_cons List.tail_cons List.getElem?_cons_zero List.getElem?_cons_succ List.drop_zero List.drop_succ_cons List.drop_nil List.take_succ_cons List.take_zero List.take_nil List.take_length List.filter_cons List.filter_nil List.elem_cons List.elem_nil List.all_cons List.all_nil Option.bind_some Option.map_some Option.some.injEq bne_self_eq_false beq_self_eq_true if_true if_false Bool.false_eq_true true_and and_true and_self Nat.zero_add Nat.add_zero Nat.zero_le Int.toNat_natCast Int.toNat_zero Option.isSome_some List.getElem?_toArray decide_true decide_false ge_iff_le gt_iff_lt Bool.not_true Bool.not_false Nat.le_refl Bool.and_true Bool.true_and Bool.and_false Bool.false_and eVal eRow eRow1 eRows eInt1 eInts eCol eCols eTbl eTbls eFK eFKs eCon eCons eSch eRel eInst eChg eChgs szOf getD_map_lt wrap_nat wrap_in List.take_of_length_le frz_eVal frz_eRow1 frz_eInt1 frz_eCol frz_eTbl frz_eFK frz_eCon frz_eRel frz_eChg noOwn_nil noOwn_cons noOwn_append L.isOwn noOwn_eVal noOwn_eRow1 noOwn_eInt1 noOwn_eCol noOwn_eTbl noOwn_eFK noOwn_eCon noOwn_eRel noOwn_eChg convK_2 convK_3 convK_5 convK_12 convK_21 convK_57 convK_155 convK_162 convK_166 TT_2 TT_3 TT_4 TT_5 TT_9 TT_12 TT_13 TT_21 TT_22 TT_23 TT_24 TT_25 TT_26 TT_27 TT_28 TT_38 TT_39 TT_40 TT_41 TT_42 TT_45 TT_46 TT_47 TT_48 TT_49 TT_50 TT_51 TT_52 TT_54 TT_55 TT_56 TT_57 TT_65 TT_66 TT_82 TT_83 TT_84 TT_100 TT_101 TT_118 TT_155 TT_162 TT_166 boolTy_4 eqK_46 eqK_50 eqK_52
attribute [local congr] VOps.congr VHead.congr VOp.congr VVal.congr pk.congr assignK.congr appK.congr appStd.congr copyK.congr clearK.congr storeK.congr loadK.congr idxK.congr sliceK.congr indexK.congr binK.congr convKk.congr
def cmpInts (a b : Int) : Int := if a < b then -1 else if a > b then 1 else 0

theorem compareInts_sat (a b : Int) : Sat Tryd.prog 73 [oI a, oI b] (.v (oI (cmpInts a b))) := by
  refine sat_of_body tyOk Tryd.func73 rfl (by kernel_rfl) ⟨Nat.le_of_ble_eq_true rfl, Nat.le_of_ble_eq_true rfl⟩ fun w0 m0 F0 => ?_
  simp only [Tryd.ntmps73, envOf, Nat.reduceAdd]
  repeat' (first
    | ((first
      | with_reducible refine AWP.regionL tyOk fun K hK => ?_
      | ((with_reducible first | refine GOn.isT ?_ ?_ | refine HOn.isT ?_ ?_ | refine pickK.isT ?_ ?_); focus (first | with_reducible rfl | with_reducible assumption | (simp only [NM, LN]; first | done | with_reducible assumption | omega)))
      | ((with_reducible first | refine GOn.isF ?_ ?_ | refine HOn.isF ?_ ?_ | refine pickK.isF ?_ ?_); focus (first | with_reducible rfl | with_reducible assumption | (simp only [NM, LN]; first | done | with_reducible assumption | omega)))
      | ((with_reducible first | refine GOn.split (fun h => ?_) (fun h => ?_) | refine HOn.split (fun h => ?_) (fun h => ?_) | refine pickK.split (fun h => ?_) (fun h => ?_)) <;> (try simp only [NM] at h))
      | with_reducible refine AWP.drawAll tyOk mixed 6 (by kernel_rfl) fun K hK => ?_) <;> simp -dsimp (disch := (first | omega | (simp only [LN]; omega))) only [go_sem, ↓reduceIte, seval])
    | ((with_reducible refine hK _ ?_); clear hK K)
    | (with_reducible first | refine AWP.seq ?_ | refine thenQ_normal ?_ | refine AWP.block ?_ | refine AWP.skip ?_ | refine AWP.ret ?_ | refine thenQ_ret ?_ | refine blockQ_ret ?_ | refine AWP.exit ?_ | refine thenQ_exit ?_ | refine blockQ_normal ?_ | refine blockQ_exit ?_)
    | refine blockQ_exit_ne rfl ?_
    | (with_reducible refine And.intro (by (first | with_reducible rfl | with_reducible assumption | omega | (simp only [LN]; first | done | with_reducible rfl | omega) | (simp only [NM, LN]; first | done | with_reducible assumption | omega) | (and_intros <;> first | with_reducible assumption | omega | (simp only [LN]; omega)) | fail)) ?_)
    | ((with_reducible refine AWP.condG (T := TT) (b := ?_) ?_ ?_); rotate_left; exact rfl)
    | (with_reducible first | refine CondG.t ?_ | refine CondG.f ?_ | refine CondG.not ?_)
    | ((with_reducible refine CondG.isT ?_ ?_); focus (first | with_reducible rfl | with_reducible assumption | (simp only [NM, LN]; first | done | with_reducible assumption | omega)))
    | ((with_reducible refine CondG.isF ?_ ?_); focus (first | with_reducible rfl | with_reducible assumption | (simp only [NM, LN]; first | done | with_reducible assumption | omega)))
    | ((with_reducible refine CondG.split (fun h => ?_) (fun h => ?_)) <;> (try simp only [NM] at h)))
  all_goals simp -dsimp (disch := (first | omega | (simp only [LN]; omega))) only [retQ, Tryd.results73, resVals, cellRV, resOf, St.rest, St.freeze, RT, go_sem, ↓reduceIte, seval]
  all_goals simp [cmpInts, *]
  all_goals omega

def zV : Val := ⟨0, 0, ByteArray.empty⟩
def keyCell (r : Row) (c : Int) : Val := if 0 ≤ c ∧ c < r.length then r.getD c.toNat zV else zV
def keyOf (pk : List Int) (r : Row) : Row := pk.map (keyCell r)

theorem take_snoc {α : Type} (l : List α) (k : Nat) (h : k < l.length) : l.take (k + 1) = l.take k ++ [l[k]] := by
  rw [List.take_succ_eq_append_getElem h]
theorem getD_lt {α : Type} {l : List α} {i : Nat} (d : α) (h : i < l.length) : l.getD i d = l[i] := by simp [List.getD, h]
theorem keyOf_length (pk : List Int) (r : Row) : (keyOf pk r).length = pk.length := by simp [keyOf]
set_option maxHeartbeats 4000000 in
theorem key_own (t : Tbl) (r : Row) (hpk : t.pk.length ≤ 1099511627776) : SatM Tryd.prog 34 [.agg (eTbl t), .one (eRow r)] [] [] (.v (.one (.ref 4 0 t.pk.length))) [] [(4, ⟨3, (keyOf t.pk r).map eVal, []⟩)] := by
  refine satM_of_body tyOk [] [4] Tryd.func34 rfl (by kernel_rfl) ⟨Nat.le_of_ble_eq_true rfl, Nat.le_of_ble_eq_true rfl⟩ fun w0 m0 F0 => ?_
  simp only [Tryd.ntmps34, envOf, Nat.reduceAdd]
  repeat' (first
    | ((first
      | with_reducible refine AWP.regionL tyOk fun K hK => ?_
      | ((with_reducible first | refine GOn.isT ?_ ?_ | refine HOn.isT ?_ ?_ | refine pickK.isT ?_ ?_); focus (first | with_reducible rfl | with_reducible assumption | (simp only [NM, LN]; first | done | with_reducible assumption | omega)))
      | ((with_reducible first | refine GOn.isF ?_ ?_ | refine HOn.isF ?_ ?_ | refine pickK.isF ?_ ?_); focus (first | with_reducible rfl | with_reducible assumption | (simp only [NM, LN]; first | done | with_reducible assumption | omega)))
      | ((with_reducible first | refine GOn.split (fun h => ?_) (fun h => ?_) | refine HOn.split (fun h => ?_) (fun h => ?_) | refine pickK.split (fun h => ?_) (fun h => ?_)) <;> (try simp only [NM] at h))
      | with_reducible refine AWP.drawAll tyOk mixed 6 (by kernel_rfl) fun K hK => ?_) <;> simp -dsimp (disch := (first | omega | (simp only [LN]; omega))) only [go_sem, ↓reduceIte, seval])
    | ((with_reducible refine hK _ ?_); clear hK K)
    | (with_reducible first | refine AWP.seq ?_ | refine thenQ_normal ?_ | refine AWP.block ?_ | refine AWP.skip ?_ | refine AWP.ret ?_ | refine thenQ_ret ?_ | refine blockQ_ret ?_ | refine AWP.exit ?_ | refine thenQ_exit ?_ | refine blockQ_normal ?_ | refine blockQ_exit ?_)
    | refine blockQ_exit_ne rfl ?_
    | (with_reducible refine And.intro (by (first | with_reducible rfl | with_reducible assumption | omega | (simp only [LN]; first | done | with_reducible rfl | omega) | (simp only [NM, LN]; first | done | with_reducible assumption | omega) | (and_intros <;> first | with_reducible assumption | omega | (simp only [LN]; omega)) | fail)) ?_)
    | ((with_reducible refine AWP.condG (T := TT) (b := ?_) ?_ ?_); rotate_left; exact rfl)
    | (with_reducible first | refine CondG.t ?_ | refine CondG.f ?_ | refine CondG.not ?_)
    | ((with_reducible refine CondG.isT ?_ ?_); focus (first | with_reducible rfl | with_reducible assumption | (simp only [NM, LN]; first | done | with_reducible assumption | omega)))
    | ((with_reducible refine CondG.isF ?_ ?_); focus (first | with_reducible rfl | with_reducible assumption | (simp only [NM, LN]; first | done | with_reducible assumption | omega)))
    | ((with_reducible refine CondG.split (fun h => ?_) (fun h => ?_)) <;> (try simp only [NM] at h)))
  refine AWP.loop (ι := {k : Nat // k ≤ t.pk.length}) (fun k => ⟨35, [(1, .v (.one (eRow r))), (5, .v (.one (.ref 5 0 k.1))), (10, .v (.one (eInts t.pk))), (11, .v (oI t.pk.length)), (12, .v (oI k.1))], [], [(5, ⟨3, (keyOf (t.pk.take k.1) r).map eVal, []⟩)]⟩) (fun k => t.pk.length - k.1) ⟨0, Nat.zero_le _⟩ ?_ fun ⟨k, hkl⟩ => ?_
  · exact St.le_mk (by simp only [LE, EN, Nat.reduceEqDiff, reduceIte, Nat.reduceSub, keyOf]) (by simp only [LE, EN, Nat.reduceEqDiff, reduceIte, Nat.reduceSub, keyOf]) (by simp only [LE, EN, Nat.reduceEqDiff, reduceIte, Nat.reduceSub, keyOf])
  have hlen : (keyOf (t.pk.take k) r).length = k := by rw [keyOf_length]; simp; omega
  repeat' (first
    | ((first
      | with_reducible refine AWP.regionL tyOk fun K hK => ?_
      | ((with_reducible first | refine GOn.isT ?_ ?_ | refine HOn.isT ?_ ?_ | refine pickK.isT ?_ ?_); focus (first | with_reducible rfl | with_reducible assumption | (simp only [NM, LN]; first | done | with_reducible assumption | omega)))
      | ((with_reducible first | refine GOn.isF ?_ ?_ | refine HOn.isF ?_ ?_ | refine pickK.isF ?_ ?_); focus (first | with_reducible rfl | with_reducible assumption | (simp only [NM, LN]; first | done | with_reducible assumption | omega)))
      | ((with_reducible first | refine GOn.split (fun h => ?_) (fun h => ?_) | refine HOn.split (fun h => ?_) (fun h => ?_) | refine pickK.split (fun h => ?_) (fun h => ?_)) <;> (try simp only [NM] at h))
      | with_reducible refine AWP.drawAll tyOk mixed 6 (by kernel_rfl) fun K hK => ?_) <;> simp -dsimp (disch := (first | omega | (simp only [LN]; omega))) only [go_sem, ↓reduceIte, seval, hlen])
    | ((with_reducible refine hK _ ?_); clear hK K)
    | (with_reducible first | refine AWP.seq ?_ | refine thenQ_normal ?_ | refine AWP.block ?_ | refine AWP.skip ?_ | refine AWP.ret ?_ | refine thenQ_ret ?_ | refine blockQ_ret ?_ | refine AWP.exit ?_ | refine thenQ_exit ?_ | refine blockQ_normal ?_ | refine blockQ_exit ?_)
    | refine blockQ_exit_ne rfl ?_
    | (with_reducible refine And.intro (by (first | with_reducible rfl | with_reducible assumption | omega | (simp only [LN]; first | done | with_reducible rfl | omega) | (simp only [NM, LN]; first | done | with_reducible assumption | omega) | (and_intros <;> first | with_reducible assumption | omega | (simp only [LN]; omega)) | fail)) ?_)
    | ((with_reducible refine AWP.condG (T := TT) (b := ?_) ?_ ?_); rotate_left; exact rfl)
    | (with_reducible first | refine CondG.t ?_ | refine CondG.f ?_ | refine CondG.not ?_)
    | ((with_reducible refine CondG.isT ?_ ?_); focus (first | with_reducible rfl | with_reducible assumption | (simp only [NM, LN]; first | done | with_reducible assumption | omega)))
    | ((with_reducible refine CondG.isF ?_ ?_); focus (first | with_reducible rfl | with_reducible assumption | (simp only [NM, LN]; first | done | with_reducible assumption | omega)))
    | ((with_reducible refine CondG.split (fun h => ?_) (fun h => ?_)) <;> (try simp only [NM] at h)))
  all_goals first
    | (refine ⟨⟨k + 1, by omega⟩, by simp only; omega, ?_⟩
       have hk : k < t.pk.length := by omega
       have e : keyOf (t.pk.take (k + 1)) r = keyOf (t.pk.take k) r ++ [keyCell r t.pk[k]] := by
         unfold keyOf
         rw [take_snoc _ _ hk, List.map_append]
         rfl
       first
         | (have h2 : t.pk[k].toNat < r.length := by omega
            have e2 : keyCell r t.pk[k] = r[t.pk[k].toNat]'h2 := by
              rw [keyCell, if_pos ⟨by omega, by omega⟩]
              exact getD_lt _ h2
            exact St.le_mk (by simp only [LE, EN, Nat.reduceEqDiff, reduceIte, Nat.reduceSub, e, e2]) (by simp only [LE, EN, Nat.reduceEqDiff, reduceIte, Nat.reduceSub, e, e2]) (by simp only [LE, EN, Nat.reduceEqDiff, reduceIte, Nat.reduceSub, e, e2])
            )
         | (have e2 : keyCell r t.pk[k] = zV := by rw [keyCell, if_neg (by omega)]
            exact St.le_mk (by simp only [LE, EN, Nat.reduceEqDiff, reduceIte, Nat.reduceSub, e, e2, zV]) (by simp only [LE, EN, Nat.reduceEqDiff, reduceIte, Nat.reduceSub, e, e2, zV]) (by simp only [LE, EN, Nat.reduceEqDiff, reduceIte, Nat.reduceSub, e, e2, zV])
            )
         )
    | (have hk : k = t.pk.length := by omega
       simp -dsimp (disch := (first | omega | (simp only [LN]; omega))) only [retQ, Tryd.results34, resVals, cellRV, resOf, St.rest, St.freeze, RT, go_sem, ↓reduceIte, seval]
       subst hk
       rfl)
theorem key_sat (t : Tbl) (r : Row) (hpk : t.pk.length ≤ 1099511627776) : Sat Tryd.prog 34 [.agg (eTbl t), .one (eRow r)] (.v (.one (eRow (keyOf t.pk r)))) :=
  (key_own t r hpk).frz (by
    have hl := keyOf_length t.pk r
    simp -dsimp (disch := (first | omega | (simp only [LN]; omega))) only [go_sem, ↓reduceIte, seval, topL_ref, St.rest, roots, dropL_nil, eRow, keyOf_length]
    )

def bId : ByteArray := ⟨#[105, 100]⟩
def bName : ByteArray := ⟨#[110, 97, 109, 101]⟩
def bPeople : ByteArray := ⟨#[112, 101, 111, 112, 108, 101]⟩
def peopleT : Tbl := ⟨bPeople, [⟨bId, 1, false⟩, ⟨bName, 3, true⟩], [0]⟩

theorem people_sat : Sat Tryd.prog 30 [] (.v (.agg (eTbl peopleT))) := by
  refine sat_of_body tyOk Tryd.func30 rfl (by kernel_rfl) ⟨Nat.le_of_ble_eq_true rfl, Nat.le_of_ble_eq_true rfl⟩ fun w0 m0 F0 => ?_
  simp only [Tryd.ntmps30, envOf, Nat.reduceAdd]
  repeat' (first
    | ((first
      | with_reducible refine AWP.regionL tyOk fun K hK => ?_
      | ((with_reducible first | refine GOn.isT ?_ ?_ | refine HOn.isT ?_ ?_ | refine pickK.isT ?_ ?_); focus (first | with_reducible rfl | with_reducible assumption | (simp only [NM, LN]; first | done | with_reducible assumption | omega)))
      | ((with_reducible first | refine GOn.isF ?_ ?_ | refine HOn.isF ?_ ?_ | refine pickK.isF ?_ ?_); focus (first | with_reducible rfl | with_reducible assumption | (simp only [NM, LN]; first | done | with_reducible assumption | omega)))
      | ((with_reducible first | refine GOn.split (fun h => ?_) (fun h => ?_) | refine HOn.split (fun h => ?_) (fun h => ?_) | refine pickK.split (fun h => ?_) (fun h => ?_)) <;> (try simp only [NM] at h))
      | with_reducible refine AWP.drawAll tyOk mixed 6 (by kernel_rfl) fun K hK => ?_) <;> simp -dsimp (disch := (first | omega | (simp only [LN]; omega))) only [go_sem, ↓reduceIte, seval])
    | ((with_reducible refine hK _ ?_); clear hK K)
    | (with_reducible first | refine AWP.seq ?_ | refine thenQ_normal ?_ | refine AWP.block ?_ | refine AWP.skip ?_ | refine AWP.ret ?_ | refine thenQ_ret ?_ | refine blockQ_ret ?_ | refine AWP.exit ?_ | refine thenQ_exit ?_ | refine blockQ_normal ?_ | refine blockQ_exit ?_)
    | refine blockQ_exit_ne rfl ?_
    | (with_reducible refine And.intro (by (first | with_reducible rfl | with_reducible assumption | omega | (simp only [LN]; first | done | with_reducible rfl | omega) | (simp only [NM, LN]; first | done | with_reducible assumption | omega) | (and_intros <;> first | with_reducible assumption | omega | (simp only [LN]; omega)) | fail)) ?_)
    | ((with_reducible refine AWP.condG (T := TT) (b := ?_) ?_ ?_); rotate_left; exact rfl)
    | (with_reducible first | refine CondG.t ?_ | refine CondG.f ?_ | refine CondG.not ?_)
    | ((with_reducible refine CondG.isT ?_ ?_); focus (first | with_reducible rfl | with_reducible assumption | (simp only [NM, LN]; first | done | with_reducible assumption | omega)))
    | ((with_reducible refine CondG.isF ?_ ?_); focus (first | with_reducible rfl | with_reducible assumption | (simp only [NM, LN]; first | done | with_reducible assumption | omega)))
    | ((with_reducible refine CondG.split (fun h => ?_) (fun h => ?_)) <;> (try simp only [NM] at h)))
  simp -dsimp (disch := (first | omega | (simp only [LN]; omega))) only [retQ, Tryd.results30, resVals, cellRV, resOf, St.rest, St.freeze, RT, go_sem, ↓reduceIte, seval]
  first | done | rfl
theorem integer_sat (n : Int) : Sat Tryd.prog 31 [oI n] (.v (.agg (eVal ⟨1, n, ByteArray.empty⟩))) := by
  refine sat_of_body tyOk Tryd.func31 rfl (by kernel_rfl) ⟨Nat.le_of_ble_eq_true rfl, Nat.le_of_ble_eq_true rfl⟩ fun w0 m0 F0 => ?_
  simp only [Tryd.ntmps31, envOf, Nat.reduceAdd]
  repeat' (first
    | ((first
      | with_reducible refine AWP.regionL tyOk fun K hK => ?_
      | ((with_reducible first | refine GOn.isT ?_ ?_ | refine HOn.isT ?_ ?_ | refine pickK.isT ?_ ?_); focus (first | with_reducible rfl | with_reducible assumption | (simp only [NM, LN]; first | done | with_reducible assumption | omega)))
      | ((with_reducible first | refine GOn.isF ?_ ?_ | refine HOn.isF ?_ ?_ | refine pickK.isF ?_ ?_); focus (first | with_reducible rfl | with_reducible assumption | (simp only [NM, LN]; first | done | with_reducible assumption | omega)))
      | ((with_reducible first | refine GOn.split (fun h => ?_) (fun h => ?_) | refine HOn.split (fun h => ?_) (fun h => ?_) | refine pickK.split (fun h => ?_) (fun h => ?_)) <;> (try simp only [NM] at h))
      | with_reducible refine AWP.drawAll tyOk mixed 6 (by kernel_rfl) fun K hK => ?_) <;> simp -dsimp (disch := (first | omega | (simp only [LN]; omega))) only [go_sem, ↓reduceIte, seval])
    | ((with_reducible refine hK _ ?_); clear hK K)
    | (with_reducible first | refine AWP.seq ?_ | refine thenQ_normal ?_ | refine AWP.block ?_ | refine AWP.skip ?_ | refine AWP.ret ?_ | refine thenQ_ret ?_ | refine blockQ_ret ?_ | refine AWP.exit ?_ | refine thenQ_exit ?_ | refine blockQ_normal ?_ | refine blockQ_exit ?_)
    | refine blockQ_exit_ne rfl ?_
    | (with_reducible refine And.intro (by (first | with_reducible rfl | with_reducible assumption | omega | (simp only [LN]; first | done | with_reducible rfl | omega) | (simp only [NM, LN]; first | done | with_reducible assumption | omega) | (and_intros <;> first | with_reducible assumption | omega | (simp only [LN]; omega)) | fail)) ?_)
    | ((with_reducible refine AWP.condG (T := TT) (b := ?_) ?_ ?_); rotate_left; exact rfl)
    | (with_reducible first | refine CondG.t ?_ | refine CondG.f ?_ | refine CondG.not ?_)
    | ((with_reducible refine CondG.isT ?_ ?_); focus (first | with_reducible rfl | with_reducible assumption | (simp only [NM, LN]; first | done | with_reducible assumption | omega)))
    | ((with_reducible refine CondG.isF ?_ ?_); focus (first | with_reducible rfl | with_reducible assumption | (simp only [NM, LN]; first | done | with_reducible assumption | omega)))
    | ((with_reducible refine CondG.split (fun h => ?_) (fun h => ?_)) <;> (try simp only [NM] at h)))
  simp -dsimp (disch := (first | omega | (simp only [LN]; omega))) only [retQ, Tryd.results31, resVals, cellRV, resOf, St.rest, St.freeze, RT, go_sem, ↓reduceIte, seval]

/-- The text of a value. -/
def cellB (v : Val) : ByteArray := (((((⟨#[124]⟩ : ByteArray) ++ itoaB v.kind ++ ⟨#[44]⟩) ++ itoaB v.int ++ ⟨#[44]⟩) ++ itoaB (v.text.size : Int)) ++ ⟨#[44]⟩) ++ v.text
/-- What a row is written as, by its first k values. -/
def encL (r : Row) (k : Nat) : List UInt8 := Lib.itoa r.length ++ ((r.take k).map fun v => (cellB v).data.toList).flatten
def encB (r : Row) : ByteArray := ⟨(encL r r.length).toArray⟩
structure ValFits (v : Val) : Prop where
  k0 : -9223372036854775808 ≤ v.kind
  k1 : v.kind ≤ 9223372036854775807
  i0 : -9223372036854775808 ≤ v.int
  i1 : v.int ≤ 9223372036854775807
  t : v.text.size ≤ 1048576
structure RowFits (r : Row) : Prop where
  n : r.length ≤ 1048576
  v : ∀ v ∈ r, ValFits v
theorem itoaB_size (n : Int) (h0 : -9223372036854775808 ≤ n) (h1 : n ≤ 9223372036854775807) : (itoaB n).size ≤ 21 := by
  have e : (itoaB n).size = (Lib.itoa n).length := by
    show (itoaB n).data.size = _
    rw [← Array.length_toList]
    simp [itoaB]
  rw [e]
  exact Lib.itoa_length_le n h0 h1
theorem cellB_size {v : Val} (h : ValFits v) : (cellB v).size ≤ 1048643 := by
  have h1 := itoaB_size v.kind h.k0 h.k1
  have h2 := itoaB_size v.int h.i0 h.i1
  have h3 := itoaB_size (v.text.size : Int) (by omega) (by have := h.t; omega)
  have h4 := h.t
  have b1 : (⟨#[124]⟩ : ByteArray).size = 1 := rfl
  have b2 : (⟨#[44]⟩ : ByteArray).size = 1 := rfl
  simp only [cellB, ByteArray.size_append, b1, b2]
  omega
theorem encL_zero (r : Row) : encL r 0 = Lib.itoa r.length := by simp [encL]
theorem encL_succ {r : Row} {k : Nat} (h : k < r.length) : encL r (k + 1) = encL r k ++ (cellB r[k]).data.toList := by
  rw [encL, take_snoc r k h, List.map_append, List.flatten_append, encL]
  simp only [List.map_cons, List.map_nil, List.flatten_cons, List.flatten_nil, List.append_nil, List.append_assoc]
theorem encL_le {r : Row} (h : RowFits r) : ∀ k, k ≤ r.length → (encL r k).length ≤ 21 + k * 1048643
  | 0, _ => by
    rw [encL_zero]
    have := Lib.itoa_length_le r.length (by omega) (by have := h.n; omega)
    omega
  | k + 1, hk => by
    rw [encL_succ (by omega), List.length_append]
    have h1 := encL_le h k (by omega)
    have h2 := cellB_size (h.v r[k] (List.getElem_mem _))
    have h3 : (cellB r[k]).data.toList.length = (cellB r[k]).size := Array.length_toList
    omega
theorem itoa_ne (n : Int) : Lib.itoa n ≠ [] := by
  unfold Lib.itoa
  split
  · simp
  · unfold Lib.decDigits
    split <;> simp
theorem encL_ne (r : Row) (k : Nat) : encL r k ≠ [] := by
  unfold encL
  intro h
  exact itoa_ne _ (List.append_eq_nil_iff.1 h).1
theorem okIds_ptr (σb σr : Ids) (i o : Nat) : okIds σb σr (.ptr i o) = (look σb i).isSome := rfl
theorem okIds_byt (σb σr : Ids) (t : TypeId) (l : List UInt8) : okIds σb σr (.byt t l) = true := rfl
set_option maxHeartbeats 8000000 in
theorem encode_sat (r : Row) (hr : RowFits r) : Sat Tryd.prog 14 [.one (eRow r)] (.v (.one (.str (encB r)))) := by
  have hn := hr.n
  refine sat_of_body tyOk Tryd.func14 rfl (by kernel_rfl) ⟨Nat.le_of_ble_eq_true rfl, Nat.le_of_ble_eq_true rfl⟩ fun w0 m0 F0 => ?_
  simp only [Tryd.ntmps14, envOf, Nat.reduceAdd]
  refine AWP.seq ?_
  refine AWP.regionL tyOk fun K hK => ?_
  simp -dsimp (disch := (first | omega | (simp only [LN]; omega))) only [go_sem, ↓reduceIte, seval]
  refine hK _ (thenQ_normal ?_)
  clear hK K
  refine bld_start (by simpa using hn) ⟨rfl, rfl, rfl⟩ ⟨rfl, rfl, rfl⟩ ⟨rfl, rfl, rfl⟩ ⟨rfl, rfl, rfl⟩ ⟨rfl, rfl, rfl⟩ ?_
  repeat' (first
    | ((first
      | with_reducible refine AWP.regionL tyOk fun K hK => ?_
      | ((with_reducible first | refine GOn.isT ?_ ?_ | refine HOn.isT ?_ ?_ | refine pickK.isT ?_ ?_); focus (first | with_reducible rfl | with_reducible assumption | (simp only [NM, LN]; first | done | with_reducible assumption | omega)))
      | ((with_reducible first | refine GOn.isF ?_ ?_ | refine HOn.isF ?_ ?_ | refine pickK.isF ?_ ?_); focus (first | with_reducible rfl | with_reducible assumption | (simp only [NM, LN]; first | done | with_reducible assumption | omega)))
      | ((with_reducible first | refine GOn.split (fun h => ?_) (fun h => ?_) | refine HOn.split (fun h => ?_) (fun h => ?_) | refine pickK.split (fun h => ?_) (fun h => ?_)) <;> (try simp only [NM] at h))) <;> simp -dsimp (disch := (first | omega | (simp only [LN]; omega))) only [go_sem, ↓reduceIte, seval])
    | ((with_reducible refine hK _ ?_); clear hK K)
    | (with_reducible first | refine AWP.seq ?_ | refine thenQ_normal ?_ | refine AWP.block ?_ | refine AWP.skip ?_ | refine AWP.ret ?_ | refine thenQ_ret ?_ | refine blockQ_ret ?_ | refine AWP.exit ?_ | refine thenQ_exit ?_ | refine blockQ_normal ?_ | refine blockQ_exit ?_)
    | refine blockQ_exit_ne rfl ?_
    | (with_reducible refine And.intro (by (first | with_reducible rfl | with_reducible assumption | omega | (simp only [LN]; first | done | with_reducible rfl | omega) | (simp only [NM, LN]; first | done | with_reducible assumption | omega) | (and_intros <;> first | with_reducible assumption | omega | (simp only [LN]; omega)) | fail)) ?_)
    | ((with_reducible refine AWP.condG (T := TT) (b := ?_) ?_ ?_); rotate_left; exact rfl)
    | (with_reducible first | refine CondG.t ?_ | refine CondG.f ?_ | refine CondG.not ?_)
    | ((with_reducible refine CondG.isT ?_ ?_); focus (first | with_reducible rfl | with_reducible assumption | (simp only [NM, LN]; first | done | with_reducible assumption | omega)))
    | ((with_reducible refine CondG.isF ?_ ?_); focus (first | with_reducible rfl | with_reducible assumption | (simp only [NM, LN]; first | done | with_reducible assumption | omega)))
    | ((with_reducible refine CondG.split (fun h => ?_) (fun h => ?_)) <;> (try simp only [NM] at h)))
  refine AWP.loop (ι := {k : Nat // k ≤ r.length}) (fun k => ⟨38, [(3, .v (.one (.ptr 3 0))), (10, .v (.one (eRow r))), (11, .v (oI r.length)), (12, .v (oI k.1))], [(3, [.ptr 3 0, .byt tB (encL r k.1)])], []⟩) (fun k => r.length - k.1) ⟨0, Nat.zero_le _⟩ ?_ fun ⟨k, hkl⟩ => ?_
  · exact St.le_mk (by simp only [LE, EN, Nat.reduceEqDiff, reduceIte, Nat.reduceSub, encL_zero]) (by simp only [LE, EN, Nat.reduceEqDiff, reduceIte, Nat.reduceSub, encL_zero]) (by simp only [LE, EN, Nat.reduceEqDiff, reduceIte, Nat.reduceSub, encL_zero])
  simp only
  rcases Nat.lt_or_ge k r.length with hc | hc
  · have hv := hr.v r[k] (List.getElem_mem _)
    have hs := cellB_size hv
    have hL := encL_le hr k hkl
    have ws := writeString_satM (encL r k) (cellB r[k]) (by omega)
    have es := encL_succ hc
    have i1 := itoa_sat r[k].kind hv.k0 hv.k1
    have i2 := itoa_sat r[k].int hv.i0 hv.i1
    have i3 := itoa_sat (r[k].text.size : Int) (by omega) (by have := hv.t; omega)
    have z1 := itoaB_size r[k].kind hv.k0 hv.k1
    have z2 := itoaB_size r[k].int hv.i0 hv.i1
    have z3 := itoaB_size (r[k].text.size : Int) (by omega) (by have := hv.t; omega)
    have z4 := hv.t
    have b1 : (⟨#[124]⟩ : ByteArray).size = 1 := rfl
    have b2 : (⟨#[44]⟩ : ByteArray).size = 1 := rfl
    unfold cellB at ws
    repeat' (first
      | ((first
        | ((fail_if_success (with_reducible refine AWP.isRegion 6 ?_)); (with_reducible refine AWP.regionL tyOk fun K hK => ?_))
        | ((with_reducible first | refine GOn.isT ?_ ?_ | refine HOn.isT ?_ ?_ | refine pickK.isT ?_ ?_); focus (first | with_reducible rfl | with_reducible assumption | (simp only [NM, LN]; first | done | with_reducible assumption | omega)))
        | ((with_reducible first | refine GOn.isF ?_ ?_ | refine HOn.isF ?_ ?_ | refine pickK.isF ?_ ?_); focus (first | with_reducible rfl | with_reducible assumption | (simp only [NM, LN]; first | done | with_reducible assumption | omega)))
        | ((with_reducible first | refine GOn.split (fun h => ?_) (fun h => ?_) | refine HOn.split (fun h => ?_) (fun h => ?_) | refine pickK.split (fun h => ?_) (fun h => ?_)) <;> (try simp only [NM] at h))) <;> simp -dsimp (disch := (first | omega | (simp only [LN]; omega))) only [go_sem, ↓reduceIte, seval])
      | ((with_reducible refine hK _ ?_); clear hK K)
      | (with_reducible first | refine AWP.seq ?_ | refine thenQ_normal ?_ | refine AWP.block ?_ | refine AWP.skip ?_ | refine AWP.ret ?_ | refine thenQ_ret ?_ | refine blockQ_ret ?_ | refine AWP.exit ?_ | refine thenQ_exit ?_ | refine blockQ_normal ?_ | refine blockQ_exit ?_)
      | refine blockQ_exit_ne rfl ?_
      | (with_reducible refine And.intro (by (first | with_reducible rfl | with_reducible assumption | omega | (simp only [LN]; first | done | with_reducible rfl | omega) | (simp only [NM, LN]; first | done | with_reducible assumption | omega) | (and_intros <;> first | with_reducible assumption | omega | (simp only [LN]; omega)) | fail)) ?_)
      | ((with_reducible refine AWP.condG (T := TT) (b := ?_) ?_ ?_); rotate_left; exact rfl)
      | (with_reducible first | refine CondG.t ?_ | refine CondG.f ?_ | refine CondG.not ?_)
      | ((with_reducible refine CondG.isT ?_ ?_); focus (first | with_reducible rfl | with_reducible assumption | (simp only [NM, LN]; first | done | with_reducible assumption | omega)))
      | ((with_reducible refine CondG.isF ?_ ?_); focus (first | with_reducible rfl | with_reducible assumption | (simp only [NM, LN]; first | done | with_reducible assumption | omega)))
      | ((with_reducible refine CondG.split (fun h => ?_) (fun h => ?_)) <;> (try simp only [NM] at h)))
    refine AWP.drawX tyOk mixed [(0, 2), (5, 2), (10, 3), (16, 2)] [(2, [(3, 2)], [(5, 2), (10, 3), (16, 2)]), (7, [(8, 2)], [(3, 2), (10, 3), (16, 2)]), (13, [(14, 2), (18, 1)], [(3, 2), (8, 2), (16, 2)]), (19, [], [])] [2, 7, 13, 19] 8 (by decide) (by kernel_rfl) (by kernel_rfl) (by kernel_rfl) (by kernel_rfl) fun K hK => ?_
    simp only [segx_nil, segx_cons, segs, List.drop_succ_cons, List.drop_zero, List.take_succ_cons, List.take_zero, List.getElem?_cons_zero, List.getElem?_cons_succ, List.cons_append, List.nil_append, List.append_nil] at hK ⊢
    simp -dsimp (disch := (first | omega | (simp only [LN]; omega))) only [go_sem, ↓reduceIte, seval, ByteArray.size_append, b1, b2]
    repeat' (first
      | ((first
        | with_reducible refine AWP.regionL tyOk fun K hK => ?_
        | ((with_reducible first | refine GOn.isT ?_ ?_ | refine HOn.isT ?_ ?_ | refine pickK.isT ?_ ?_); focus (first | with_reducible rfl | with_reducible assumption | (simp only [NM, LN]; first | done | with_reducible assumption | omega)))
        | ((with_reducible first | refine GOn.isF ?_ ?_ | refine HOn.isF ?_ ?_ | refine pickK.isF ?_ ?_); focus (first | with_reducible rfl | with_reducible assumption | (simp only [NM, LN]; first | done | with_reducible assumption | omega)))
        | ((with_reducible first | refine GOn.split (fun h => ?_) (fun h => ?_) | refine HOn.split (fun h => ?_) (fun h => ?_) | refine pickK.split (fun h => ?_) (fun h => ?_)) <;> (try simp only [NM] at h))
        | ((with_reducible refine CallJ.is ?_); refine CallJ.io [(1000, 3)] [] [(1000, 3)] [] [] [] [3, 3] [] (ws) rfl ⟨rfl, rfl, rfl, rfl⟩ ?_ ?_ ?_; (focus (simp -dsimp (disch := (first | omega | (simp only [LN]; omega))) only [go_sem, ↓reduceIte, seval, ByteArray.size_append, b1, b2, okIds_ptr, okIds_byt, dropL_nil, dropL_nil', dropL_cons]; done)); (focus (simp -dsimp (disch := (first | omega | (simp only [LN]; omega))) only [go_sem, ↓reduceIte, seval, ByteArray.size_append, b1, b2, okIds_ptr, okIds_byt, dropL_nil, dropL_nil', dropL_cons]; done)))
        | ((with_reducible refine CallJ.is ?_); (first | refine CallJ.pure (i1) ?_ | refine CallJ.pure (i2) ?_ | refine CallJ.pure (i3) ?_ | ((apply CallJ.lentI); (focus (simp -dsimp (disch := (first | omega | (simp only [LN]; omega))) only [go_sem, ↓reduceIte, seval, ByteArray.size_append, b1, b2, okIds_ptr, okIds_byt, dropL_nil, dropL_nil', dropL_cons]; rfl)); (focus (first | exact (i1) | exact (i2) | exact (i3))))))
        | ((with_reducible refine CallH.is ?_); (first | refine CallH.intro (i1) ?_ | refine CallH.intro (i2) ?_ | refine CallH.intro (i3) ?_))) <;> simp -dsimp (disch := (first | omega | (simp only [LN]; omega))) only [go_sem, ↓reduceIte, seval, ByteArray.size_append, b1, b2, okIds_ptr, okIds_byt, dropL_nil, dropL_nil', dropL_cons])
      | ((with_reducible refine hK _ ?_); clear hK K)
      | (with_reducible first | refine AWP.seq ?_ | refine thenQ_normal ?_ | refine AWP.block ?_ | refine AWP.skip ?_ | refine AWP.ret ?_ | refine thenQ_ret ?_ | refine blockQ_ret ?_ | refine AWP.exit ?_ | refine thenQ_exit ?_ | refine blockQ_normal ?_ | refine blockQ_exit ?_)
      | refine blockQ_exit_ne rfl ?_
      | ((with_reducible refine VCy.intro fun K0 hK0 => ?_))
      | ((with_reducible refine VCy.fin ?_); (refine hK0 _ ?_); clear hK0 K0)
      | (with_reducible first | refine VCy.quiet ?_ | refine VCy.none ?_)
      | ((with_reducible first | refine VCy.some fun K hK => ?_ | refine VCy.step fun K hK => ?_); simp -dsimp (disch := (first | omega | (simp only [LN]; omega))) only [go_sem, ↓reduceIte, seval, ByteArray.size_append, b1, b2, okIds_ptr, okIds_byt, dropL_nil, dropL_nil', dropL_cons])
      | ((with_reducible refine VCy.keep ?_ ?_); focus ((simp -dsimp (disch := (first | omega | (simp only [LN]; omega))) only [go_sem, ↓reduceIte, seval, Stable_cons, Stable_nil, sameA_some, sameA_none, ByteArray.size_append, b1, b2, okIds_ptr, okIds_byt, dropL_nil, dropL_nil', dropL_cons]); first | done | with_reducible assumption | omega | (repeat' with_reducible refine And.intro ?_ ?_) <;> first | with_reducible rfl | with_reducible assumption | omega))
      | (with_reducible refine And.intro (by (first | with_reducible rfl | with_reducible assumption | omega | (simp only [LN]; first | done | with_reducible rfl | omega) | (simp only [NM, LN]; first | done | with_reducible assumption | omega) | (and_intros <;> first | with_reducible assumption | omega | (simp only [LN]; omega)) | fail)) ?_)
      | ((with_reducible refine AWP.condG (T := TT) (b := ?_) ?_ ?_); rotate_left; exact rfl)
      | (with_reducible first | refine CondG.t ?_ | refine CondG.f ?_ | refine CondG.not ?_)
      | ((with_reducible refine CondG.isT ?_ ?_); focus (first | with_reducible rfl | with_reducible assumption | (simp only [NM, LN]; first | done | with_reducible assumption | omega)))
      | ((with_reducible refine CondG.isF ?_ ?_); focus (first | with_reducible rfl | with_reducible assumption | (simp only [NM, LN]; first | done | with_reducible assumption | omega)))
      | ((with_reducible refine CondG.split (fun h => ?_) (fun h => ?_)) <;> (try simp only [NM] at h)))
    refine ⟨⟨k + 1, by omega⟩, by simp only; omega, ?_⟩
    have ef : cellB r[k] = (((((⟨#[124]⟩ : ByteArray) ++ itoaB r[k].kind ++ ⟨#[44]⟩) ++ itoaB r[k].int ++ ⟨#[44]⟩) ++ itoaB (r[k].text.size : Int)) ++ ⟨#[44]⟩) ++ r[k].text := rfl
    rw [← ef]
    exact St.le_mk (by simp only [LE, EN, Nat.reduceEqDiff, reduceIte, Nat.reduceSub, es]) (by simp only [LE, EN, Nat.reduceEqDiff, reduceIte, Nat.reduceSub, es]) (by simp only [LE, EN, Nat.reduceEqDiff, reduceIte, Nat.reduceSub, es])
  · have hk : k = r.length := by omega
    subst hk
    repeat' (first
      | ((first
        | with_reducible refine AWP.regionL tyOk fun K hK => ?_
        | ((with_reducible first | refine GOn.isT ?_ ?_ | refine HOn.isT ?_ ?_ | refine pickK.isT ?_ ?_); focus (first | with_reducible rfl | with_reducible assumption | (simp only [NM, LN]; first | done | with_reducible assumption | omega)))
        | ((with_reducible first | refine GOn.isF ?_ ?_ | refine HOn.isF ?_ ?_ | refine pickK.isF ?_ ?_); focus (first | with_reducible rfl | with_reducible assumption | (simp only [NM, LN]; first | done | with_reducible assumption | omega)))
        | ((with_reducible first | refine GOn.split (fun h => ?_) (fun h => ?_) | refine HOn.split (fun h => ?_) (fun h => ?_) | refine pickK.split (fun h => ?_) (fun h => ?_)) <;> (try simp only [NM] at h))
        | ((with_reducible refine CallJ.is ?_); refine CallJ.io [(1000, 3)] [] [] [] [3] [] [3] [] (string_satM (encL r r.length) (encL_ne r r.length)) rfl ⟨rfl, rfl, rfl, rfl⟩ ?_ ?_ ?_; (focus (simp -dsimp (disch := (first | omega | (simp only [LN]; omega))) only [go_sem, ↓reduceIte, seval, okIds_ptr, okIds_byt, dropL_nil, dropL_nil', dropL_cons]; done)); (focus (simp -dsimp (disch := (first | omega | (simp only [LN]; omega))) only [go_sem, ↓reduceIte, seval, okIds_ptr, okIds_byt, dropL_nil, dropL_nil', dropL_cons]; done)))) <;> simp -dsimp (disch := (first | omega | (simp only [LN]; omega))) only [go_sem, ↓reduceIte, seval, okIds_ptr, okIds_byt, dropL_nil, dropL_nil', dropL_cons])
      | ((with_reducible refine hK _ ?_); clear hK K)
      | (with_reducible first | refine AWP.seq ?_ | refine thenQ_normal ?_ | refine AWP.block ?_ | refine AWP.skip ?_ | refine AWP.ret ?_ | refine thenQ_ret ?_ | refine blockQ_ret ?_ | refine AWP.exit ?_ | refine thenQ_exit ?_ | refine blockQ_normal ?_ | refine blockQ_exit ?_)
      | refine blockQ_exit_ne rfl ?_
      | (with_reducible refine And.intro (by (first | with_reducible rfl | with_reducible assumption | omega | (simp only [LN]; first | done | with_reducible rfl | omega) | (simp only [NM, LN]; first | done | with_reducible assumption | omega) | (and_intros <;> first | with_reducible assumption | omega | (simp only [LN]; omega)) | fail)) ?_)
      | ((with_reducible refine AWP.condG (T := TT) (b := ?_) ?_ ?_); rotate_left; exact rfl)
      | (with_reducible first | refine CondG.t ?_ | refine CondG.f ?_ | refine CondG.not ?_)
      | ((with_reducible refine CondG.isT ?_ ?_); focus (first | with_reducible rfl | with_reducible assumption | (simp only [NM, LN]; first | done | with_reducible assumption | omega)))
      | ((with_reducible refine CondG.isF ?_ ?_); focus (first | with_reducible rfl | with_reducible assumption | (simp only [NM, LN]; first | done | with_reducible assumption | omega)))
      | ((with_reducible refine CondG.split (fun h => ?_) (fun h => ?_)) <;> (try simp only [NM] at h)))
    simp -dsimp (disch := (first | omega | (simp only [LN]; omega))) only [retQ, Tryd.results14, resVals, cellRV, resOf, St.rest, St.freeze, RT, go_sem, ↓reduceIte, seval]
    rfl
end Go.Bw

namespace Go.Bw
open Go.Proofs
attribute [local go_sem ↓] VOps_nil VOps_cons VOp_callJ VVal_callH VOps_guard GOn_tt GOn_ff GOn_tf GOn_ft GOn_not GOn_none HOn_none HOn_tt HOn_ff HOn_tf HOn_ft HOn_not VHead_nil VHead_cons VHead_guard VVal_move VVal_assign VVal_pickE pickK_true pickK_false VVal_not VVal_neg negK_int VVal_load loadK_fz loadK_ptr loadK_eptr VVal_fieldAddr VVal_field VVal_indexAddr idxK_sl idxK_ref VVal_index indexK_str VVal_extract VVal_binOp binK_one binK_agg VVal_build VVal_buildSlice VVal_makeFunc VVal_slice sliceK_str sliceK_sl sliceK_nil sliceK_ref VVal_slice3 VVal_nilCheck VVal_convert convKk_int convKk_str VVal_len VVal_max VVal_min VOp_assign assignK_int assignK_bool assignK_str assignK_clo assignK_sl assignK_nil assignK_ref assignK_agg assignK_fz assignK_ptr assignK_eptr assignK_any VOp_box VOp_alloc VOp_store storeK_ptr storeK_eptr VOp_buildSlice VOp_append appK_rr appK_rs appK_rn appK_ri appK_nr appK_ns appK_nn appK_ni appStd_eq VOp_copy copyK_ref VOp_clear clearK_ref VOp_cap VOp_eqNil VOp_move VOp_pick VOp_not VOp_neg VOp_load VOp_fieldAddr VOp_field VOp_indexAddr VOp_index VOp_extract VOp_binTmp VOp_binInt VOp_binStr VOp_build VOp_makeFunc VOp_slice VOp_nilCheck VOp_convert VOp_len VOp_max VOp_min mO_some mT_some pk_some pk_none look_cons del_cons
attribute [local go_sem] guardB gOf int_bne beq_true beq_false Bool.not_not gSlot pickK_true pickK_false negK_int loadK_fz loadK_ptr loadK_eptr idxK_sl idxK_ref indexK_str binK_one binK_agg sliceK_str sliceK_sl sliceK_nil sliceK_ref convKk_int convKk_str maxL minL assignK_int assignK_bool assignK_str assignK_clo assignK_sl assignK_nil assignK_ref assignK_agg assignK_fz assignK_ptr assignK_eptr assignK_any nilRow_eq takeRow_eq appended_eq storeK_ptr storeK_eptr store_mk appIn_eq appMk_eq marked_eq ovOut_nil ovOut_cons ovIn_nil ovIn_cons padRow_eq ysC capK_nil capK_ref ioSt_mk outB_nil outR_nil outB outR inB_nil inB_cons inR_nil inR_cons L.kl L.kl0 L.ids L.ids0 Option.getD_some evalO constA mO_some mT_some put_mk putO_some putO_none okD_some okD_none pk_some pk_none look_nil del_nil sput noBox_mk noRow_mk newBox_eq newRow0_eq St.killRow RowC.kill rowMap_mk rowOf ovAll ovAdd ovDel ovGet ovShift dstOf ysOf overlay_nil overlay_nil' overlay A.map V.map L.noPtr L.noPtr0 L.noRow L.noRow0 L.peek L.norm L.flat clos_int clos_bool clos_str clos_sl clos_nil clos_any clos_fz L.clos L.isFz L.kd moveL fieldOff eqCells eqCell eqOp oneOf boolOf intOfA tupOf vOf aggOf isPtrLike isSlice lenKind lenL nL elemTI loadV asV binL intBin intDivL shrL boolBin strBin strAdd boundN partCells fillL placesOf setL chunks repL capsOf capL callOf argsOf frzV_int frzV_bool frzV_str frzV_sl frzV_nil frzV_fz frzV_any frzV_own frzV_clo frzV_ref frzV_eptr frzV_ptr frzRow_nil frzRow_ov frzRs_nil frzRs_cons frzCs_nil frzCs_cons frzO_some frzO_none frzN_int frzN_bool frzN_str frzN_sl frzN_nil frzN_any frzN_own List.map_cons List.map_nil List.cons_append List.nil_append List.append_nil List.length_cons List.length_nil List.length_map List.length_append List.headD_cons List.tail_cons List.getElem?_cons_zero List.getElem?_cons_succ List.drop_zero List.drop_succ_cons List.drop_nil List.take_succ_cons List.take_zero List.take_nil List.take_length List.filter_cons List.filter_nil List.elem_cons List.elem_nil List.all_cons List.all_nil Option.bind_some Option.map_some Option.some.injEq bne_self_eq_false beq_self_eq_true if_true if_false Bool.false_eq_true true_and and_true and_self Nat.zero_add Nat.add_zero Nat.zero_le Int.toNat_natCast Int.toNat_zero Option.isSome_some List.getElem?_toArray decide_true decide_false ge_iff_le gt_iff_lt Bool.not_true Bool.not_false Nat.le_refl Bool.and_true Bool.true_and Bool.and_false Bool.false_and eVal eRow eRow1 eRows eInt1 eInts eCol eCols eTbl eTbls eFK eFKs eCon eCons eSch eRel eInst eChg eChgs szOf getD_map_lt wrap_nat wrap_in List.take_of_length_le frz_eVal frz_eRow1 frz_eInt1 frz_eCol frz_eTbl frz_eFK frz_eCon frz_eRel frz_eChg noOwn_nil noOwn_cons noOwn_append L.isOwn noOwn_eVal noOwn_eRow1 noOwn_eInt1 noOwn_eCol noOwn_eTbl noOwn_eFK noOwn_eCon noOwn_eRel noOwn_eChg convK_2 convK_3 convK_5 convK_12 convK_21 convK_57 convK_155 convK_162 convK_166 TT_2 TT_3 TT_4 TT_5 TT_9 TT_12 TT_13 TT_21 TT_22 TT_23 TT_24 TT_25 TT_26 TT_27 TT_28 TT_38 TT_39 TT_40 TT_41 TT_42 TT_45 TT_46 TT_47 TT_48 TT_49 TT_50 TT_51 TT_52 TT_54 TT_55 TT_56 TT_57 TT_65 TT_66 TT_82 TT_83 TT_84 TT_100 TT_101 TT_118 TT_155 TT_162 TT_166 boolTy_4 eqK_46 eqK_50 eqK_52
attribute [local congr] VOps.congr VHead.congr VOp.congr VVal.congr pk.congr assignK.congr appK.congr appStd.congr copyK.congr clearK.congr storeK.congr loadK.congr idxK.congr sliceK.congr indexK.congr binK.congr convKk.congr
open Go.RowKit

/-- Two strings, by their bytes. -/
def cmpS (a b : ByteArray) : Int := Lib.compareBytes a.data.toList b.data.toList



theorem cmpstring_sat (a b : ByteArray) : Sat Tryd.prog 116 [oS a, oS b] (.v (oI (cmpS a b))) := by
  refine ⟨fun m w vs ω hC hA => ?_⟩
  obtain ⟨hl, hA⟩ := hA
  obtain ⟨v1, h1, r1⟩ := hA 0 _ rfl
  obtain ⟨v2, h2, r2⟩ := hA 1 _ rfl
  have e : vs.toArray = #[v1, v2] := by
    match vs, hl, h1, h2 with
    | [x, y], _, h1, h2 => simp at h1 h2; rw [h1, h2]
  have r1 : Rep m v1 (.str a) := r1
  have r2 : Rep m v2 (.str b) := r2
  cases r1 with
  | str _ => cases r2 with
    | str _ =>
      refine .inl ⟨.int .i64 (cmpS a b), w, ?_, ?_⟩
      · rw [e, run_callFunc_extern Tryd.func116 (by kernel_rfl) (by kernel_rfl) (by kernel_rfl) (e := Extern.BytealgCompare.compare) (by kernel_rfl), Lib.run_compareString]
        rfl
      · exact ⟨m, ω, hC, Rep.int _ _⟩

theorem CompareString_sat (a b : ByteArray) : Sat Tryd.prog 108 [oS a, oS b] (.v (oI (cmpS a b))) := by
  refine sat_of_body tyOk Tryd.func108 rfl (by kernel_rfl) ⟨Nat.le_of_ble_eq_true rfl, Nat.le_of_ble_eq_true rfl⟩ fun w0 m0 F0 => ?_
  simp only [Tryd.ntmps108, envOf, Nat.reduceAdd]
  repeat' (first
    | ((first
      | with_reducible refine AWP.regionL tyOk fun K hK => ?_
      | ((with_reducible first | refine GOn.isT ?_ ?_ | refine HOn.isT ?_ ?_ | refine pickK.isT ?_ ?_); focus (first | with_reducible rfl | with_reducible assumption | (simp only [NM, LN]; first | done | with_reducible assumption | omega)))
      | ((with_reducible first | refine GOn.isF ?_ ?_ | refine HOn.isF ?_ ?_ | refine pickK.isF ?_ ?_); focus (first | with_reducible rfl | with_reducible assumption | (simp only [NM, LN]; first | done | with_reducible assumption | omega)))
      | ((with_reducible first | refine GOn.split (fun h => ?_) (fun h => ?_) | refine HOn.split (fun h => ?_) (fun h => ?_) | refine pickK.split (fun h => ?_) (fun h => ?_)) <;> (try simp only [NM] at h))
      | with_reducible refine AWP.drawAll tyOk mixed 6 (by kernel_rfl) fun K hK => ?_
      | ((with_reducible refine CallJ.is ?_); (first | refine CallJ.pure (cmpstring_sat _ _) ?_ | ((apply CallJ.lentI); (focus (simp -dsimp (disch := (first | omega | (simp only [LN]; omega))) only [go_sem, ↓reduceIte, seval]; rfl)); (focus (first | exact (cmpstring_sat _ _))))))
      | ((with_reducible refine CallH.is ?_); (first | refine CallH.intro (cmpstring_sat _ _) ?_))) <;> simp -dsimp (disch := (first | omega | (simp only [LN]; omega))) only [go_sem, ↓reduceIte, seval])
    | ((with_reducible refine hK _ ?_); clear hK K)
    | (with_reducible first | refine AWP.seq ?_ | refine thenQ_normal ?_ | refine AWP.block ?_ | refine AWP.skip ?_ | refine AWP.ret ?_ | refine thenQ_ret ?_ | refine blockQ_ret ?_ | refine AWP.exit ?_ | refine thenQ_exit ?_ | refine blockQ_normal ?_ | refine blockQ_exit ?_)
    | refine blockQ_exit_ne rfl ?_
    | (with_reducible refine And.intro (by (first | with_reducible rfl | with_reducible assumption | omega | (simp only [LN]; first | done | with_reducible rfl | omega) | (simp only [NM, LN]; first | done | with_reducible assumption | omega) | (and_intros <;> first | with_reducible assumption | omega | (simp only [LN]; omega)) | fail)) ?_)
    | ((with_reducible refine AWP.condG (T := TT) (b := ?_) ?_ ?_); rotate_left; exact rfl)
    | (with_reducible first | refine CondG.t ?_ | refine CondG.f ?_ | refine CondG.not ?_)
    | ((with_reducible refine CondG.isT ?_ ?_); focus (first | with_reducible rfl | with_reducible assumption | (simp only [NM, LN]; first | done | with_reducible assumption | omega)))
    | ((with_reducible refine CondG.isF ?_ ?_); focus (first | with_reducible rfl | with_reducible assumption | (simp only [NM, LN]; first | done | with_reducible assumption | omega)))
    | ((with_reducible refine CondG.split (fun h => ?_) (fun h => ?_)) <;> (try simp only [NM] at h)))
  simp -dsimp (disch := (first | omega | (simp only [LN]; omega))) only [retQ, Tryd.results108, resVals, cellRV, resOf, St.rest, St.freeze, RT, go_sem, ↓reduceIte, seval]

theorem stringsCompare_sat (a b : ByteArray) : Sat Tryd.prog 94 [oS a, oS b] (.v (oI (cmpS a b))) := by
  refine sat_of_body tyOk Tryd.func94 rfl (by kernel_rfl) ⟨Nat.le_of_ble_eq_true rfl, Nat.le_of_ble_eq_true rfl⟩ fun w0 m0 F0 => ?_
  simp only [Tryd.ntmps94, envOf, Nat.reduceAdd]
  repeat' (first
    | ((first
      | with_reducible refine AWP.regionL tyOk fun K hK => ?_
      | ((with_reducible first | refine GOn.isT ?_ ?_ | refine HOn.isT ?_ ?_ | refine pickK.isT ?_ ?_); focus (first | with_reducible rfl | with_reducible assumption | (simp only [NM, LN]; first | done | with_reducible assumption | omega)))
      | ((with_reducible first | refine GOn.isF ?_ ?_ | refine HOn.isF ?_ ?_ | refine pickK.isF ?_ ?_); focus (first | with_reducible rfl | with_reducible assumption | (simp only [NM, LN]; first | done | with_reducible assumption | omega)))
      | ((with_reducible first | refine GOn.split (fun h => ?_) (fun h => ?_) | refine HOn.split (fun h => ?_) (fun h => ?_) | refine pickK.split (fun h => ?_) (fun h => ?_)) <;> (try simp only [NM] at h))
      | with_reducible refine AWP.drawAll tyOk mixed 6 (by kernel_rfl) fun K hK => ?_
      | ((with_reducible refine CallJ.is ?_); (first | refine CallJ.pure (CompareString_sat _ _) ?_ | ((apply CallJ.lentI); (focus (simp -dsimp (disch := (first | omega | (simp only [LN]; omega))) only [go_sem, ↓reduceIte, seval]; rfl)); (focus (first | exact (CompareString_sat _ _))))))
      | ((with_reducible refine CallH.is ?_); (first | refine CallH.intro (CompareString_sat _ _) ?_))) <;> simp -dsimp (disch := (first | omega | (simp only [LN]; omega))) only [go_sem, ↓reduceIte, seval])
    | ((with_reducible refine hK _ ?_); clear hK K)
    | (with_reducible first | refine AWP.seq ?_ | refine thenQ_normal ?_ | refine AWP.block ?_ | refine AWP.skip ?_ | refine AWP.ret ?_ | refine thenQ_ret ?_ | refine blockQ_ret ?_ | refine AWP.exit ?_ | refine thenQ_exit ?_ | refine blockQ_normal ?_ | refine blockQ_exit ?_)
    | refine blockQ_exit_ne rfl ?_
    | (with_reducible refine And.intro (by (first | with_reducible rfl | with_reducible assumption | omega | (simp only [LN]; first | done | with_reducible rfl | omega) | (simp only [NM, LN]; first | done | with_reducible assumption | omega) | (and_intros <;> first | with_reducible assumption | omega | (simp only [LN]; omega)) | fail)) ?_)
    | ((with_reducible refine AWP.condG (T := TT) (b := ?_) ?_ ?_); rotate_left; exact rfl)
    | (with_reducible first | refine CondG.t ?_ | refine CondG.f ?_ | refine CondG.not ?_)
    | ((with_reducible refine CondG.isT ?_ ?_); focus (first | with_reducible rfl | with_reducible assumption | (simp only [NM, LN]; first | done | with_reducible assumption | omega)))
    | ((with_reducible refine CondG.isF ?_ ?_); focus (first | with_reducible rfl | with_reducible assumption | (simp only [NM, LN]; first | done | with_reducible assumption | omega)))
    | ((with_reducible refine CondG.split (fun h => ?_) (fun h => ?_)) <;> (try simp only [NM] at h)))
  simp -dsimp (disch := (first | omega | (simp only [LN]; omega))) only [retQ, Tryd.results94, resVals, cellRV, resOf, St.rest, St.freeze, RT, go_sem, ↓reduceIte, seval]
end Go.Bw

namespace Go.Bw
open Go.Proofs
attribute [local go_sem ↓] VOps_nil VOps_cons VOp_callJ VVal_callH VOps_guard GOn_tt GOn_ff GOn_tf GOn_ft GOn_not GOn_none HOn_none HOn_tt HOn_ff HOn_tf HOn_ft HOn_not VHead_nil VHead_cons VHead_guard VVal_move VVal_assign VVal_pickE pickK_true pickK_false VVal_not VVal_neg negK_int VVal_load loadK_fz loadK_ptr loadK_eptr VVal_fieldAddr VVal_field VVal_indexAddr idxK_sl idxK_ref VVal_index indexK_str VVal_extract VVal_binOp binK_one binK_agg VVal_build VVal_buildSlice VVal_makeFunc VVal_slice sliceK_str sliceK_sl sliceK_nil sliceK_ref VVal_slice3 VVal_nilCheck VVal_convert convKk_int convKk_str VVal_len VVal_max VVal_min VOp_assign assignK_int assignK_bool assignK_str assignK_clo assignK_sl assignK_nil assignK_ref assignK_agg assignK_fz assignK_ptr assignK_eptr assignK_any VOp_box VOp_alloc VOp_store storeK_ptr storeK_eptr VOp_buildSlice VOp_append appK_rr appK_rs appK_rn appK_ri appK_nr appK_ns appK_nn appK_ni appStd_eq VOp_copy copyK_ref VOp_clear clearK_ref VOp_cap VOp_eqNil VOp_move VOp_pick VOp_not VOp_neg VOp_load VOp_fieldAddr VOp_field VOp_indexAddr VOp_index VOp_extract VOp_binTmp VOp_binInt VOp_binStr VOp_build VOp_makeFunc VOp_slice VOp_nilCheck VOp_convert VOp_len VOp_max VOp_min mO_some mT_some pk_some pk_none look_cons del_cons
attribute [local go_sem] guardB gOf int_bne beq_true beq_false Bool.not_not gSlot pickK_true pickK_false negK_int loadK_fz loadK_ptr loadK_eptr idxK_sl idxK_ref indexK_str binK_one binK_agg sliceK_str sliceK_sl sliceK_nil sliceK_ref convKk_int convKk_str maxL minL assignK_int assignK_bool assignK_str assignK_clo assignK_sl assignK_nil assignK_ref assignK_agg assignK_fz assignK_ptr assignK_eptr assignK_any nilRow_eq takeRow_eq appended_eq storeK_ptr storeK_eptr store_mk appIn_eq appMk_eq marked_eq ovOut_nil ovOut_cons ovIn_nil ovIn_cons padRow_eq ysC capK_nil capK_ref ioSt_mk outB_nil outR_nil outB outR inB_nil inB_cons inR_nil inR_cons L.kl L.kl0 L.ids L.ids0 Option.getD_some evalO constA mO_some mT_some put_mk putO_some putO_none okD_some okD_none pk_some pk_none look_nil del_nil sput noBox_mk noRow_mk newBox_eq newRow0_eq St.killRow RowC.kill rowMap_mk rowOf ovAll ovAdd ovDel ovGet ovShift dstOf ysOf overlay_nil overlay_nil' overlay A.map V.map L.noPtr L.noPtr0 L.noRow L.noRow0 L.peek L.norm L.flat clos_int clos_bool clos_str clos_sl clos_nil clos_any clos_fz L.clos L.isFz L.kd moveL fieldOff eqCells eqCell eqOp oneOf boolOf intOfA tupOf vOf aggOf isPtrLike isSlice lenKind lenL nL elemTI loadV asV binL intBin intDivL shrL boolBin strBin strAdd boundN partCells fillL placesOf setL chunks repL capsOf capL callOf argsOf frzV_int frzV_bool frzV_str frzV_sl frzV_nil frzV_fz frzV_any frzV_own frzV_clo frzV_ref frzV_eptr frzV_ptr frzRow_nil frzRow_ov frzRs_nil frzRs_cons frzCs_nil frzCs_cons frzO_some frzO_none frzN_int frzN_bool frzN_str frzN_sl frzN_nil frzN_any frzN_own List.map_cons List.map_nil List.cons_append List.nil_append List.append_nil List.length_cons List.length_nil List.length_map List.length_append List.headD_cons List.tail_cons List.getElem?_cons_zero List.getElem?_cons_succ List.drop_zero List.drop_succ_cons List.drop_nil List.take_succ_cons List.take_zero List.take_nil List.take_length List.filter_cons List.filter_nil List.elem_cons List.elem_nil List.all_cons List.all_nil Option.bind_some Option.map_some Option.some.injEq bne_self_eq_false beq_self_eq_true if_true if_false Bool.false_eq_true true_and and_true and_self Nat.zero_add Nat.add_zero Nat.zero_le Int.toNat_natCast Int.toNat_zero Option.isSome_some List.getElem?_toArray decide_true decide_false ge_iff_le gt_iff_lt Bool.not_true Bool.not_false Nat.le_refl Bool.and_true Bool.true_and Bool.and_false Bool.false_and eVal eRow eRow1 eRows eInt1 eInts eCol eCols eTbl eTbls eFK eFKs eCon eCons eSch eRel eInst eChg eChgs szOf getD_map_lt wrap_nat wrap_in List.take_of_length_le frz_eVal frz_eRow1 frz_eInt1 frz_eCol frz_eTbl frz_eFK frz_eCon frz_eRel frz_eChg noOwn_nil noOwn_cons noOwn_append L.isOwn noOwn_eVal noOwn_eRow1 noOwn_eInt1 noOwn_eCol noOwn_eTbl noOwn_eFK noOwn_eCon noOwn_eRel noOwn_eChg convK_2 convK_3 convK_5 convK_12 convK_21 convK_57 convK_155 convK_162 convK_166 TT_2 TT_3 TT_4 TT_5 TT_9 TT_12 TT_13 TT_21 TT_22 TT_23 TT_24 TT_25 TT_26 TT_27 TT_28 TT_38 TT_39 TT_40 TT_41 TT_42 TT_45 TT_46 TT_47 TT_48 TT_49 TT_50 TT_51 TT_52 TT_54 TT_55 TT_56 TT_57 TT_65 TT_66 TT_82 TT_83 TT_84 TT_100 TT_101 TT_118 TT_155 TT_162 TT_166 boolTy_4 eqK_46 eqK_50 eqK_52
attribute [local congr] VOps.congr VHead.congr VOp.congr VVal.congr pk.congr assignK.congr appK.congr appStd.congr copyK.congr clearK.congr storeK.congr loadK.congr idxK.congr sliceK.congr indexK.congr binK.congr convKk.congr
def cmpV (a b : Val) : Int := if cmpInts a.kind b.kind ≠ 0 then cmpInts a.kind b.kind else if cmpInts a.int b.int ≠ 0 then cmpInts a.int b.int else cmpS a.text b.text
set_option maxHeartbeats 4000000 in
set_option maxRecDepth 4000 in
theorem compare_sat (a b : Val) : Sat Tryd.prog 72 [.agg (eVal a), .agg (eVal b)] (.v (oI (cmpV a b))) := by
  refine sat_of_body tyOk Tryd.func72 rfl (by kernel_rfl) ⟨Nat.le_of_ble_eq_true rfl, Nat.le_of_ble_eq_true rfl⟩ fun w0 m0 F0 => ?_
  simp only [Tryd.ntmps72, envOf, Nat.reduceAdd]
  repeat' (first
    | ((first
      | with_reducible refine AWP.regionL tyOk fun K hK => ?_
      | ((with_reducible first | refine GOn.isT ?_ ?_ | refine HOn.isT ?_ ?_ | refine pickK.isT ?_ ?_); focus (first | with_reducible rfl | with_reducible assumption | (simp only [NM, LN]; first | done | with_reducible assumption | omega)))
      | ((with_reducible first | refine GOn.isF ?_ ?_ | refine HOn.isF ?_ ?_ | refine pickK.isF ?_ ?_); focus (first | with_reducible rfl | with_reducible assumption | (simp only [NM, LN]; first | done | with_reducible assumption | omega)))
      | ((with_reducible first | refine GOn.split (fun h => ?_) (fun h => ?_) | refine HOn.split (fun h => ?_) (fun h => ?_) | refine pickK.split (fun h => ?_) (fun h => ?_)) <;> (try simp only [NM] at h))
      | with_reducible refine AWP.drawAll tyOk mixed 6 (by kernel_rfl) fun K hK => ?_
      | ((with_reducible refine CallJ.is ?_); (first | refine CallJ.pure (compareInts_sat _ _) ?_ | refine CallJ.pure (stringsCompare_sat _ _) ?_ | ((apply CallJ.lentI); (focus (simp -dsimp (disch := (first | omega | (simp only [LN]; omega))) only [go_sem, ↓reduceIte, seval]; rfl)); (focus (first | exact (compareInts_sat _ _) | exact (stringsCompare_sat _ _))))))
      | ((with_reducible refine CallH.is ?_); (first | refine CallH.intro (compareInts_sat _ _) ?_ | refine CallH.intro (stringsCompare_sat _ _) ?_))) <;> simp -dsimp (disch := (first | omega | (simp only [LN]; omega))) only [go_sem, ↓reduceIte, seval])
    | ((with_reducible refine hK _ ?_); clear hK K)
    | (with_reducible first | refine AWP.seq ?_ | refine thenQ_normal ?_ | refine AWP.block ?_ | refine AWP.skip ?_ | refine AWP.ret ?_ | refine thenQ_ret ?_ | refine blockQ_ret ?_ | refine AWP.exit ?_ | refine thenQ_exit ?_ | refine blockQ_normal ?_ | refine blockQ_exit ?_)
    | refine blockQ_exit_ne rfl ?_
    | (with_reducible refine And.intro (by (first | with_reducible rfl | with_reducible assumption | omega | (simp only [LN]; first | done | with_reducible rfl | omega) | (simp only [NM, LN]; first | done | with_reducible assumption | omega) | (and_intros <;> first | with_reducible assumption | omega | (simp only [LN]; omega)) | fail)) ?_)
    | ((with_reducible refine AWP.condG (T := TT) (b := ?_) ?_ ?_); rotate_left; exact rfl)
    | (with_reducible first | refine CondG.t ?_ | refine CondG.f ?_ | refine CondG.not ?_)
    | ((with_reducible refine CondG.isT ?_ ?_); focus (first | with_reducible rfl | with_reducible assumption | (simp only [NM, LN]; first | done | with_reducible assumption | omega)))
    | ((with_reducible refine CondG.isF ?_ ?_); focus (first | with_reducible rfl | with_reducible assumption | (simp only [NM, LN]; first | done | with_reducible assumption | omega)))
    | ((with_reducible refine CondG.split (fun h => ?_) (fun h => ?_)) <;> (try simp only [NM] at h)))
  all_goals simp -dsimp (disch := (first | omega | (simp only [LN]; omega))) only [retQ, Tryd.results72, resVals, cellRV, resOf, St.rest, St.freeze, RT, go_sem, ↓reduceIte, seval]
  all_goals simp_all [cmpV]

/-- The first place, from k on. -/
def idx {α : Type} (p : α → Bool) : List α → Nat → Int
  | [], _ => -1
  | x :: l, k => if p x then k else idx p l (k + 1)
theorem idx_step {α : Type} {p : α → Bool} {l : List α} {k : Nat} (hk : k < l.length) (h : p l[k] = false) : idx p (l.drop (k + 1)) (k + 1) = idx p (l.drop k) k := by
  rw [List.drop_eq_getElem_cons hk, idx, h]
  simp
theorem idx_hit {α : Type} {p : α → Bool} {l : List α} {k : Nat} (hk : k < l.length) (h : p l[k] = true) : idx p (l.drop k) k = k := by
  rw [List.drop_eq_getElem_cons hk, idx, h]
  simp
theorem idx_end {α : Type} {p : α → Bool} {l : List α} {k : Nat} (hk : ¬ k < l.length) : idx p (l.drop k) k = -1 := by
  rw [List.drop_of_length_le (by omega), idx]

/-- The first that says something. -/
def scan {α : Type} (f : Nat → α → Option Int) : List α → Nat → Option Int
  | [], _ => none
  | x :: l, k => match f k x with
    | some e => some e
    | none => scan f l (k + 1)
theorem scan_step {α : Type} {f : Nat → α → Option Int} {l : List α} {k : Nat} (hk : k < l.length) (h : f k l[k] = none) : scan f (l.drop (k + 1)) (k + 1) = scan f (l.drop k) k := by
  rw [List.drop_eq_getElem_cons hk, scan, h]
theorem scan_hit {α : Type} {f : Nat → α → Option Int} {l : List α} {k : Nat} {e : Int} (hk : k < l.length) (h : f k l[k] = some e) : scan f (l.drop k) k = some e := by
  rw [List.drop_eq_getElem_cons hk, scan, h]
theorem scan_end {α : Type} {f : Nat → α → Option Int} {l : List α} {k : Nat} (hk : ¬ k < l.length) : scan f (l.drop k) k = none := by
  rw [List.drop_of_length_le (by omega), scan]

theorem scan_leaf {α : Type} {f : Nat → α → Option Int} {l : List α} {k : Nat} {e : Int} (hk : k < l.length) (h : f k l[k] = some e) (hi : scan f (l.drop k) k = scan f l 0) : scan f l 0 = some e := by
  rw [← hi, scan_hit hk h]
end Go.Bw

namespace Go.Bw
open Go.Proofs
theorem idx_cases {α : Type} (p : α → Bool) : ∀ (l : List α) (k : Nat), (idx p l k = -1 ∧ ∀ x ∈ l, p x = false) ∨ ∃ j, ∃ h : j < l.length, idx p l k = ((k + j : Nat) : Int) ∧ p l[j] = true ∧ ∀ i, ∀ hi : i < j, p (l[i]'(by omega)) = false
  | [], k => .inl ⟨rfl, fun x hx => by cases hx⟩
  | x :: l, k => by
    cases hx : p x with
    | true => exact .inr ⟨0, by simp, by simp [idx, hx], by simpa using hx, fun i hi => by omega⟩
    | false =>
      rcases idx_cases p l (k + 1) with ⟨h1, h2⟩ | ⟨j, hj, h1, h2, h3⟩
      · refine .inl ⟨by simp [idx, hx, h1], fun y hy => ?_⟩
        rcases List.mem_cons.1 hy with rfl | hy
        · exact hx
        · exact h2 y hy
      · refine .inr ⟨j + 1, by simpa using hj, ?_, by simpa using h2, fun i hi => ?_⟩
        · simp only [idx, hx, Bool.false_eq_true, if_false, h1]
          omega
        · cases i with
          | zero => simpa using hx
          | succ i => simpa using h3 i (by omega)
end Go.Bw

namespace Go.Bw
open Go.Proofs
attribute [local go_sem ↓] VOps_nil VOps_cons VOp_callJ VVal_callH VOps_guard GOn_tt GOn_ff GOn_tf GOn_ft GOn_not GOn_none HOn_none HOn_tt HOn_ff HOn_tf HOn_ft HOn_not VHead_nil VHead_cons VHead_guard VVal_move VVal_assign VVal_pickE pickK_true pickK_false VVal_not VVal_neg negK_int VVal_load loadK_fz loadK_ptr loadK_eptr VVal_fieldAddr VVal_field VVal_indexAddr idxK_sl idxK_ref VVal_index indexK_str VVal_extract VVal_binOp binK_one binK_agg VVal_build VVal_buildSlice VVal_makeFunc VVal_slice sliceK_str sliceK_sl sliceK_nil sliceK_ref VVal_slice3 VVal_nilCheck VVal_convert convKk_int convKk_str VVal_len VVal_max VVal_min VOp_assign assignK_int assignK_bool assignK_str assignK_clo assignK_sl assignK_nil assignK_ref assignK_agg assignK_fz assignK_ptr assignK_eptr assignK_any VOp_box VOp_alloc VOp_store storeK_ptr storeK_eptr VOp_buildSlice VOp_append appK_rr appK_rs appK_rn appK_ri appK_nr appK_ns appK_nn appK_ni appStd_eq VOp_copy copyK_ref VOp_clear clearK_ref VOp_cap VOp_eqNil VOp_move VOp_pick VOp_not VOp_neg VOp_load VOp_fieldAddr VOp_field VOp_indexAddr VOp_index VOp_extract VOp_binTmp VOp_binInt VOp_binStr VOp_build VOp_makeFunc VOp_slice VOp_nilCheck VOp_convert VOp_len VOp_max VOp_min mO_some mT_some pk_some pk_none look_cons del_cons
attribute [local go_sem] guardB gOf int_bne beq_true beq_false Bool.not_not gSlot pickK_true pickK_false negK_int loadK_fz loadK_ptr loadK_eptr idxK_sl idxK_ref indexK_str binK_one binK_agg sliceK_str sliceK_sl sliceK_nil sliceK_ref convKk_int convKk_str maxL minL assignK_int assignK_bool assignK_str assignK_clo assignK_sl assignK_nil assignK_ref assignK_agg assignK_fz assignK_ptr assignK_eptr assignK_any nilRow_eq takeRow_eq appended_eq storeK_ptr storeK_eptr store_mk appIn_eq appMk_eq marked_eq ovOut_nil ovOut_cons ovIn_nil ovIn_cons padRow_eq ysC capK_nil capK_ref ioSt_mk outB_nil outR_nil outB outR inB_nil inB_cons inR_nil inR_cons L.kl L.kl0 L.ids L.ids0 Option.getD_some evalO constA mO_some mT_some put_mk putO_some putO_none okD_some okD_none pk_some pk_none look_nil del_nil sput noBox_mk noRow_mk newBox_eq newRow0_eq St.killRow RowC.kill rowMap_mk rowOf ovAll ovAdd ovDel ovGet ovShift dstOf ysOf overlay_nil overlay_nil' overlay A.map V.map L.noPtr L.noPtr0 L.noRow L.noRow0 L.peek L.norm L.flat clos_int clos_bool clos_str clos_sl clos_nil clos_any clos_fz L.clos L.isFz L.kd moveL fieldOff eqCells eqCell eqOp oneOf boolOf intOfA tupOf vOf aggOf isPtrLike isSlice lenKind lenL nL elemTI loadV asV binL intBin intDivL shrL boolBin strBin strAdd boundN partCells fillL placesOf setL chunks repL capsOf capL callOf argsOf frzV_int frzV_bool frzV_str frzV_sl frzV_nil frzV_fz frzV_any frzV_own frzV_clo frzV_ref frzV_eptr frzV_ptr frzRow_nil frzRow_ov frzRs_nil frzRs_cons frzCs_nil frzCs_cons frzO_some frzO_none frzN_int frzN_bool frzN_str frzN_sl frzN_nil frzN_any frzN_own List.map_cons List.map_nil List.cons_append List.nil_append List.append_nil List.length_cons List.length_nil List.length_map List.length_append List.headD_cons List.tail_cons List.getElem?_cons_zero List.getElem?_cons_succ List.drop_zero List.drop_succ_cons List.drop_nil List.take_succ_cons List.take_zero List.take_nil List.take_length List.filter_cons List.filter_nil List.elem_cons List.elem_nil List.all_cons List.all_nil Option.bind_some Option.map_some Option.some.injEq bne_self_eq_false beq_self_eq_true if_true if_false Bool.false_eq_true true_and and_true and_self Nat.zero_add Nat.add_zero Nat.zero_le Int.toNat_natCast Int.toNat_zero Option.isSome_some List.getElem?_toArray decide_true decide_false ge_iff_le gt_iff_lt Bool.not_true Bool.not_false Nat.le_refl Bool.and_true Bool.true_and Bool.and_false Bool.false_and eVal eRow eRow1 eRows eInt1 eInts eCol eCols eTbl eTbls eFK eFKs eCon eCons eSch eRel eInst eChg eChgs szOf getD_map_lt wrap_nat wrap_in List.take_of_length_le frz_eVal frz_eRow1 frz_eInt1 frz_eCol frz_eTbl frz_eFK frz_eCon frz_eRel frz_eChg noOwn_nil noOwn_cons noOwn_append L.isOwn noOwn_eVal noOwn_eRow1 noOwn_eInt1 noOwn_eCol noOwn_eTbl noOwn_eFK noOwn_eCon noOwn_eRel noOwn_eChg convK_2 convK_3 convK_5 convK_12 convK_21 convK_57 convK_155 convK_162 convK_166 TT_2 TT_3 TT_4 TT_5 TT_9 TT_12 TT_13 TT_21 TT_22 TT_23 TT_24 TT_25 TT_26 TT_27 TT_28 TT_38 TT_39 TT_40 TT_41 TT_42 TT_45 TT_46 TT_47 TT_48 TT_49 TT_50 TT_51 TT_52 TT_54 TT_55 TT_56 TT_57 TT_65 TT_66 TT_82 TT_83 TT_84 TT_100 TT_101 TT_118 TT_155 TT_162 TT_166 boolTy_4 eqK_46 eqK_50 eqK_52
attribute [local congr] VOps.congr VHead.congr VOp.congr VVal.congr pk.congr assignK.congr appK.congr appStd.congr copyK.congr clearK.congr storeK.congr loadK.congr idxK.congr sliceK.congr indexK.congr binK.congr convKk.congr
/-- value.CompareRows: the first cells that differ, else the lengths. -/
def cmpCell (b : Row) (k : Nat) (x : Val) : Option Int := if k < b.length ∧ cmpV x (b.getD k zV) ≠ 0 then some (cmpV x (b.getD k zV)) else none
def cmpRows (a b : Row) : Int := match scan (cmpCell b) a 0 with
  | some e => e
  | none => cmpInts a.length b.length
theorem scan_all_none {α : Type} {f : Nat → α → Option Int} : ∀ {l : List α} {k : Nat}, (∀ j x, k ≤ j → f j x = none) → scan f l k = none
  | [], _, _ => rfl
  | x :: l, k, h => by
    rw [scan, h k x (Nat.le_refl _)]
    exact scan_all_none fun j y hj => h j y (by omega)

set_option maxHeartbeats 8000000 in
theorem compareRows_sat (a b : Row) (h1 : a.length ≤ 140737488355328) (h2 : b.length ≤ 140737488355328) : Sat Tryd.prog 36 [.one (eRow a), .one (eRow b)] (.v (oI (cmpRows a b))) := by
  refine sat_of_body tyOk Tryd.func36 rfl (by kernel_rfl) ⟨Nat.le_of_ble_eq_true rfl, Nat.le_of_ble_eq_true rfl⟩ fun w0 m0 F0 => ?_
  simp only [Tryd.ntmps36, envOf, Nat.reduceAdd]
  repeat' (first
    | ((first
      | with_reducible refine AWP.regionL tyOk fun K hK => ?_
      | ((with_reducible first | refine GOn.isT ?_ ?_ | refine HOn.isT ?_ ?_ | refine pickK.isT ?_ ?_); focus (first | with_reducible rfl | with_reducible assumption | (simp only [NM, LN]; first | done | with_reducible assumption | omega)))
      | ((with_reducible first | refine GOn.isF ?_ ?_ | refine HOn.isF ?_ ?_ | refine pickK.isF ?_ ?_); focus (first | with_reducible rfl | with_reducible assumption | (simp only [NM, LN]; first | done | with_reducible assumption | omega)))
      | ((with_reducible first | refine GOn.split (fun h => ?_) (fun h => ?_) | refine HOn.split (fun h => ?_) (fun h => ?_) | refine pickK.split (fun h => ?_) (fun h => ?_)) <;> (try simp only [NM] at h))
      | with_reducible refine AWP.drawAll tyOk mixed 6 (by kernel_rfl) fun K hK => ?_
      | ((with_reducible refine CallJ.is ?_); (first | refine CallJ.pure (compare_sat _ _) ?_ | ((apply CallJ.lentI); (focus (simp -dsimp (disch := (first | omega | (simp only [LN]; omega))) only [go_sem, ↓reduceIte, seval]; rfl)); (focus (first | exact (compare_sat _ _))))))
      | ((with_reducible refine CallH.is ?_); (first | refine CallH.intro (compare_sat _ _) ?_))) <;> simp -dsimp (disch := (first | omega | (simp only [LN]; omega))) only [go_sem, ↓reduceIte, seval])
    | ((with_reducible refine hK _ ?_); clear hK K)
    | (with_reducible first | refine AWP.seq ?_ | refine thenQ_normal ?_ | refine AWP.block ?_ | refine AWP.skip ?_ | refine AWP.ret ?_ | refine thenQ_ret ?_ | refine blockQ_ret ?_ | refine AWP.exit ?_ | refine thenQ_exit ?_ | refine blockQ_normal ?_ | refine blockQ_exit ?_)
    | refine blockQ_exit_ne rfl ?_
    | (with_reducible refine And.intro (by (first | with_reducible rfl | with_reducible assumption | omega | (simp only [LN]; first | done | with_reducible rfl | omega) | (simp only [NM, LN]; first | done | with_reducible assumption | omega) | (and_intros <;> first | with_reducible assumption | omega | (simp only [LN]; omega)) | fail)) ?_)
    | ((with_reducible refine AWP.condG (T := TT) (b := ?_) ?_ ?_); rotate_left; exact rfl)
    | (with_reducible first | refine CondG.t ?_ | refine CondG.f ?_ | refine CondG.not ?_)
    | ((with_reducible refine CondG.isT ?_ ?_); focus (first | with_reducible rfl | with_reducible assumption | (simp only [NM, LN]; first | done | with_reducible assumption | omega)))
    | ((with_reducible refine CondG.isF ?_ ?_); focus (first | with_reducible rfl | with_reducible assumption | (simp only [NM, LN]; first | done | with_reducible assumption | omega)))
    | ((with_reducible refine CondG.split (fun h => ?_) (fun h => ?_)) <;> (try simp only [NM] at h)))
  refine AWP.loop (ι := {k : Nat // k ≤ a.length ∧ k ≤ b.length ∧ scan (cmpCell b) (a.drop k) k = scan (cmpCell b) a 0}) (fun k => ⟨33, [(0, .v (.one (eRow a))), (1, .v (.one (eRow b))), (11, .v (oI (if (b.length : Int) < (a.length : Int) then (b.length : Int) else (a.length : Int)))), (12, .v (oI k.1))], [], []⟩) (fun k => a.length - k.1) ⟨0, Nat.zero_le _, Nat.zero_le _, rfl⟩ ?_ fun ⟨k, hkl, hkb, hi⟩ => ?_
  · exact St.le_mk (by simp only [LE, EN, Nat.reduceEqDiff, reduceIte, Nat.reduceSub]) (by simp only [LE, EN, Nat.reduceEqDiff, reduceIte, Nat.reduceSub]) (by simp only [LE, EN, Nat.reduceEqDiff, reduceIte, Nat.reduceSub])
  by_cases hc : k < a.length ∧ k < b.length
  · obtain ⟨hc1, hc2⟩ := hc
    have hm : (k : Int) < (if (b.length : Int) < (a.length : Int) then (b.length : Int) else (a.length : Int)) := by split <;> omega
    repeat' (first
      | ((first
        | with_reducible refine AWP.regionL tyOk fun K hK => ?_
        | ((with_reducible first | refine GOn.isT ?_ ?_ | refine HOn.isT ?_ ?_ | refine pickK.isT ?_ ?_); focus (first | with_reducible rfl | with_reducible assumption | (simp only [NM, LN]; first | done | with_reducible assumption | omega)))
        | ((with_reducible first | refine GOn.isF ?_ ?_ | refine HOn.isF ?_ ?_ | refine pickK.isF ?_ ?_); focus (first | with_reducible rfl | with_reducible assumption | (simp only [NM, LN]; first | done | with_reducible assumption | omega)))
        | ((with_reducible first | refine GOn.split (fun h => ?_) (fun h => ?_) | refine HOn.split (fun h => ?_) (fun h => ?_) | refine pickK.split (fun h => ?_) (fun h => ?_)) <;> (try simp only [NM] at h))
        | with_reducible refine AWP.drawAll tyOk mixed 6 (by kernel_rfl) fun K hK => ?_
        | ((with_reducible refine CallJ.is ?_); (first | refine CallJ.pure (compare_sat _ _) ?_ | ((apply CallJ.lentI); (focus (simp -dsimp (disch := (first | omega | (simp only [LN]; omega))) only [go_sem, ↓reduceIte, seval, hm]; rfl)); (focus (first | exact (compare_sat _ _))))))
        | ((with_reducible refine CallH.is ?_); (first | refine CallH.intro (compare_sat _ _) ?_))) <;> simp -dsimp (disch := (first | omega | (simp only [LN]; omega))) only [go_sem, ↓reduceIte, seval, hm])
      | ((with_reducible refine hK _ ?_); clear hK K)
      | (with_reducible first | refine AWP.seq ?_ | refine thenQ_normal ?_ | refine AWP.block ?_ | refine AWP.skip ?_ | refine AWP.ret ?_ | refine thenQ_ret ?_ | refine blockQ_ret ?_ | refine AWP.exit ?_ | refine thenQ_exit ?_ | refine blockQ_normal ?_ | refine blockQ_exit ?_)
      | refine blockQ_exit_ne rfl ?_
      | (with_reducible refine And.intro (by (first | with_reducible rfl | with_reducible assumption | omega | (simp only [LN]; first | done | with_reducible rfl | omega) | (simp only [NM, LN]; first | done | with_reducible assumption | omega) | (and_intros <;> first | with_reducible assumption | omega | (simp only [LN]; omega)) | fail)) ?_)
      | ((with_reducible refine AWP.condG (T := TT) (b := ?_) ?_ ?_); rotate_left; exact rfl)
      | (with_reducible first | refine CondG.t ?_ | refine CondG.f ?_ | refine CondG.not ?_)
      | ((with_reducible refine CondG.isT ?_ ?_); focus (first | with_reducible rfl | with_reducible assumption | (simp only [NM, LN]; first | done | with_reducible assumption | omega)))
      | ((with_reducible refine CondG.isF ?_ ?_); focus (first | with_reducible rfl | with_reducible assumption | (simp only [NM, LN]; first | done | with_reducible assumption | omega)))
      | ((with_reducible refine CondG.split (fun h => ?_) (fun h => ?_)) <;> (try simp only [NM] at h)))
    all_goals first
      | (have hs : cmpCell b k a[k] = none := by
           (simp (disch := omega) only [cmpCell, getD_lt]; rw [if_neg]; omega)
         refine ⟨⟨k + 1, by omega, by omega, by rw [scan_step (by omega) hs, hi]⟩, by simp only; omega, ?_⟩
         exact St.le_mk (by simp only [LE, EN, Nat.reduceEqDiff, reduceIte, Nat.reduceSub]) (by simp only [LE, EN, Nat.reduceEqDiff, reduceIte, Nat.reduceSub]) (by simp only [LE, EN, Nat.reduceEqDiff, reduceIte, Nat.reduceSub])
         done)
      | (have hs : cmpCell b k a[k] = some (cmpV a[k] b[k]) := by
           (simp (disch := omega) only [cmpCell, getD_lt]; rw [if_pos]; omega)
         simp -dsimp (disch := (first | omega | (simp only [LN]; omega))) only [retQ, Tryd.results36, resVals, cellRV, resOf, St.rest, St.freeze, RT, go_sem, ↓reduceIte, seval]
         rw [cmpRows, scan_leaf (by omega) hs hi]
         done)
  · have hm : ¬ (k : Int) < (if (b.length : Int) < (a.length : Int) then (b.length : Int) else (a.length : Int)) := by split <;> omega
    have hn : scan (cmpCell b) a 0 = none := by
      rw [← hi]
      rcases Nat.lt_or_ge k a.length with h | h
      · exact scan_all_none fun j x hj => if_neg (by omega)
      · rw [scan_end (by omega)]
    repeat' (first
      | ((first
        | with_reducible refine AWP.regionL tyOk fun K hK => ?_
        | ((with_reducible first | refine GOn.isT ?_ ?_ | refine HOn.isT ?_ ?_ | refine pickK.isT ?_ ?_); focus (first | with_reducible rfl | with_reducible assumption | (simp only [NM, LN]; first | done | with_reducible assumption | omega)))
        | ((with_reducible first | refine GOn.isF ?_ ?_ | refine HOn.isF ?_ ?_ | refine pickK.isF ?_ ?_); focus (first | with_reducible rfl | with_reducible assumption | (simp only [NM, LN]; first | done | with_reducible assumption | omega)))
        | ((with_reducible first | refine GOn.split (fun h => ?_) (fun h => ?_) | refine HOn.split (fun h => ?_) (fun h => ?_) | refine pickK.split (fun h => ?_) (fun h => ?_)) <;> (try simp only [NM] at h))
        | with_reducible refine AWP.drawAll tyOk mixed 6 (by kernel_rfl) fun K hK => ?_
        | ((with_reducible refine CallJ.is ?_); (first | refine CallJ.pure (compareInts_sat _ _) ?_ | ((apply CallJ.lentI); (focus (simp -dsimp (disch := (first | omega | (simp only [LN]; omega))) only [go_sem, ↓reduceIte, seval, hm]; rfl)); (focus (first | exact (compareInts_sat _ _))))))
        | ((with_reducible refine CallH.is ?_); (first | refine CallH.intro (compareInts_sat _ _) ?_))) <;> simp -dsimp (disch := (first | omega | (simp only [LN]; omega))) only [go_sem, ↓reduceIte, seval, hm])
      | ((with_reducible refine hK _ ?_); clear hK K)
      | (with_reducible first | refine AWP.seq ?_ | refine thenQ_normal ?_ | refine AWP.block ?_ | refine AWP.skip ?_ | refine AWP.ret ?_ | refine thenQ_ret ?_ | refine blockQ_ret ?_ | refine AWP.exit ?_ | refine thenQ_exit ?_ | refine blockQ_normal ?_ | refine blockQ_exit ?_)
      | refine blockQ_exit_ne rfl ?_
      | (with_reducible refine And.intro (by (first | with_reducible rfl | with_reducible assumption | omega | (simp only [LN]; first | done | with_reducible rfl | omega) | (simp only [NM, LN]; first | done | with_reducible assumption | omega) | (and_intros <;> first | with_reducible assumption | omega | (simp only [LN]; omega)) | fail)) ?_)
      | ((with_reducible refine AWP.condG (T := TT) (b := ?_) ?_ ?_); rotate_left; exact rfl)
      | (with_reducible first | refine CondG.t ?_ | refine CondG.f ?_ | refine CondG.not ?_)
      | ((with_reducible refine CondG.isT ?_ ?_); focus (first | with_reducible rfl | with_reducible assumption | (simp only [NM, LN]; first | done | with_reducible assumption | omega)))
      | ((with_reducible refine CondG.isF ?_ ?_); focus (first | with_reducible rfl | with_reducible assumption | (simp only [NM, LN]; first | done | with_reducible assumption | omega)))
      | ((with_reducible refine CondG.split (fun h => ?_) (fun h => ?_)) <;> (try simp only [NM] at h)))
    simp -dsimp (disch := (first | omega | (simp only [LN]; omega))) only [retQ, Tryd.results36, resVals, cellRV, resOf, St.rest, St.freeze, RT, go_sem, ↓reduceIte, seval]
    rw [cmpRows, hn]

set_option maxHeartbeats 8000000 in
theorem cloneRow_own (r : List Val) (h1 : r.length ≤ 1099511627776) : SatM Tryd.prog 27 [.one (eRow r)] [] [] (.v (.one (.ref 2 0 r.length))) [] [(2, ⟨3, r.map eVal, []⟩)] := by
  refine satM_of_body tyOk [] [2] Tryd.func27 rfl (by kernel_rfl) ⟨Nat.le_of_ble_eq_true rfl, Nat.le_of_ble_eq_true rfl⟩ fun w0 m0 F0 => ?_
  simp only [Tryd.ntmps27, envOf, Nat.reduceAdd]
  repeat' (first
    | ((first
      | with_reducible refine AWP.regionL tyOk fun K hK => ?_
      | ((with_reducible first | refine GOn.isT ?_ ?_ | refine HOn.isT ?_ ?_ | refine pickK.isT ?_ ?_); focus (first | with_reducible rfl | with_reducible assumption | (simp only [NM, LN]; first | done | with_reducible assumption | omega)))
      | ((with_reducible first | refine GOn.isF ?_ ?_ | refine HOn.isF ?_ ?_ | refine pickK.isF ?_ ?_); focus (first | with_reducible rfl | with_reducible assumption | (simp only [NM, LN]; first | done | with_reducible assumption | omega)))
      | ((with_reducible first | refine GOn.split (fun h => ?_) (fun h => ?_) | refine HOn.split (fun h => ?_) (fun h => ?_) | refine pickK.split (fun h => ?_) (fun h => ?_)) <;> (try simp only [NM] at h))
      | with_reducible refine AWP.drawAll tyOk mixed 6 (by kernel_rfl) fun K hK => ?_) <;> simp -dsimp (disch := (first | omega | (simp only [LN]; omega))) only [go_sem, ↓reduceIte, seval])
    | ((with_reducible refine hK _ ?_); clear hK K)
    | (with_reducible first | refine AWP.seq ?_ | refine thenQ_normal ?_ | refine AWP.block ?_ | refine AWP.skip ?_ | refine AWP.ret ?_ | refine thenQ_ret ?_ | refine blockQ_ret ?_ | refine AWP.exit ?_ | refine thenQ_exit ?_ | refine blockQ_normal ?_ | refine blockQ_exit ?_)
    | refine blockQ_exit_ne rfl ?_
    | (with_reducible refine And.intro (by (first | with_reducible rfl | with_reducible assumption | omega | (simp only [LN]; first | done | with_reducible rfl | omega) | (simp only [NM, LN]; first | done | with_reducible assumption | omega) | (and_intros <;> first | with_reducible assumption | omega | (simp only [LN]; omega)) | fail)) ?_)
    | ((with_reducible refine AWP.condG (T := TT) (b := ?_) ?_ ?_); rotate_left; exact rfl)
    | (with_reducible first | refine CondG.t ?_ | refine CondG.f ?_ | refine CondG.not ?_)
    | ((with_reducible refine CondG.isT ?_ ?_); focus (first | with_reducible rfl | with_reducible assumption | (simp only [NM, LN]; first | done | with_reducible assumption | omega)))
    | ((with_reducible refine CondG.isF ?_ ?_); focus (first | with_reducible rfl | with_reducible assumption | (simp only [NM, LN]; first | done | with_reducible assumption | omega)))
    | ((with_reducible refine CondG.split (fun h => ?_) (fun h => ?_)) <;> (try simp only [NM] at h)))
  intro b hb
  refine hK _ ?_
  clear hK K
  repeat' (first
    | ((first
      | with_reducible refine AWP.regionL tyOk fun K hK => ?_
      | ((with_reducible first | refine GOn.isT ?_ ?_ | refine HOn.isT ?_ ?_ | refine pickK.isT ?_ ?_); focus (first | with_reducible rfl | with_reducible assumption | (simp only [NM, LN]; first | done | with_reducible assumption | omega)))
      | ((with_reducible first | refine GOn.isF ?_ ?_ | refine HOn.isF ?_ ?_ | refine pickK.isF ?_ ?_); focus (first | with_reducible rfl | with_reducible assumption | (simp only [NM, LN]; first | done | with_reducible assumption | omega)))
      | ((with_reducible first | refine GOn.split (fun h => ?_) (fun h => ?_) | refine HOn.split (fun h => ?_) (fun h => ?_) | refine pickK.split (fun h => ?_) (fun h => ?_)) <;> (try simp only [NM] at h))
      | with_reducible refine AWP.drawAll tyOk mixed 6 (by kernel_rfl) fun K hK => ?_) <;> simp -dsimp (disch := (first | omega | (simp only [LN]; omega))) only [go_sem, ↓reduceIte, seval])
    | ((with_reducible refine hK _ ?_); clear hK K)
    | (with_reducible first | refine AWP.seq ?_ | refine thenQ_normal ?_ | refine AWP.block ?_ | refine AWP.skip ?_ | refine AWP.ret ?_ | refine thenQ_ret ?_ | refine blockQ_ret ?_ | refine AWP.exit ?_ | refine thenQ_exit ?_ | refine blockQ_normal ?_ | refine blockQ_exit ?_)
    | refine blockQ_exit_ne rfl ?_
    | (with_reducible refine And.intro (by (first | with_reducible rfl | with_reducible assumption | omega | (simp only [LN]; first | done | with_reducible rfl | omega) | (simp only [NM, LN]; first | done | with_reducible assumption | omega) | (and_intros <;> first | with_reducible assumption | omega | (simp only [LN]; omega)) | fail)) ?_)
    | ((with_reducible refine AWP.condG (T := TT) (b := ?_) ?_ ?_); rotate_left; exact rfl)
    | (with_reducible first | refine CondG.t ?_ | refine CondG.f ?_ | refine CondG.not ?_)
    | ((with_reducible refine CondG.isT ?_ ?_); focus (first | with_reducible rfl | with_reducible assumption | (simp only [NM, LN]; first | done | with_reducible assumption | omega)))
    | ((with_reducible refine CondG.isF ?_ ?_); focus (first | with_reducible rfl | with_reducible assumption | (simp only [NM, LN]; first | done | with_reducible assumption | omega)))
    | ((with_reducible refine CondG.split (fun h => ?_) (fun h => ?_)) <;> (try simp only [NM] at h)))
  all_goals simp -dsimp (disch := (first | omega | (simp only [LN]; omega))) only [retQ, Tryd.results27, resVals, cellRV, resOf, St.rest, St.freeze, RT, go_sem, ↓reduceIte, seval]
  have h2 : r = [] := by
    cases r with
    | nil => rfl
    | cons x r => exact absurd ((hb _ rfl (by simp)).symm.trans ‹b = true›) (by decide)
  subst h2
  exact ⟨rfl, rfl⟩
theorem cloneRow_sat (r : List Val) (h1 : r.length ≤ 1099511627776) : Sat Tryd.prog 27 [.one (eRow r)] (.v (.one (eRow r))) :=
  (cloneRow_own r h1).frz (by
    simp -dsimp (disch := (first | omega | (simp only [LN]; omega))) only [go_sem, ↓reduceIte, seval, topL_ref, St.rest, roots, dropL_nil, eRow]
    )

set_option maxHeartbeats 8000000 in
theorem relClone_own (l : List Row) (h1 : l.length ≤ 1099511627776) (h2 : ∀ r ∈ l, r.length ≤ 1099511627776) : SatM Tryd.prog 33 [.one (eRows l)] [] [] (.v (.one (.ref 2 0 l.length))) [] [(2, ⟨1, l.map eRow1, []⟩)] := by
  refine satM_of_body tyOk [] [2] Tryd.func33 rfl (by kernel_rfl) ⟨Nat.le_of_ble_eq_true rfl, Nat.le_of_ble_eq_true rfl⟩ fun w0 m0 F0 => ?_
  simp only [Tryd.ntmps33, envOf, Nat.reduceAdd]
  repeat' (first
    | ((first
      | with_reducible refine AWP.regionL tyOk fun K hK => ?_
      | ((with_reducible first | refine GOn.isT ?_ ?_ | refine HOn.isT ?_ ?_ | refine pickK.isT ?_ ?_); focus (first | with_reducible rfl | with_reducible assumption | (simp only [NM, LN]; first | done | with_reducible assumption | omega)))
      | ((with_reducible first | refine GOn.isF ?_ ?_ | refine HOn.isF ?_ ?_ | refine pickK.isF ?_ ?_); focus (first | with_reducible rfl | with_reducible assumption | (simp only [NM, LN]; first | done | with_reducible assumption | omega)))
      | ((with_reducible first | refine GOn.split (fun h => ?_) (fun h => ?_) | refine HOn.split (fun h => ?_) (fun h => ?_) | refine pickK.split (fun h => ?_) (fun h => ?_)) <;> (try simp only [NM] at h))
      | with_reducible refine AWP.drawAll tyOk mixed 6 (by kernel_rfl) fun K hK => ?_) <;> simp -dsimp (disch := (first | omega | (simp only [LN]; omega))) only [go_sem, ↓reduceIte, seval])
    | ((with_reducible refine hK _ ?_); clear hK K)
    | (with_reducible first | refine AWP.seq ?_ | refine thenQ_normal ?_ | refine AWP.block ?_ | refine AWP.skip ?_ | refine AWP.ret ?_ | refine thenQ_ret ?_ | refine blockQ_ret ?_ | refine AWP.exit ?_ | refine thenQ_exit ?_ | refine blockQ_normal ?_ | refine blockQ_exit ?_)
    | refine blockQ_exit_ne rfl ?_
    | (with_reducible refine And.intro (by (first | with_reducible rfl | with_reducible assumption | omega | (simp only [LN]; first | done | with_reducible rfl | omega) | (simp only [NM, LN]; first | done | with_reducible assumption | omega) | (and_intros <;> first | with_reducible assumption | omega | (simp only [LN]; omega)) | fail)) ?_)
    | ((with_reducible refine AWP.condG (T := TT) (b := ?_) ?_ ?_); rotate_left; exact rfl)
    | (with_reducible first | refine CondG.t ?_ | refine CondG.f ?_ | refine CondG.not ?_)
    | ((with_reducible refine CondG.isT ?_ ?_); focus (first | with_reducible rfl | with_reducible assumption | (simp only [NM, LN]; first | done | with_reducible assumption | omega)))
    | ((with_reducible refine CondG.isF ?_ ?_); focus (first | with_reducible rfl | with_reducible assumption | (simp only [NM, LN]; first | done | with_reducible assumption | omega)))
    | ((with_reducible refine CondG.split (fun h => ?_) (fun h => ?_)) <;> (try simp only [NM] at h)))
  refine AWP.loop (ι := {k : Nat // k ≤ l.length}) (fun k => ⟨19, [(3, .v (.one (.ref 3 0 k.1))), (6, .v (.one (eRows l))), (7, .v (oI l.length)), (8, .v (oI k.1))], [], [(3, ⟨1, (l.take k.1).map eRow1, []⟩)]⟩) (fun k => l.length - k.1) ⟨0, Nat.zero_le _⟩ ?_ fun ⟨k, hkl⟩ => ?_
  · exact St.le_mk (by simp only [LE, EN, Nat.reduceEqDiff, reduceIte, Nat.reduceSub]) (by simp only [LE, EN, Nat.reduceEqDiff, reduceIte, Nat.reduceSub]) (by simp only [LE, EN, Nat.reduceEqDiff, reduceIte, Nat.reduceSub])
  have hlen : (l.take k).length = k := by simp; omega
  rcases Nat.lt_or_ge k l.length with hc | hc
  · have b1 := h2 l[k] (List.getElem_mem hc)
    repeat' (first
      | ((first
        | with_reducible refine AWP.regionL tyOk fun K hK => ?_
        | ((with_reducible first | refine GOn.isT ?_ ?_ | refine HOn.isT ?_ ?_ | refine pickK.isT ?_ ?_); focus (first | with_reducible rfl | with_reducible assumption | (simp only [NM, LN]; first | done | with_reducible assumption | omega)))
        | ((with_reducible first | refine GOn.isF ?_ ?_ | refine HOn.isF ?_ ?_ | refine pickK.isF ?_ ?_); focus (first | with_reducible rfl | with_reducible assumption | (simp only [NM, LN]; first | done | with_reducible assumption | omega)))
        | ((with_reducible first | refine GOn.split (fun h => ?_) (fun h => ?_) | refine HOn.split (fun h => ?_) (fun h => ?_) | refine pickK.split (fun h => ?_) (fun h => ?_)) <;> (try simp only [NM] at h))
        | with_reducible refine AWP.drawAll tyOk mixed 6 (by kernel_rfl) fun K hK => ?_
        | ((with_reducible refine CallJ.is ?_); (first | refine CallJ.pure (cloneRow_sat _ b1) ?_ | ((apply CallJ.lentI); (focus (simp -dsimp (disch := (first | omega | (simp only [LN]; omega))) only [go_sem, ↓reduceIte, seval, hlen]; rfl)); (focus (first | exact (cloneRow_sat _ b1))))))
        | ((with_reducible refine CallH.is ?_); (first | refine CallH.intro (cloneRow_sat _ b1) ?_))) <;> simp -dsimp (disch := (first | omega | (simp only [LN]; omega))) only [go_sem, ↓reduceIte, seval, hlen])
      | ((with_reducible refine hK _ ?_); clear hK K)
      | (with_reducible first | refine AWP.seq ?_ | refine thenQ_normal ?_ | refine AWP.block ?_ | refine AWP.skip ?_ | refine AWP.ret ?_ | refine thenQ_ret ?_ | refine blockQ_ret ?_ | refine AWP.exit ?_ | refine thenQ_exit ?_ | refine blockQ_normal ?_ | refine blockQ_exit ?_)
      | refine blockQ_exit_ne rfl ?_
      | (with_reducible refine And.intro (by (first | with_reducible rfl | with_reducible assumption | omega | (simp only [LN]; first | done | with_reducible rfl | omega) | (simp only [NM, LN]; first | done | with_reducible assumption | omega) | (and_intros <;> first | with_reducible assumption | omega | (simp only [LN]; omega)) | fail)) ?_)
      | ((with_reducible refine AWP.condG (T := TT) (b := ?_) ?_ ?_); rotate_left; exact rfl)
      | (with_reducible first | refine CondG.t ?_ | refine CondG.f ?_ | refine CondG.not ?_)
      | ((with_reducible refine CondG.isT ?_ ?_); focus (first | with_reducible rfl | with_reducible assumption | (simp only [NM, LN]; first | done | with_reducible assumption | omega)))
      | ((with_reducible refine CondG.isF ?_ ?_); focus (first | with_reducible rfl | with_reducible assumption | (simp only [NM, LN]; first | done | with_reducible assumption | omega)))
      | ((with_reducible refine CondG.split (fun h => ?_) (fun h => ?_)) <;> (try simp only [NM] at h)))
    refine ⟨⟨k + 1, by omega⟩, by simp only; omega, ?_⟩
    have e := take_snoc l k hc
    exact St.le_mk (by simp only [LE, EN, Nat.reduceEqDiff, reduceIte, Nat.reduceSub, e, eRow1, eRow]) (by simp only [LE, EN, Nat.reduceEqDiff, reduceIte, Nat.reduceSub, e, eRow1, eRow]) (by simp only [LE, EN, Nat.reduceEqDiff, reduceIte, Nat.reduceSub, e, eRow1, eRow])
  · have hk : k = l.length := by omega
    subst hk
    repeat' (first
      | ((first
        | with_reducible refine AWP.regionL tyOk fun K hK => ?_
        | ((with_reducible first | refine GOn.isT ?_ ?_ | refine HOn.isT ?_ ?_ | refine pickK.isT ?_ ?_); focus (first | with_reducible rfl | with_reducible assumption | (simp only [NM, LN]; first | done | with_reducible assumption | omega)))
        | ((with_reducible first | refine GOn.isF ?_ ?_ | refine HOn.isF ?_ ?_ | refine pickK.isF ?_ ?_); focus (first | with_reducible rfl | with_reducible assumption | (simp only [NM, LN]; first | done | with_reducible assumption | omega)))
        | ((with_reducible first | refine GOn.split (fun h => ?_) (fun h => ?_) | refine HOn.split (fun h => ?_) (fun h => ?_) | refine pickK.split (fun h => ?_) (fun h => ?_)) <;> (try simp only [NM] at h))
        | with_reducible refine AWP.drawAll tyOk mixed 6 (by kernel_rfl) fun K hK => ?_) <;> simp -dsimp (disch := (first | omega | (simp only [LN]; omega))) only [go_sem, ↓reduceIte, seval])
      | ((with_reducible refine hK _ ?_); clear hK K)
      | (with_reducible first | refine AWP.seq ?_ | refine thenQ_normal ?_ | refine AWP.block ?_ | refine AWP.skip ?_ | refine AWP.ret ?_ | refine thenQ_ret ?_ | refine blockQ_ret ?_ | refine AWP.exit ?_ | refine thenQ_exit ?_ | refine blockQ_normal ?_ | refine blockQ_exit ?_)
      | refine blockQ_exit_ne rfl ?_
      | (with_reducible refine And.intro (by (first | with_reducible rfl | with_reducible assumption | omega | (simp only [LN]; first | done | with_reducible rfl | omega) | (simp only [NM, LN]; first | done | with_reducible assumption | omega) | (and_intros <;> first | with_reducible assumption | omega | (simp only [LN]; omega)) | fail)) ?_)
      | ((with_reducible refine AWP.condG (T := TT) (b := ?_) ?_ ?_); rotate_left; exact rfl)
      | (with_reducible first | refine CondG.t ?_ | refine CondG.f ?_ | refine CondG.not ?_)
      | ((with_reducible refine CondG.isT ?_ ?_); focus (first | with_reducible rfl | with_reducible assumption | (simp only [NM, LN]; first | done | with_reducible assumption | omega)))
      | ((with_reducible refine CondG.isF ?_ ?_); focus (first | with_reducible rfl | with_reducible assumption | (simp only [NM, LN]; first | done | with_reducible assumption | omega)))
      | ((with_reducible refine CondG.split (fun h => ?_) (fun h => ?_)) <;> (try simp only [NM] at h)))
    simp -dsimp (disch := (first | omega | (simp only [LN]; omega))) only [retQ, Tryd.results33, resVals, cellRV, resOf, St.rest, St.freeze, RT, go_sem, ↓reduceIte, seval]

/-- relation.Find. -/
def atKey (t : Tbl) (key : Row) (r : Row) : Bool := decide (0 ≤ cmpRows (keyOf t.pk r) key)
def findPos (t : Tbl) (rows : List Row) (key : Row) : Int := idx (atKey t key) rows 0
def findI (t : Tbl) (rows : List Row) (key : Row) : Int := if findPos t rows key < 0 then rows.length else findPos t rows key
def findB (t : Tbl) (rows : List Row) (key : Row) : Bool := if findPos t rows key < 0 then false else cmpRows (keyOf t.pk (rows.getD (findPos t rows key).toNat [])) key == 0

set_option maxHeartbeats 8000000 in
theorem find_sat (t : Tbl) (rows : List Row) (key : Row) (h1 : t.pk.length ≤ 1099511627776) (h2 : rows.length ≤ 140737488355328) (h3 : key.length ≤ 140737488355328) :
    Sat Tryd.prog 12 [.agg (eTbl t), .one (eRows rows), .one (eRow key)] (.tup [oI (findI t rows key), oB (findB t rows key)]) := by
  refine sat_of_body tyOk Tryd.func12 rfl (by kernel_rfl) ⟨Nat.le_of_ble_eq_true rfl, Nat.le_of_ble_eq_true rfl⟩ fun w0 m0 F0 => ?_
  simp only [Tryd.ntmps12, envOf, Nat.reduceAdd]
  repeat' (first
    | ((first
      | with_reducible refine AWP.regionL tyOk fun K hK => ?_
      | ((with_reducible first | refine GOn.isT ?_ ?_ | refine HOn.isT ?_ ?_ | refine pickK.isT ?_ ?_); focus (first | with_reducible rfl | with_reducible assumption | (simp only [NM, LN]; first | done | with_reducible assumption | omega)))
      | ((with_reducible first | refine GOn.isF ?_ ?_ | refine HOn.isF ?_ ?_ | refine pickK.isF ?_ ?_); focus (first | with_reducible rfl | with_reducible assumption | (simp only [NM, LN]; first | done | with_reducible assumption | omega)))
      | ((with_reducible first | refine GOn.split (fun h => ?_) (fun h => ?_) | refine HOn.split (fun h => ?_) (fun h => ?_) | refine pickK.split (fun h => ?_) (fun h => ?_)) <;> (try simp only [NM] at h))
      | with_reducible refine AWP.drawAll tyOk mixed 6 (by kernel_rfl) fun K hK => ?_) <;> simp -dsimp (disch := (first | omega | (simp only [LN]; omega))) only [go_sem, ↓reduceIte, seval])
    | ((with_reducible refine hK _ ?_); clear hK K)
    | (with_reducible first | refine AWP.seq ?_ | refine thenQ_normal ?_ | refine AWP.block ?_ | refine AWP.skip ?_ | refine AWP.ret ?_ | refine thenQ_ret ?_ | refine blockQ_ret ?_ | refine AWP.exit ?_ | refine thenQ_exit ?_ | refine blockQ_normal ?_ | refine blockQ_exit ?_)
    | refine blockQ_exit_ne rfl ?_
    | (with_reducible refine And.intro (by (first | with_reducible rfl | with_reducible assumption | omega | (simp only [LN]; first | done | with_reducible rfl | omega) | (simp only [NM, LN]; first | done | with_reducible assumption | omega) | (and_intros <;> first | with_reducible assumption | omega | (simp only [LN]; omega)) | fail)) ?_)
    | ((with_reducible refine AWP.condG (T := TT) (b := ?_) ?_ ?_); rotate_left; exact rfl)
    | (with_reducible first | refine CondG.t ?_ | refine CondG.f ?_ | refine CondG.not ?_)
    | ((with_reducible refine CondG.isT ?_ ?_); focus (first | with_reducible rfl | with_reducible assumption | (simp only [NM, LN]; first | done | with_reducible assumption | omega)))
    | ((with_reducible refine CondG.isF ?_ ?_); focus (first | with_reducible rfl | with_reducible assumption | (simp only [NM, LN]; first | done | with_reducible assumption | omega)))
    | ((with_reducible refine CondG.split (fun h => ?_) (fun h => ?_)) <;> (try simp only [NM] at h)))
  refine AWP.loop (ι := {k : Nat // k ≤ rows.length ∧ idx (atKey t key) (rows.drop k) k = findPos t rows key}) (fun k => ⟨31, [(3, .v (.one (.ptr 3 0))), (1, .v (.one (eRows rows))), (2, .v (.one (eRow key))), (11, .v (.one (eRows rows))), (12, .v (oI rows.length)), (13, .v (oI k.1))], [(3, eTbl t)], []⟩) (fun k => rows.length - k.1) ⟨0, Nat.zero_le _, rfl⟩ ?_ fun ⟨k, hkl, hi⟩ => ?_
  · exact St.le_mk (by simp only [LE, EN, Nat.reduceEqDiff, reduceIte, Nat.reduceSub, eTbl]) (by simp only [LE, EN, Nat.reduceEqDiff, reduceIte, Nat.reduceSub, eTbl]) (by simp only [LE, EN, Nat.reduceEqDiff, reduceIte, Nat.reduceSub, eTbl])
  rcases Nat.lt_or_ge k rows.length with hc | hc
  · have b1 : (keyOf t.pk rows[k]).length ≤ 140737488355328 := by rw [keyOf_length]; omega
    repeat' (first
      | ((first
        | with_reducible refine AWP.regionL tyOk fun K hK => ?_
        | ((with_reducible first | refine GOn.isT ?_ ?_ | refine HOn.isT ?_ ?_ | refine pickK.isT ?_ ?_); focus (first | with_reducible rfl | with_reducible assumption | (simp only [NM, LN]; first | done | with_reducible assumption | omega)))
        | ((with_reducible first | refine GOn.isF ?_ ?_ | refine HOn.isF ?_ ?_ | refine pickK.isF ?_ ?_); focus (first | with_reducible rfl | with_reducible assumption | (simp only [NM, LN]; first | done | with_reducible assumption | omega)))
        | ((with_reducible first | refine GOn.split (fun h => ?_) (fun h => ?_) | refine HOn.split (fun h => ?_) (fun h => ?_) | refine pickK.split (fun h => ?_) (fun h => ?_)) <;> (try simp only [NM] at h))
        | with_reducible refine AWP.drawAll tyOk mixed 6 (by kernel_rfl) fun K hK => ?_
        | ((with_reducible refine CallJ.is ?_); (first | refine CallJ.pure (key_sat t rows[k] h1) ?_ | refine CallJ.pure (compareRows_sat (keyOf t.pk rows[k]) key b1 h3) ?_ | ((apply CallJ.lentI); (focus (simp -dsimp (disch := (first | omega | (simp only [LN]; omega))) only [go_sem, ↓reduceIte, seval]; rfl)); (focus (first | exact (key_sat t rows[k] h1) | exact (compareRows_sat (keyOf t.pk rows[k]) key b1 h3))))))
        | ((with_reducible refine CallH.is ?_); (first | refine CallH.intro (key_sat t rows[k] h1) ?_ | refine CallH.intro (compareRows_sat (keyOf t.pk rows[k]) key b1 h3) ?_))) <;> simp -dsimp (disch := (first | omega | (simp only [LN]; omega))) only [go_sem, ↓reduceIte, seval])
      | ((with_reducible refine hK _ ?_); clear hK K)
      | (with_reducible first | refine AWP.seq ?_ | refine thenQ_normal ?_ | refine AWP.block ?_ | refine AWP.skip ?_ | refine AWP.ret ?_ | refine thenQ_ret ?_ | refine blockQ_ret ?_ | refine AWP.exit ?_ | refine thenQ_exit ?_ | refine blockQ_normal ?_ | refine blockQ_exit ?_)
      | refine blockQ_exit_ne rfl ?_
      | (with_reducible refine And.intro (by (first | with_reducible rfl | with_reducible assumption | omega | (simp only [LN]; first | done | with_reducible rfl | omega) | (simp only [NM, LN]; first | done | with_reducible assumption | omega) | (and_intros <;> first | with_reducible assumption | omega | (simp only [LN]; omega)) | fail)) ?_)
      | ((with_reducible refine AWP.condG (T := TT) (b := ?_) ?_ ?_); rotate_left; exact rfl)
      | (with_reducible first | refine CondG.t ?_ | refine CondG.f ?_ | refine CondG.not ?_)
      | ((with_reducible refine CondG.isT ?_ ?_); focus (first | with_reducible rfl | with_reducible assumption | (simp only [NM, LN]; first | done | with_reducible assumption | omega)))
      | ((with_reducible refine CondG.isF ?_ ?_); focus (first | with_reducible rfl | with_reducible assumption | (simp only [NM, LN]; first | done | with_reducible assumption | omega)))
      | ((with_reducible refine CondG.split (fun h => ?_) (fun h => ?_)) <;> (try simp only [NM] at h)))
    · have hp : atKey t key rows[k] = true := by simp only [atKey, decide_eq_true_eq]; omega
      have hq : findPos t rows key = (k : Int) := by rw [← hi, idx_hit hc hp]
      simp -dsimp (disch := (first | omega | (simp only [LN]; omega))) only [retQ, Tryd.results12, resVals, cellRV, resOf, St.rest, St.freeze, RT, go_sem, ↓reduceIte, seval]
      simp only [findI, findB, hq, Int.toNat_natCast, getD_lt _ hc]
      rw [if_neg (by omega), if_neg (by omega)]
    · have hp : atKey t key rows[k] = false := by simp only [atKey, decide_eq_false_iff_not]; omega
      refine ⟨⟨k + 1, by omega, by rw [idx_step hc hp, hi]⟩, by simp only; omega, ?_⟩
      exact St.le_mk (by simp only [LE, EN, Nat.reduceEqDiff, reduceIte, Nat.reduceSub, eTbl]) (by simp only [LE, EN, Nat.reduceEqDiff, reduceIte, Nat.reduceSub, eTbl]) (by simp only [LE, EN, Nat.reduceEqDiff, reduceIte, Nat.reduceSub, eTbl])
  · rw [idx_end (by omega)] at hi
    repeat' (first
      | ((first
        | with_reducible refine AWP.regionL tyOk fun K hK => ?_
        | ((with_reducible first | refine GOn.isT ?_ ?_ | refine HOn.isT ?_ ?_ | refine pickK.isT ?_ ?_); focus (first | with_reducible rfl | with_reducible assumption | (simp only [NM, LN]; first | done | with_reducible assumption | omega)))
        | ((with_reducible first | refine GOn.isF ?_ ?_ | refine HOn.isF ?_ ?_ | refine pickK.isF ?_ ?_); focus (first | with_reducible rfl | with_reducible assumption | (simp only [NM, LN]; first | done | with_reducible assumption | omega)))
        | ((with_reducible first | refine GOn.split (fun h => ?_) (fun h => ?_) | refine HOn.split (fun h => ?_) (fun h => ?_) | refine pickK.split (fun h => ?_) (fun h => ?_)) <;> (try simp only [NM] at h))
        | with_reducible refine AWP.drawAll tyOk mixed 6 (by kernel_rfl) fun K hK => ?_) <;> simp -dsimp (disch := (first | omega | (simp only [LN]; omega))) only [go_sem, ↓reduceIte, seval])
      | ((with_reducible refine hK _ ?_); clear hK K)
      | (with_reducible first | refine AWP.seq ?_ | refine thenQ_normal ?_ | refine AWP.block ?_ | refine AWP.skip ?_ | refine AWP.ret ?_ | refine thenQ_ret ?_ | refine blockQ_ret ?_ | refine AWP.exit ?_ | refine thenQ_exit ?_ | refine blockQ_normal ?_ | refine blockQ_exit ?_)
      | refine blockQ_exit_ne rfl ?_
      | (with_reducible refine And.intro (by (first | with_reducible rfl | with_reducible assumption | omega | (simp only [LN]; first | done | with_reducible rfl | omega) | (simp only [NM, LN]; first | done | with_reducible assumption | omega) | (and_intros <;> first | with_reducible assumption | omega | (simp only [LN]; omega)) | fail)) ?_)
      | ((with_reducible refine AWP.condG (T := TT) (b := ?_) ?_ ?_); rotate_left; exact rfl)
      | (with_reducible first | refine CondG.t ?_ | refine CondG.f ?_ | refine CondG.not ?_)
      | ((with_reducible refine CondG.isT ?_ ?_); focus (first | with_reducible rfl | with_reducible assumption | (simp only [NM, LN]; first | done | with_reducible assumption | omega)))
      | ((with_reducible refine CondG.isF ?_ ?_); focus (first | with_reducible rfl | with_reducible assumption | (simp only [NM, LN]; first | done | with_reducible assumption | omega)))
      | ((with_reducible refine CondG.split (fun h => ?_) (fun h => ?_)) <;> (try simp only [NM] at h)))
    simp -dsimp (disch := (first | omega | (simp only [LN]; omega))) only [retQ, Tryd.results12, resVals, cellRV, resOf, St.rest, St.freeze, RT, go_sem, ↓reduceIte, seval]
    simp [findI, findB, ← hi]
end Go.Bw
