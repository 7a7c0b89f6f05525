/-
  THE DATA AS THE PROOFS SEE THEM, and how they lie in cells.
-/
import Derived.Test.YtinlgpgdinnefaaTy
set_option linter.unusedSimpArgs false
set_option linter.unusedVariables false
namespace Go.Bw
open Go.Proofs

structure Val where
  kind : Int
  int : Int
  text : ByteArray
  deriving DecidableEq, Inhabited
abbrev Row := List Val
structure Col where
  name : ByteArray
  kind : Int
  nullable : Bool
  deriving DecidableEq, Inhabited
structure Tbl where
  name : ByteArray
  cols : List Col
  pk : List Int
  deriving DecidableEq, Inhabited
structure FK where
  table : ByteArray
  cols : List Int
  ref : ByteArray
  deriving DecidableEq, Inhabited
structure Con where
  table : ByteArray
  left : Int
  op : ByteArray
  right : Int
  value : Val
  deriving DecidableEq, Inhabited
structure Sch where
  tables : List Tbl
  fks : List FK
  cons : List Con
  deriving DecidableEq, Inhabited
structure Rel where
  table : ByteArray
  rows : List Row
  deriving DecidableEq, Inhabited
abbrev Inst := List Rel
structure Chg where
  kind : Int
  table : ByteArray
  key : Row
  row : Row
  deriving DecidableEq, Inhabited

def eVal (v : Val) : List L := [.int .i64 v.kind, .int .i64 v.int, .str v.text]
def eRow (r : Row) : L := .sl 3 (r.map eVal)
def eRow1 (r : Row) : List L := [eRow r]
def eRows (rs : List Row) : L := .sl 1 (rs.map eRow1)
def eInt1 (n : Int) : List L := [.int .i64 n]
def eInts (l : List Int) : L := .sl 1 (l.map eInt1)
def eCol (c : Col) : List L := [.str c.name, .int .i64 c.kind, .bool c.nullable]
def eCols (l : List Col) : L := .sl 3 (l.map eCol)
def eTbl (t : Tbl) : List L := [.str t.name, eCols t.cols, eInts t.pk]
def eTbls (l : List Tbl) : L := .sl 3 (l.map eTbl)
def eFK (f : FK) : List L := [.str f.table, eInts f.cols, .str f.ref]
def eFKs (l : List FK) : L := .sl 3 (l.map eFK)
def eCon (c : Con) : List L := [.str c.table, .int .i64 c.left, .str c.op, .int .i64 c.right, .int .i64 c.value.kind, .int .i64 c.value.int, .str c.value.text]
def eCons (l : List Con) : L := .sl 7 (l.map eCon)
def eSch (s : Sch) : List L := [eTbls s.tables, eFKs s.fks, eCons s.cons]
def eRel (r : Rel) : List L := [.str r.table, eRows r.rows]
def eInst (i : Inst) : L := .sl 2 (i.map eRel)
def eChg (c : Chg) : List L := [.int .i64 c.kind, .str c.table, eRow c.key, eRow c.row]
def eChgs (l : List Chg) : L := .sl 4 (l.map eChg)

theorem frz_map {α : Type} {e : α → List L} (h : ∀ x, (e x).map (L.frzN 4) = e x) (l : List α) : (l.map e).map (fun x => x.map (L.frzN 4)) = l.map e := by
  rw [List.map_map]
  exact List.map_congr_left fun x _ => h x
theorem frz_eVal (l : List Val) : (l.map eVal).map (fun x => x.map (L.frzN 4)) = l.map eVal := frz_map (fun _ => rfl) l
theorem frz_eRow1 (l : List Row) : (l.map eRow1).map (fun x => x.map (L.frzN 4)) = l.map eRow1 := frz_map (fun _ => rfl) l
theorem frz_eInt1 (l : List Int) : (l.map eInt1).map (fun x => x.map (L.frzN 4)) = l.map eInt1 := frz_map (fun _ => rfl) l
theorem frz_eCol (l : List Col) : (l.map eCol).map (fun x => x.map (L.frzN 4)) = l.map eCol := frz_map (fun _ => rfl) l
theorem frz_eTbl (l : List Tbl) : (l.map eTbl).map (fun x => x.map (L.frzN 4)) = l.map eTbl := frz_map (fun _ => rfl) l
theorem frz_eFK (l : List FK) : (l.map eFK).map (fun x => x.map (L.frzN 4)) = l.map eFK := frz_map (fun _ => rfl) l
theorem frz_eCon (l : List Con) : (l.map eCon).map (fun x => x.map (L.frzN 4)) = l.map eCon := frz_map (fun _ => rfl) l
theorem frz_eRel (l : List Rel) : (l.map eRel).map (fun x => x.map (L.frzN 4)) = l.map eRel := frz_map (fun _ => rfl) l
theorem frz_eChg (l : List Chg) : (l.map eChg).map (fun x => x.map (L.frzN 4)) = l.map eChg := frz_map (fun _ => rfl) l

theorem noOwn_eVal (l : List Val) : noOwn (l.map eVal) = True := noOwn_map (fun _ => rfl) l
theorem noOwn_eRow1 (l : List Row) : noOwn (l.map eRow1) = True := noOwn_map (fun _ => rfl) l
theorem noOwn_eInt1 (l : List Int) : noOwn (l.map eInt1) = True := noOwn_map (fun _ => rfl) l
theorem noOwn_eCol (l : List Col) : noOwn (l.map eCol) = True := noOwn_map (fun _ => rfl) l
theorem noOwn_eTbl (l : List Tbl) : noOwn (l.map eTbl) = True := noOwn_map (fun _ => rfl) l
theorem noOwn_eFK (l : List FK) : noOwn (l.map eFK) = True := noOwn_map (fun _ => rfl) l
theorem noOwn_eCon (l : List Con) : noOwn (l.map eCon) = True := noOwn_map (fun _ => rfl) l
theorem noOwn_eRel (l : List Rel) : noOwn (l.map eRel) = True := noOwn_map (fun _ => rfl) l
theorem noOwn_eChg (l : List Chg) : noOwn (l.map eChg) = True := noOwn_map (fun _ => rfl) l

abbrev oI (n : Int) : V := .one (.int .i64 n)
abbrev oB (b : Bool) : V := .one (.bool b)
abbrev oS (s : ByteArray) : V := .one (.str s)

end Go.Bw
