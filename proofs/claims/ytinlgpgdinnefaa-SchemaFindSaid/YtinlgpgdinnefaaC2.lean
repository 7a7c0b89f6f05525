/-
  WHAT THE ARGUMENTS OF THIS PROGRAM READ AS: the data of Enc, with the bounds that the form gives.
-/
import Derived.Test.YtinlgpgdinnefaaC1
import Derived.Test.YtinlgpgdinnefaaT15
set_option linter.unusedSimpArgs false
set_option linter.unusedVariables false
namespace Go.Bw
open Go.Proofs

abbrev IntOk (n : Int) : Prop := (Lit.int .i64 n).wf = true
structure Val.Ok (v : Val) : Prop where
  kind : IntOk v.kind
  int : IntOk v.int
  text : v.text.size ≤ reachBytes
structure Col.Ok (c : Col) : Prop where
  name : c.name.size ≤ reachBytes
  kind : IntOk c.kind
structure Tbl.Ok (t : Tbl) : Prop where
  name : t.name.size ≤ reachBytes
  cols : t.cols.length * 32 ≤ reachBytes ∧ ∀ c ∈ t.cols, c.Ok
  pk : t.pk.length * 8 ≤ reachBytes ∧ ∀ n ∈ t.pk, IntOk n
structure FK.Ok (f : FK) : Prop where
  table : f.table.size ≤ reachBytes
  cols : f.cols.length * 8 ≤ reachBytes ∧ ∀ n ∈ f.cols, IntOk n
  ref : f.ref.size ≤ reachBytes
structure Con.Ok (c : Con) : Prop where
  table : c.table.size ≤ reachBytes
  left : IntOk c.left
  op : c.op.size ≤ reachBytes
  right : IntOk c.right
  value : c.value.Ok
structure Sch.Ok (s : Sch) : Prop where
  tables : s.tables.length * 64 ≤ reachBytes ∧ ∀ t ∈ s.tables, t.Ok
  fks : s.fks.length * 56 ≤ reachBytes ∧ ∀ f ∈ s.fks, f.Ok
  cons : s.cons.length * 80 ≤ reachBytes ∧ ∀ c ∈ s.cons, c.Ok
def Row.Ok (r : Row) : Prop := r.length * 32 ≤ reachBytes ∧ ∀ v ∈ r, v.Ok
def RowsOk (rs : List Row) : Prop := rs.length * 24 ≤ reachBytes ∧ ∀ r ∈ rs, Row.Ok r
structure Rel.Ok (r : Rel) : Prop where
  table : r.table.size ≤ reachBytes
  rows : RowsOk r.rows
def InstOk (i : Inst) : Prop := i.length * 40 ≤ reachBytes ∧ ∀ r ∈ i, r.Ok
structure Chg.Ok (c : Chg) : Prop where
  kind : IntOk c.kind
  table : c.table.size ≤ reachBytes
  key : Row.Ok c.key
  row : Row.Ok c.row
def ChgsOk (l : List Chg) : Prop := l.length * 72 ≤ reachBytes ∧ ∀ c ∈ l, c.Ok

variable {w : World}
theorem rd_I : Rd Try.prog w 3 (fun n => [.int .i64 n]) IntOk := rd_int Try.underlying3
theorem rd_S : Rd Try.prog w 9 (fun s => [.str s]) fun s => s.size ≤ reachBytes := rd_string Try.underlying9
theorem cells_int : Try.prog.cellsOf 3 = 1 := by kernel_rfl
theorem cells_string : Try.prog.cellsOf 9 = 1 := by kernel_rfl
theorem cells_bool : Try.prog.cellsOf 4 = 1 := by kernel_rfl
theorem cells_Value : Try.prog.cellsOf 59 = 3 := by kernel_rfl
theorem cells_s_Column : Try.prog.cellsOf 30 = 1 := by kernel_rfl
theorem cells_Column : Try.prog.cellsOf 38 = 3 := by kernel_rfl
theorem cells_s_int : Try.prog.cellsOf 31 = 1 := by kernel_rfl
theorem cells_Table : Try.prog.cellsOf 33 = 3 := by kernel_rfl
theorem cells_s_Table : Try.prog.cellsOf 22 = 1 := by kernel_rfl
theorem cells_ForeignKey : Try.prog.cellsOf 55 = 3 := by kernel_rfl
theorem cells_s_ForeignKey : Try.prog.cellsOf 23 = 1 := by kernel_rfl
theorem cells_Constraint : Try.prog.cellsOf 61 = 7 := by kernel_rfl
theorem cells_s_Constraint : Try.prog.cellsOf 24 = 1 := by kernel_rfl
theorem cells_Schema : Try.prog.cellsOf 26 = 3 := by kernel_rfl
theorem bytes_int : Try.prog.bytesOf 3 = 8 := by kernel_rfl
theorem bytes_Column : Try.prog.bytesOf 38 = 32 := by kernel_rfl
theorem bytes_Table : Try.prog.bytesOf 33 = 64 := by kernel_rfl
theorem bytes_ForeignKey : Try.prog.bytesOf 55 = 56 := by kernel_rfl
theorem bytes_Constraint : Try.prog.bytesOf 61 = 80 := by kernel_rfl
theorem rd_val : Rd Try.prog w 59 eVal Val.Ok :=
  (rd_struct3 Try.underlying59 ⟨rfl, rfl, rfl⟩ ⟨cells_int, cells_int, cells_string⟩ cells_Value rd_I rd_I rd_S).to (fun p => ⟨p.1, p.2.1, p.2.2.1⟩) (fun _ => by simp [eVal]) fun _ h => ⟨h.1, h.2.1, h.2.2.1⟩
theorem rd_col : Rd Try.prog w 38 eCol Col.Ok :=
  (rd_struct3 Try.underlying38 ⟨rfl, rfl, rfl⟩ ⟨cells_string, cells_int, cells_bool⟩ cells_Column rd_S rd_I (rd_bool Try.underlying4)).to (fun p => ⟨p.1, p.2.1, p.2.2.1⟩) (fun _ => by simp [eCol]) fun _ h => ⟨h.1, h.2.1⟩
theorem rd_cols : Rd Try.prog w 30 (fun l => [eCols l]) fun l => l.length * 32 ≤ reachBytes ∧ ∀ c ∈ l, Col.Ok c :=
  rd_slice Try.underlying30 cells_Column bytes_Column (fun _ => rfl) rd_col
theorem rd_ints : Rd Try.prog w 31 (fun l => [eInts l]) fun l => l.length * 8 ≤ reachBytes ∧ ∀ c ∈ l, IntOk c :=
  rd_slice Try.underlying31 cells_int bytes_int (fun _ => rfl) (eβ := eInt1) rd_I
theorem rd_tbl : Rd Try.prog w 33 eTbl Tbl.Ok :=
  (rd_struct3 Try.underlying33 ⟨rfl, rfl, rfl⟩ ⟨cells_string, cells_s_Column, cells_s_int⟩ cells_Table rd_S rd_cols rd_ints).to (fun p => ⟨p.1, p.2.1, p.2.2.1⟩) (fun _ => by simp [eTbl]) fun _ h => ⟨h.1, h.2.1, h.2.2.1⟩
theorem rd_tbls : Rd Try.prog w 22 (fun l => [eTbls l]) fun l => l.length * 64 ≤ reachBytes ∧ ∀ c ∈ l, Tbl.Ok c :=
  rd_slice Try.underlying22 cells_Table bytes_Table (fun _ => rfl) rd_tbl
theorem rd_fk : Rd Try.prog w 55 eFK FK.Ok :=
  (rd_struct3 Try.underlying55 ⟨rfl, rfl, rfl⟩ ⟨cells_string, cells_s_int, cells_string⟩ cells_ForeignKey rd_S rd_ints rd_S).to (fun p => ⟨p.1, p.2.1, p.2.2.1⟩) (fun _ => by simp [eFK]) fun _ h => ⟨h.1, h.2.1, h.2.2.1⟩
theorem rd_fks : Rd Try.prog w 23 (fun l => [eFKs l]) fun l => l.length * 56 ≤ reachBytes ∧ ∀ c ∈ l, FK.Ok c :=
  rd_slice Try.underlying23 cells_ForeignKey bytes_ForeignKey (fun _ => rfl) rd_fk
theorem rd_con : Rd Try.prog w 61 eCon Con.Ok :=
  (rd_struct5 Try.underlying61 ⟨rfl, rfl, rfl, rfl, rfl⟩ ⟨cells_string, cells_int, cells_string, cells_int, cells_Value⟩ cells_Constraint rd_S rd_I rd_S rd_I rd_val).to (fun p => ⟨p.1, p.2.1, p.2.2.1, p.2.2.2.1, p.2.2.2.2.1⟩) (fun _ => by simp [eCon, eVal]) fun _ h => ⟨h.1, h.2.1, h.2.2.1, h.2.2.2.1, h.2.2.2.2.1⟩
theorem rd_cons : Rd Try.prog w 24 (fun l => [eCons l]) fun l => l.length * 80 ≤ reachBytes ∧ ∀ c ∈ l, Con.Ok c :=
  rd_slice Try.underlying24 cells_Constraint bytes_Constraint (fun _ => rfl) rd_con
theorem rd_sch : Rd Try.prog w 26 eSch Sch.Ok :=
  (rd_struct3 Try.underlying26 ⟨rfl, rfl, rfl⟩ ⟨cells_s_Table, cells_s_ForeignKey, cells_s_Constraint⟩ cells_Schema rd_tbls rd_fks rd_cons).to (fun p => ⟨p.1, p.2.1, p.2.2.1⟩) (fun _ => by simp [eSch]) fun _ h => ⟨h.1, h.2.1, h.2.2.1⟩
theorem reachBytes_eq : reachBytes = 140737488351232 := rfl
theorem Sch.Ok.fits {s : Sch} (h : s.Ok) : s.Fits := by
  obtain ⟨⟨a1, a2⟩, ⟨b1, b2⟩, ⟨c1, c2⟩⟩ := h
  rw [reachBytes_eq] at a1 b1 c1
  refine ⟨by omega, fun t ht => ?_, by omega, fun f hf => ?_, by omega⟩
  · obtain ⟨_, ⟨h1, _⟩, ⟨h2, _⟩⟩ := a2 t ht
    rw [reachBytes_eq] at h1 h2
    exact ⟨by omega, by omega⟩
  · obtain ⟨_, ⟨h1, _⟩, _⟩ := b2 f hf
    rw [reachBytes_eq] at h1
    omega
end Go.Bw
