/-
  WHAT IS PROVED HERE, of this translation: validateFK_sat, zV_iff, rd_I, rd_S, cells_int, cells_string, cells_bool, cells_Value, cells_s_Column, cells_Column, cells_s_int, cells_Table, .., perm_len, nodup_lt, shiftI_eq, Moved.len, Moved.mem, idx_mem, Moved.pos, Moved.mono, revTo_zero, revTo_all, reverseHops_satM.
  A theorem that ends in sat says what the function it names returns, whatever the state it is called in; the bounds on its arguments stand ahead of it.
-/
import Derived.Test.YtdnapljegcihiaaGreatWd
import Derived.Test.YtdnapljegcihiaaGreatWe
set_option linter.unusedSimpArgs false
set_option linter.unusedVariables false
namespace Go.Bw
open Go.Proofs
set_option maxHeartbeats 8000000 in
theorem validateFK_sat (s : Sch) (fk : FK) (h1 : s.tables.length ≤ 140737488355328) (h2 : fk.cols.length ≤ 140737488355328) (hok : ∀ t ∈ s.tables, OkTbl t) :
    Sat Tryz.prog 38 [.agg (eSch s), .agg (eFK fk)] (.v (oI (fkE s fk))) := by
  rcases idx_cases (fun t => sEq t.name fk.table) s.tables 0 with ⟨e1, _⟩ | ⟨i, hi, e1, _⟩
  · have e1 : tblAt s.tables fk.table = -1 := e1
    refine sS tyOk Tryz.func38 fun w0 m0 F0 => ?_
    simp only [Tryz.ntmps38, envOf, Nat.reduceAdd]
    repeat' (first | ((first | with_reducible refine qV tyOk fun K hK => ?_ | ((with_reducible refine CallJ.is ?_); (refine CallJ.pure (findTable_sat _ _ h1) ?_))) <;> simp -dsimp (disch := first | exact D | fail) only [go_sem, ↓reduceIte, seval, e1, mx0_neg]) | ((with_reducible refine hK _ ?_); clear hK K) | refine Q1 ?_ | ((with_reducible refine qW (T := TT) (b := ?_) ?_ ?_); rotate_left; exact rfl) | fail)
    simp -dsimp (disch := first | exact D | fail) only [retQ, Tryz.results38, resVals, cellRV, resOf, St.rest, St.freeze, RT, go_sem, ↓reduceIte, seval]
    simp [fkE, e1]
  have e1 : tblAt s.tables fk.table = (i : Int) := by unfold tblAt; simpa using e1
  rcases idx_cases (fun t => sEq t.name fk.ref) s.tables 0 with ⟨e2, _⟩ | ⟨q, hq, e2, _⟩
  · have e2 : tblAt s.tables fk.ref = -1 := e2
    refine sS tyOk Tryz.func38 fun w0 m0 F0 => ?_
    simp only [Tryz.ntmps38, envOf, Nat.reduceAdd]
    repeat' (first | ((first | with_reducible refine qV tyOk fun K hK => ?_ | refine Q2 ?_ | ((with_reducible refine CallJ.is ?_); (refine CallJ.pure (findTable_sat _ _ h1) ?_))) <;> simp -dsimp (disch := first | exact D | fail) only [go_sem, ↓reduceIte, seval, e1, e2, mx0_neg, mx0_nat]) | ((with_reducible refine hK _ ?_); clear hK K) | refine Q1 ?_ | ((with_reducible refine qW (T := TT) (b := ?_) ?_ ?_); rotate_left; exact rfl) | fail)
    simp -dsimp (disch := first | exact D | fail) only [retQ, Tryz.results38, resVals, cellRV, resOf, St.rest, St.freeze, RT, go_sem, ↓reduceIte, seval]
    simp [fkE, e2]
  have e2 : tblAt s.tables fk.ref = (q : Int) := by unfold tblAt; simpa using e2
  have g1 : s.tables.getD i zTbl = s.tables[i] := by simp [List.getD, hi]
  have g2 : s.tables.getD q zTbl = s.tables[q] := by simp [List.getD, hq]
  have spec : fkE s fk = fkTE fk s.tables[i] s.tables[q] := by
    simp only [fkE, e1, e2, Int.toNat_natCast, g1, g2]
    rw [if_neg (by omega)]
  have okr := hok _ (List.getElem_mem hq)
  rw [spec]
  refine sS tyOk Tryz.func38 fun w0 m0 F0 => ?_
  simp only [Tryz.ntmps38, envOf, Nat.reduceAdd]
  repeat' (first | ((first | ((fail_if_success (refine AWP.isRegion 5 ?_)); (with_reducible refine qV tyOk fun K hK => ?_)) | refine Q2 ?_ | ((with_reducible refine CallJ.is ?_); (refine CallJ.pure (findTable_sat _ _ h1) ?_))) <;> simp -dsimp (disch := first | exact D | fail) only [go_sem, ↓reduceIte, seval, e1, e2, mx0_neg, mx0_nat]) | ((with_reducible refine hK _ ?_); clear hK K) | refine Q1 ?_ | ((with_reducible refine qW (T := TT) (b := ?_) ?_ ?_); rotate_left; exact rfl) | fail)
  refine AWP.mid ⟨85, [(3, .v (.one (.ptr 3 0))), (9, .v (.one (.ptr 9 0))), (10, .v (.one (.ptr 10 0)))], [(3, eFK fk), (9, eTbl s.tables[i]), (10, eTbl s.tables[q])], []⟩ ?_ ?_
  · refine dY tyOk mixed [(0, 10)] (.cons 10 [] [(0, 10)] (.cons 11 [] [(0, 10)] (.cons 12 [] [(5, 5)] (.cons 13 [] [] .leaf .none) .none) .none) (.cons 11 [] [(0, 10)] (.cons 10 [] [(0, 10)] (.cons 12 [] [(5, 5)] (.cons 13 [] [] .leaf .none) .none) .none) .none)) [10, 11, 12, 13] 8 fun K hK => ?_
    simp only [segt_leaf, segt_none, segt_cons, segs, List.drop_succ_cons, List.drop_zero, List.take_succ_cons, List.take_zero, List.getElem?_cons_zero, List.getElem?_cons_succ, List.cons_append, List.nil_append, List.append_nil] at hK ⊢
    simp -dsimp (disch := first | exact D | fail) only [go_sem, ↓reduceIte, seval, eTbl, eFK]
    repeat' (first | (((with_reducible refine VCt.step fun K hK => ?_)) <;> simp -dsimp (disch := first | exact D | fail) only [go_sem, ↓reduceIte, seval, eTbl, eFK]) | ((with_reducible refine hK _ ?_); clear hK K) | (with_reducible refine VCt.intro fun K0 hK0 => ?_) | ((with_reducible refine VCt.fin ?_); (refine hK0 _ ?_); clear hK0 K0) | (with_reducible first | refine VCy.quiet ?_ | refine VCt.none ?_) | ((with_reducible refine VCy.keep ?_ ?_); focus ((simp -dsimp (disch := first | exact D | fail) only [go_sem, ↓reduceIte, seval, Stable_cons, Stable_nil, sameA_some, sameA_none, eTbl, eFK]); first | done | exact E | fail)) | ((with_reducible refine VCt.fork (fun K hK => ?_) ?_); (focus (simp -dsimp (disch := first | exact D | fail) only [go_sem, ↓reduceIte, seval, eTbl, eFK]))) | refine Q1 ?_ | fail)
    all_goals refine Gq.done ⟨rfl, ?_⟩
    all_goals refine St.le_mk ?_ ?_ ?_ <;> simp only [LE, EN, Nat.reduceEqDiff, reduceIte, Nat.reduceSub, eTbl, eFK]
  repeat' (first | ((with_reducible refine qV tyOk fun K hK => ?_) <;> simp -dsimp (disch := first | exact D | fail) only [go_sem, ↓reduceIte, seval, eTbl, eFK]) | ((with_reducible refine hK _ ?_); clear hK K) | refine Q1 ?_ | ((with_reducible refine qW (T := TT) (b := ?_) ?_ ?_); rotate_left; exact rfl) | ((with_reducible refine yS ?_ ?_) <;> (intro h; try simp only [NM] at h)) | fail)
  rotate_left
  · simp -dsimp (disch := first | exact D | fail) only [retQ, Tryz.results38, resVals, cellRV, resOf, St.rest, St.freeze, RT, go_sem, ↓reduceIte, seval]
    rename_i hl
    have hl' : ¬ fk.cols.length = s.tables[q].pk.length := by omega
    simp [fkTE, hl']
  have hl : fk.cols.length = s.tables[q].pk.length := by omega
  have spec : fkTE fk s.tables[i] s.tables[q] = match scan (fkColE s.tables[i] s.tables[q]) fk.cols 0 with | some e => e | none => 0 := by simp [fkTE, hl] <;> rfl
  rw [spec]
  refine AWP.loop (ι := {k : Nat // k ≤ fk.cols.length ∧ scan (fkColE s.tables[i] s.tables[q]) (fk.cols.drop k) k = scan (fkColE s.tables[i] s.tables[q]) fk.cols 0}) (fun k => ⟨85, [(9, .v (.one (.ptr 9 0))), (10, .v (.one (.ptr 10 0))), (51, .v (.one (eInts fk.cols))), (52, .v (oI fk.cols.length)), (53, .v (oI k.1))], [(9, eTbl s.tables[i]), (10, eTbl s.tables[q])], []⟩) (fun k => fk.cols.length - k.1) ⟨0, Nat.zero_le _, rfl⟩ ?_ fun ⟨k, hkl, hj⟩ => ?_
  · refine St.le_mk ?_ ?_ ?_ <;> simp only [LE, EN, Nat.reduceEqDiff, reduceIte, Nat.reduceSub, eTbl]
  rcases Nat.lt_or_ge k fk.cols.length with hc | hc
  · have hcp : k < s.tables[q].pk.length := by omega
    obtain ⟨p1, p2, -, -⟩ := okr.key k hcp
    repeat' (first | ((first | with_reducible refine qV tyOk fun K hK => ?_ | refine Q2 ?_ | ((with_reducible refine qS ?_ ?_) <;> (intro h; try simp only [NM] at h)) | with_reducible refine yD tyOk mixed 6 (by kernel_rfl) fun K hK => ?_) <;> simp -dsimp (disch := first | exact D | fail) only [go_sem, ↓reduceIte, seval]) | ((with_reducible refine hK _ ?_); clear hK K) | refine Q1 ?_ | ((with_reducible refine qW (T := TT) (b := ?_) ?_ ?_); rotate_left; exact rfl) | ((with_reducible refine yS ?_ ?_) <;> (intro h; try simp only [NM] at h)) | fail)
    all_goals
      first
        | (have hs : (fkColE s.tables[i] s.tables[q]) k fk.cols[k] = none := by
             (simp (disch := omega) only [fkColE, getD_lt]; (repeat' split) <;> first | rfl | with_reducible assumption | omega | (exfalso; omega) | (simp_all; done) | (simp_all; omega))
           refine ⟨⟨k + 1, by omega, by rw [scan_step (by omega) hs, hj]⟩, by simp only; omega, ?_⟩
           refine St.le_mk ?_ ?_ ?_ <;> simp only [LE, EN, Nat.reduceEqDiff, reduceIte, Nat.reduceSub, eTbl]
           done)
        | (simp -dsimp (disch := first | exact D | fail) only [retQ, Tryz.results38, resVals, cellRV, resOf, St.rest, St.freeze, RT, go_sem, ↓reduceIte, seval]
           rw [scan_leaf (by omega) ?_ hj]
           all_goals first | with_reducible rfl | ((simp (disch := omega) only [fkColE, getD_lt]; (repeat' split) <;> first | rfl | with_reducible assumption | omega | (exfalso; omega) | (simp_all; done) | (simp_all; omega)); done) | rfl
           done)
  · rw [scan_end (by omega)] at hj
    repeat' (first | ((with_reducible refine qV tyOk fun K hK => ?_) <;> simp -dsimp (disch := first | exact D | fail) only [go_sem, ↓reduceIte, seval]) | ((with_reducible refine hK _ ?_); clear hK K) | refine Q1 ?_ | ((with_reducible refine qW (T := TT) (b := ?_) ?_ ?_); rotate_left; exact rfl) | fail)
    simp -dsimp (disch := first | exact D | fail) only [retQ, Tryz.results38, resVals, cellRV, resOf, St.rest, St.freeze, RT, go_sem, ↓reduceIte, seval]
    rw [← hj]

theorem zV_iff {v:Val}:v=zV↔v.kind=0∧v.int=0∧v.text.toList=ByteArray.empty.toList:=by
 constructor
 ·rintro rfl
  exact ⟨rfl,rfl,rfl⟩
 ·rintro ⟨a,b,c⟩
  cases v
  simp only at a b c
  subst a b
  rw [bytes_ext c]
  rfl
section
abbrev IntOk (n:Int):Prop:=(Lit.int .i64 n).wf=true
structure Val.Ok (v:Val):Prop where
 kind:IntOk v.kind
 int:IntOk v.int
 text:v.text.size≤reachBytes
structure Col.Ok (c:Col):Prop where
 name:c.name.size≤reachBytes
 kind:IntOk c.kind
structure Tbl.Ok (t:Tbl):Prop where
 name:t.name.size≤reachBytes
 cols:t.cols.length * 32≤reachBytes∧∀c∈t.cols,c.Ok
 pk:t.pk.length * 8≤reachBytes∧∀n∈t.pk,IntOk n
structure FK.Ok (f:FK):Prop where
 table:f.table.size≤reachBytes
 cols:f.cols.length * 8≤reachBytes∧∀n∈f.cols,IntOk n
 ref:f.ref.size≤reachBytes
structure Con.Ok (c:Con):Prop where
 table:c.table.size≤reachBytes
 left:IntOk c.left
 op:c.op.size≤reachBytes
 right:IntOk c.right
 value:c.value.Ok
structure Sch.Ok (s:Sch):Prop where
 tables:s.tables.length * 64≤reachBytes∧∀t∈s.tables,t.Ok
 fks:s.fks.length * 56≤reachBytes∧∀f∈s.fks,f.Ok
 cons:s.cons.length * 80≤reachBytes∧∀c∈s.cons,c.Ok
def Row.Ok (r:Row):Prop:=r.length * 32≤reachBytes∧∀v∈r,v.Ok
def RowsOk (rs:List Row):Prop:=rs.length * 24≤reachBytes∧∀r∈rs,Row.Ok r
structure Rel.Ok (r:Rel):Prop where
 table:r.table.size≤reachBytes
 rows:RowsOk r.rows
def InstOk (i:Inst):Prop:=i.length * 40≤reachBytes∧∀r∈i,r.Ok
structure Chg.Ok (c:Chg):Prop where
 kind:IntOk c.kind
 table:c.table.size≤reachBytes
 key:Row.Ok c.key
 row:Row.Ok c.row
variable {w:World}
theorem rd_I:Rd Tryz.prog w 3 (fun n=>[.int .i64 n]) IntOk:=rd_int Tryz.underlying3
theorem rd_S:Rd Tryz.prog w 9 (fun s=>[.str s]) fun s=>s.size≤reachBytes:=rd_string Tryz.underlying9
theorem cells_int:Tryz.prog.cellsOf 3=1:=by kernel_rfl
theorem cells_string:Tryz.prog.cellsOf 9=1:=by kernel_rfl
theorem cells_bool:Tryz.prog.cellsOf 4=1:=by kernel_rfl
theorem cells_Value:Tryz.prog.cellsOf 69=3:=by kernel_rfl
theorem cells_s_Column:Tryz.prog.cellsOf 36=1:=by kernel_rfl
theorem cells_Column:Tryz.prog.cellsOf 85=3:=by kernel_rfl
theorem cells_s_int:Tryz.prog.cellsOf 37=1:=by kernel_rfl
theorem cells_Table:Tryz.prog.cellsOf 39=3:=by kernel_rfl
theorem cells_s_Table:Tryz.prog.cellsOf 22=1:=by kernel_rfl
theorem cells_ForeignKey:Tryz.prog.cellsOf 73=3:=by kernel_rfl
theorem cells_s_ForeignKey:Tryz.prog.cellsOf 23=1:=by kernel_rfl
theorem cells_Constraint:Tryz.prog.cellsOf 71=7:=by kernel_rfl
theorem cells_s_Constraint:Tryz.prog.cellsOf 24=1:=by kernel_rfl
theorem cells_Schema:Tryz.prog.cellsOf 26=3:=by kernel_rfl
theorem bytes_int:Tryz.prog.bytesOf 3=8:=by kernel_rfl
theorem bytes_Column:Tryz.prog.bytesOf 85=32:=by kernel_rfl
theorem bytes_Table:Tryz.prog.bytesOf 39=64:=by kernel_rfl
theorem bytes_ForeignKey:Tryz.prog.bytesOf 73=56:=by kernel_rfl
theorem bytes_Constraint:Tryz.prog.bytesOf 71=80:=by kernel_rfl
theorem rd_val:Rd Tryz.prog w 69 eVal Val.Ok :=
 (rd_struct3 Tryz.underlying69 ⟨rfl,rfl,rfl⟩ ⟨cells_int,cells_int,cells_string⟩ cells_Value rd_I rd_I rd_S).to (fun p=>⟨p.1,p.2.1,p.2.2.1⟩) (fun _=>by simp [eVal]) fun _ h=>⟨h.1,h.2.1,h.2.2.1⟩
theorem rd_col:Rd Tryz.prog w 85 eCol Col.Ok :=
 (rd_struct3 Tryz.underlying85 ⟨rfl,rfl,rfl⟩ ⟨cells_string,cells_int,cells_bool⟩ cells_Column rd_S rd_I (rd_bool Tryz.underlying4)).to (fun p=>⟨p.1,p.2.1,p.2.2.1⟩) (fun _=>by simp [eCol]) fun _ h=>⟨h.1,h.2.1⟩
theorem rd_cols:Rd Tryz.prog w 36 (fun l=>[eCols l]) fun l=>l.length * 32≤reachBytes∧∀c∈l,Col.Ok c :=
 rd_slice Tryz.underlying36 cells_Column bytes_Column (fun _=>rfl) rd_col
theorem rd_ints:Rd Tryz.prog w 37 (fun l=>[eInts l]) fun l=>l.length * 8≤reachBytes∧∀c∈l,IntOk c :=
 rd_slice Tryz.underlying37 cells_int bytes_int (fun _=>rfl) (eβ:=eInt1) rd_I
theorem rd_tbl:Rd Tryz.prog w 39 eTbl Tbl.Ok :=
 (rd_struct3 Tryz.underlying39 ⟨rfl,rfl,rfl⟩ ⟨cells_string,cells_s_Column,cells_s_int⟩ cells_Table rd_S rd_cols rd_ints).to (fun p=>⟨p.1,p.2.1,p.2.2.1⟩) (fun _=>by simp [eTbl]) fun _ h=>⟨h.1,h.2.1,h.2.2.1⟩
theorem rd_tbls:Rd Tryz.prog w 22 (fun l=>[eTbls l]) fun l=>l.length * 64≤reachBytes∧∀c∈l,Tbl.Ok c :=
 rd_slice Tryz.underlying22 cells_Table bytes_Table (fun _=>rfl) rd_tbl
theorem rd_fk:Rd Tryz.prog w 73 eFK FK.Ok :=
 (rd_struct3 Tryz.underlying73 ⟨rfl,rfl,rfl⟩ ⟨cells_string,cells_s_int,cells_string⟩ cells_ForeignKey rd_S rd_ints rd_S).to (fun p=>⟨p.1,p.2.1,p.2.2.1⟩) (fun _=>by simp [eFK]) fun _ h=>⟨h.1,h.2.1,h.2.2.1⟩
theorem rd_fks:Rd Tryz.prog w 23 (fun l=>[eFKs l]) fun l=>l.length * 56≤reachBytes∧∀c∈l,FK.Ok c :=
 rd_slice Tryz.underlying23 cells_ForeignKey bytes_ForeignKey (fun _=>rfl) rd_fk
theorem rd_con:Rd Tryz.prog w 71 eCon Con.Ok :=
 (rd_struct5 Tryz.underlying71 ⟨rfl,rfl,rfl,rfl,rfl⟩ ⟨cells_string,cells_int,cells_string,cells_int,cells_Value⟩ cells_Constraint rd_S rd_I rd_S rd_I rd_val).to (fun p=>⟨p.1,p.2.1,p.2.2.1,p.2.2.2.1,p.2.2.2.2.1⟩) (fun _=>by simp [eCon,eVal]) fun _ h=>⟨h.1,h.2.1,h.2.2.1,h.2.2.2.1,h.2.2.2.2.1⟩
theorem rd_cons:Rd Tryz.prog w 24 (fun l=>[eCons l]) fun l=>l.length * 80≤reachBytes∧∀c∈l,Con.Ok c :=
 rd_slice Tryz.underlying24 cells_Constraint bytes_Constraint (fun _=>rfl) rd_con
theorem rd_sch:Rd Tryz.prog w 26 eSch Sch.Ok :=
 (rd_struct3 Tryz.underlying26 ⟨rfl,rfl,rfl⟩ ⟨cells_s_Table,cells_s_ForeignKey,cells_s_Constraint⟩ cells_Schema rd_tbls rd_fks rd_cons).to (fun p=>⟨p.1,p.2.1,p.2.2.1⟩) (fun _=>by simp [eSch]) fun _ h=>⟨h.1,h.2.1,h.2.2.1⟩
theorem reachBytes_eq:reachBytes=140737488351232:=rfl
theorem Sch.Ok.fits {s:Sch} (h:s.Ok):s.Fits:=by
 obtain ⟨⟨a1,a2⟩,⟨b1,b2⟩,⟨c1,c2⟩⟩:=h
 rw [reachBytes_eq] at a1 b1 c1
 refine ⟨by omega,fun t ht=>?_,by omega,fun f hf=>?_,by omega⟩
 ·obtain ⟨_,⟨h1,_⟩,⟨h2,_⟩⟩:=a2 t ht
  rw [reachBytes_eq] at h1 h2
  exact ⟨by omega,by omega⟩
 ·obtain ⟨_,⟨h1,_⟩,_⟩:=b2 f hf
  rw [reachBytes_eq] at h1
  omega
end
section
variable {w:World}
def InstFits (i:Inst):Prop:=i.length≤140737488355328∧∀r∈i,r.rows.length≤140737488355328∧∀x∈r.rows,x.length≤140737488355328
theorem InstOk.fits {i:Inst} (h:InstOk i):InstFits i:=by
 obtain ⟨a1,a2⟩:=h
 rw [reachBytes_eq] at a1
 refine ⟨by omega,fun r hr=>?_⟩
 obtain ⟨_,b1,b2⟩:=a2 r hr
 rw [reachBytes_eq] at b1
 refine ⟨by omega,fun x hx=>?_⟩
 obtain ⟨c1,_⟩:=b2 x hx
 rw [reachBytes_eq] at c1
 omega
end
set_option maxHeartbeats 8000000 in
theorem cloneColsB_own (r:List Col) (h1:r.length * 32≤140737488355328):SatM Tryz.prog 58 [.one (eCols r)] [] [] (.v (.one (.ref 2 0 r.length))) [] [(2,⟨3,r.map eCol,[]⟩)]:=by
 refine sM tyOk [] [2] Tryz.func58 fun w0 m0 F0=>?_
 simp only [Tryz.ntmps58,envOf,Nat.reduceAdd]
 repeat' (first|((with_reducible refine qV tyOk fun K hK=>?_)<;>simp -dsimp (disch:=first|exact D|fail) only [go_sem,↓reduceIte,seval])|((with_reducible refine hK _ ?_);clear hK K)|refine Q1 ?_|fail)
 intro b hb
 refine hK _ ?_
 clear hK K
 repeat' (first|((with_reducible refine qV tyOk fun K hK=>?_)<;>simp -dsimp (disch:=first|exact D|fail) only [go_sem,↓reduceIte,seval])|((with_reducible refine hK _ ?_);clear hK K)|refine Q1 ?_|((with_reducible refine qW (T:=TT) (b:=?_) ?_ ?_);rotate_left;exact rfl)|((with_reducible refine yS ?_ ?_)<;>(intro h;try simp only [NM] at h))|fail)
 all_goals simp -dsimp (disch:=first|exact D|fail) only [retQ,Tryz.results58,resVals,cellRV,resOf,St.rest,St.freeze,RT,go_sem,↓reduceIte,seval]
 have h2:r=[]:=by
  cases r with
  | nil=>rfl
  | cons x r=>exact absurd ((hb _ rfl (by simp)).symm.trans ‹b=true›) (by decide)
 subst h2
 exact ⟨rfl,rfl⟩
theorem cloneColsB_sat (r:List Col) (h1:r.length * 32≤140737488355328):Sat Tryz.prog 58 [.one (eCols r)] (.v (.one (eCols r))) :=
 (cloneColsB_own r h1).frz (by
  simp -dsimp (disch:=first|exact D|fail) only [go_sem,↓reduceIte,seval,topL_ref,St.rest,roots,dropL_nil,eCols]
  )
set_option maxHeartbeats 8000000 in
theorem cloneIntsB_own (r:List Int) (h1:r.length * 8≤140737488355328):SatM Tryz.prog 35 [.one (eInts r)] [] [] (.v (.one (.ref 2 0 r.length))) [] [(2,⟨1,r.map eInt1,[]⟩)]:=by
 refine sM tyOk [] [2] Tryz.func35 fun w0 m0 F0=>?_
 simp only [Tryz.ntmps35,envOf,Nat.reduceAdd]
 repeat' (first|((with_reducible refine qV tyOk fun K hK=>?_)<;>simp -dsimp (disch:=first|exact D|fail) only [go_sem,↓reduceIte,seval])|((with_reducible refine hK _ ?_);clear hK K)|refine Q1 ?_|fail)
 intro b hb
 refine hK _ ?_
 clear hK K
 repeat' (first|((with_reducible refine qV tyOk fun K hK=>?_)<;>simp -dsimp (disch:=first|exact D|fail) only [go_sem,↓reduceIte,seval])|((with_reducible refine hK _ ?_);clear hK K)|refine Q1 ?_|((with_reducible refine qW (T:=TT) (b:=?_) ?_ ?_);rotate_left;exact rfl)|((with_reducible refine yS ?_ ?_)<;>(intro h;try simp only [NM] at h))|fail)
 all_goals simp -dsimp (disch:=first|exact D|fail) only [retQ,Tryz.results35,resVals,cellRV,resOf,St.rest,St.freeze,RT,go_sem,↓reduceIte,seval]
 have h2:r=[]:=by
  cases r with
  | nil=>rfl
  | cons x r=>exact absurd ((hb _ rfl (by simp)).symm.trans ‹b=true›) (by decide)
 subst h2
 exact ⟨rfl,rfl⟩
theorem cloneIntsB_sat (r:List Int) (h1:r.length * 8≤140737488355328):Sat Tryz.prog 35 [.one (eInts r)] (.v (.one (eInts r))) :=
 (cloneIntsB_own r h1).frz (by
  simp -dsimp (disch:=first|exact D|fail) only [go_sem,↓reduceIte,seval,topL_ref,St.rest,roots,dropL_nil,eInts]
  )
set_option maxHeartbeats 8000000 in
theorem cloneTableB_sat (t:Tbl) (h1:t.cols.length * 32≤140737488355328) (h2:t.pk.length * 8≤140737488355328):Sat Tryz.prog 36 [.agg (eTbl t)] (.v (.agg (eTbl t))):=by
 refine sS tyOk Tryz.func36 fun w0 m0 F0=>?_
 simp only [Tryz.ntmps36,envOf,Nat.reduceAdd]
 repeat' (first|((with_reducible refine qV tyOk fun K hK=>?_)<;>simp -dsimp (disch:=first|exact D|fail) only [go_sem,↓reduceIte,seval])|((with_reducible refine hK _ ?_);clear hK K)|refine Q1 ?_|fail)
 refine dX tyOk mixed [(0,4),(5,2)] [(4,[],[(0,2),(5,2)]),(7,[(8,1)],[(0,2)]),(9,[],[])] [4,7,9] 8 fun K hK=>?_
 simp only [SG,segs] at hK ⊢
 simp -dsimp (disch:=first|exact D|fail) only [go_sem,↓reduceIte,seval,Option.getD_none]
 repeat' (first|((first|((with_reducible refine CallJ.is ?_);(first|refine CallJ.pure (cloneColsB_sat t.cols h1) ?_|refine CallJ.pure (cloneIntsB_sat t.pk h2) ?_))|(with_reducible first|refine VCy.some fun K hK=>?_|refine VCy.step fun K hK=>?_))<;>simp -dsimp (disch:=first|exact D|fail) only [go_sem,↓reduceIte,seval])|((with_reducible refine hK _ ?_);clear hK K)|(with_reducible refine VCy.intro fun K0 hK0=>?_)|((with_reducible refine VCy.fin ?_);(refine hK0 _ ?_);clear hK0 K0)|(with_reducible first|refine VCy.quiet ?_|refine VCy.none ?_)|((with_reducible refine VCy.keep ?_ ?_);focus ((simp -dsimp (disch:=first|exact D|fail) only [go_sem,↓reduceIte,seval,Stable_cons,Stable_nil,sameA_some,sameA_none]);first|done|exact E|fail))|refine Q1 ?_|fail)
 simp -dsimp (disch:=first|exact D|fail) only [retQ,Tryz.results36,resVals,cellRV,resOf,St.rest,St.freeze,RT,go_sem,↓reduceIte,seval]
set_option maxHeartbeats 16000000 in
theorem normalized_sat (s:Stp):Sat Tryz.prog 67 [.agg (eStp s)] (.v (.agg (eStp (evNorm s)))):=by
 refine sS tyOk Tryz.func67 fun w0 m0 F0=>?_
 simp only [Tryz.ntmps67,envOf,Nat.reduceAdd]
 repeat' (first|((first|with_reducible refine qV tyOk fun K hK=>?_|(refine AWP.isRegion 4 ?_;refine dX tyOk mixed [(0,7)] [(7,[(8,1)],[(2,4)]),(9,[(10,1)],[(4,2)]),(11,[],[])] [7,9,11] 8 fun K hK=>?_;simp only [SG,segs] at hK ⊢)|(refine AWP.isRegion 6 ?_;refine dX tyOk mixed [(0,5)] [(5,[(6,1)],[(2,2)]),(7,[],[])] [5,7] 8 fun K hK=>?_;simp only [SG,segs] at hK ⊢)|(refine AWP.isRegion 8 ?_;refine dX tyOk mixed [(0,5)] [(5,[(6,1)],[(2,2)]),(7,[],[])] [5,7] 8 fun K hK=>?_;simp only [SG,segs] at hK ⊢)|(refine AWP.isRegion 12 ?_;refine dX tyOk mixed [(0,5)] [(5,[(6,1)],[(2,2)]),(7,[],[])] [5,7] 8 fun K hK=>?_;simp only [SG,segs] at hK ⊢)|(refine AWP.isRegion 14 ?_;refine dX tyOk mixed [(0,5)] [(5,[(6,1)],[(2,2)]),(7,[],[])] [5,7] 8 fun K hK=>?_;simp only [SG,segs] at hK ⊢)|(refine AWP.isRegion 18 ?_;refine dX tyOk mixed [(0,9)] [(9,[(10,1)],[(2,6)]),(11,[(12,1)],[(4,4)]),(13,[(14,1)],[(6,2)]),(15,[],[])] [9,11,13,15] 8 fun K hK=>?_;simp only [SG,segs] at hK ⊢)|(refine AWP.isRegion 20 ?_;refine dX tyOk mixed [(0,5)] [(5,[(6,1)],[(2,2)]),(7,[],[])] [5,7] 8 fun K hK=>?_;simp only [SG,segs] at hK ⊢)|(refine AWP.isRegion 22 ?_;refine dX tyOk mixed [(0,3)] [(3,[(4,1)],[(0,2)]),(5,[],[])] [3,5] 8 fun K hK=>?_;simp only [SG,segs] at hK ⊢)|(refine AWP.isRegion 24 ?_;refine dX tyOk mixed [(0,5)] [(5,[(6,1)],[(2,2)]),(7,[],[])] [5,7] 8 fun K hK=>?_;simp only [SG,segs] at hK ⊢)|(refine AWP.isRegion 27 ?_;refine dX tyOk mixed [(0,3)] [(3,[(4,1)],[(0,2)]),(5,[],[])] [3,5] 8 fun K hK=>?_;simp only [SG,segs] at hK ⊢)|(refine AWP.isRegion 30 ?_;refine dX tyOk mixed [(0,3)] [(3,[(4,1)],[(0,2)]),(5,[],[])] [3,5] 8 fun K hK=>?_;simp only [SG,segs] at hK ⊢)|(with_reducible first|refine VCy.some fun K hK=>?_|refine VCy.step fun K hK=>?_))<;>simp -dsimp (disch:=first|exact D|fail) only [go_sem,↓reduceIte,seval,eStp])|((with_reducible refine hK _ ?_);clear hK K)|(with_reducible refine VCy.intro fun K0 hK0=>?_)|((with_reducible refine VCy.fin ?_);(refine hK0 _ ?_);clear hK0 K0)|(with_reducible first|refine VCy.quiet ?_|refine VCy.none ?_)|((with_reducible refine VCy.keep ?_ ?_);focus ((simp -dsimp (disch:=first|exact D|fail) only [go_sem,↓reduceIte,seval,Stable_cons,Stable_nil,sameA_some,sameA_none,eStp]);first|done|exact E|fail))|refine Q1 ?_|((with_reducible refine qW (T:=TT) (b:=?_) ?_ ?_);rotate_left;exact rfl)|((with_reducible refine yS ?_ ?_)<;>(intro h;try simp only [NM] at h))|fail)
 all_goals simp -dsimp (disch:=first|exact D|fail) only [retQ,Tryz.results67,resVals,cellRV,resOf,St.rest,St.freeze,RT,go_sem,↓reduceIte,seval]
 all_goals try simp [evNorm,eStp,zStp,zCon,zFK,eInts,eCols, *]
 all_goals rfl
set_option maxHeartbeats 16000000 in
theorem schClone_own (s:Sch) (h1:s.tables.length≤1048576) (h2:s.fks.length≤1048576) (h3:s.cons.length≤1048576) (h4:∀t∈s.tables,t.cols.length≤1048576∧t.pk.length≤1048576) (h5:∀f∈s.fks,f.cols.length≤1048576) :
  SatM Tryz.prog 28 [.agg (eSch s)] [] [] (.v (.agg [.ref 24 0 s.tables.length,.ref 42 0 s.fks.length,.ref 10 0 s.cons.length])) [] [(24,⟨3,s.tables.map eTblO,[]⟩),(42,⟨3,s.fks.map eFKO,[]⟩),(10,⟨7,s.cons.map eCon,[]⟩)]:=by
 refine sM tyOk [] [24,42,10] Tryz.func28 fun w0 m0 F0=>?_
 simp only [Tryz.ntmps28,envOf,Nat.reduceAdd]
 repeat' (first|((first|((fail_if_success (refine AWP.isRegion 2 ?_));(with_reducible refine qV tyOk fun K hK=>?_))|((with_reducible refine CallJ.is ?_);refine CallJ.io [] [] [] [(2,10)] [] [10] [] [10] (cloneCons_own s.cons (by omega)) rfl ⟨rfl,rfl,rfl,rfl⟩ ?_ ?_ ?_))<;>simp -dsimp (disch:=first|exact D|fail) only [go_sem,↓reduceIte,seval,dropL_nil,dropL_nil',dropL_cons])|((with_reducible refine hK _ ?_);clear hK K)|refine Q1 ?_|fail)
 refine AWP.nilBox 3 0 24 rfl rfl (.inl (by show 24<46;decide)) ?_
 simp -dsimp (disch:=first|exact D|fail) only [go_sem,↓reduceIte,seval,nilBoxR_mk,List.set_cons_zero,List.set_cons_succ]
 repeat' (first|((with_reducible refine qV tyOk fun K hK=>?_)<;>simp -dsimp (disch:=first|exact D|fail) only [go_sem,↓reduceIte,seval])|((with_reducible refine hK _ ?_);clear hK K)|refine Q1 ?_|fail)
 refine AWP.loop (ι:={k:Nat // k≤s.tables.length}) (fun k=>⟨46,[(1,.v (.one (.ptr 1 0))),(2,.v (.one (.ptr 2 0))),(3,.v (.one (.ptr 3 0))),(13,.v (.one (.sl 3 (s.tables.map eTbl)))),(14,.v (oI s.tables.length)),(15,.v (oI k.1))],[(3,[.ref 24 0 k.1,.nil 3,.ref 10 0 s.cons.length]),(2,[.nil 3,.nil 3,.nil 7]),(1,eSch s)],[(24,⟨3,(s.tables.take k.1).map eTblO,[]⟩),(10,⟨7,s.cons.map eCon,[]⟩)]⟩) (fun k=>s.tables.length - k.1) ⟨0,Nat.zero_le _⟩ ?_ fun ⟨k,hkl⟩=>?_
 ·refine St.le_mk ?_ ?_ ?_<;>simp only [LE,EN,Nat.reduceEqDiff,reduceIte,Nat.reduceSub,eSch,List.map_nil]
 simp only at hkl ⊢
 have hlen:(s.tables.take k).length=k:=by simp;omega
 rcases Nat.lt_or_ge k s.tables.length with hc|hc
 ·have ht:=h4 s.tables[k] (List.getElem_mem hc)
  have es:=take_snoc s.tables k hc
  repeat' (first|((((fail_if_success (refine AWP.isRegion 5 ?_));(with_reducible refine qV tyOk fun K hK=>?_)))<;>simp -dsimp (disch:=first|exact D|fail) only [go_sem,↓reduceIte,seval])|((with_reducible refine hK _ ?_);clear hK K)|refine Q1 ?_|((with_reducible refine qW (T:=TT) (b:=?_) ?_ ?_);rotate_left;exact rfl)|fail)
  refine dX tyOk mixed [(0,3)] [(3,[],[(0,2)]),(4,[],[(0,2)]),(5,[(6,1)],[]),(7,[],[])] [3,4,5,7] 8 fun K hK=>?_
  simp only [SG,segs] at hK ⊢
  simp -dsimp (disch:=first|exact D|fail) only [go_sem,↓reduceIte,seval,hlen,Option.getD_none]
  repeat' (first|((first|((with_reducible refine CallJ.is ?_);refine CallJ.io [] [] [] [(7,22),(10,21)] [] [22,21] [] [22,21] (cloneTable_own s.tables[k] (by omega) (by omega)) rfl ⟨rfl,rfl,rfl,rfl⟩ ?_ ?_ ?_)|(with_reducible first|refine VCy.some fun K hK=>?_|refine VCy.step fun K hK=>?_))<;>simp -dsimp (disch:=first|exact D|fail) only [go_sem,↓reduceIte,seval,hlen,Option.getD_none,dropL_nil,dropL_nil',dropL_cons])|((with_reducible refine hK _ ?_);clear hK K)|(with_reducible refine VCy.intro fun K0 hK0=>?_)|((with_reducible refine VCy.fin ?_);(refine hK0 _ ?_);clear hK0 K0)|(with_reducible first|refine VCy.quiet ?_|refine VCy.none ?_)|((with_reducible refine VCy.keep ?_ ?_);focus ((simp -dsimp (disch:=first|exact D|fail) only [go_sem,↓reduceIte,seval,Stable_cons,Stable_nil,sameA_some,sameA_none,hlen,Option.getD_none,dropL_nil,dropL_nil',dropL_cons]);first|done|exact E|fail))|refine Q1 ?_|fail)
  refine AWP.close 24 k 1 22 rfl rfl (by decide) (by simp [ovGet]) (by simp;omega) (by show 1<3;decide) rfl ?_
  simp -dsimp (disch:=first|exact D|fail) only [go_sem,↓reduceIte,seval,closeR_mk,ovCut_cons,ovCut_nil]
  refine AWP.close 24 k 2 21 rfl rfl (by decide) (by simp [ovGet]) (by simp [setCell_length];omega) (by show 2<3;decide) rfl ?_
  simp -dsimp (disch:=first|exact D|fail) only [go_sem,↓reduceIte,seval,closeR_mk,ovCut_cons,ovCut_nil]
  rw [setCell_last eTblO _ k hlen.symm,setCell_last eTblO _ k hlen.symm]
  repeat' (first|((with_reducible refine qV tyOk fun K hK=>?_)<;>simp -dsimp (disch:=first|exact D|fail) only [go_sem,↓reduceIte,seval])|((with_reducible refine hK _ ?_);clear hK K)|refine Q1 ?_|fail)
  refine ⟨⟨k+1,by omega⟩,by simp only;omega,?_⟩
  refine St.le_mk ?_ ?_ ?_<;>simp only [LE,EN,Nat.reduceEqDiff,reduceIte,Nat.reduceSub,eSch,es,eTblO,List.map_append,List.map_cons,List.map_nil,List.set_cons_zero,List.set_cons_succ]
 ·have hk:k=s.tables.length:=by omega
  subst hk
  repeat' (first|((((fail_if_success (refine AWP.isRegion 7 ?_));(with_reducible refine qV tyOk fun K hK=>?_)))<;>simp -dsimp (disch:=first|exact D|fail) only [go_sem,↓reduceIte,seval])|((with_reducible refine hK _ ?_);clear hK K)|refine Q1 ?_|((with_reducible refine qW (T:=TT) (b:=?_) ?_ ?_);rotate_left;exact rfl)|fail)
  refine AWP.nilBox 3 1 42 rfl rfl (.inl (by show 42<46;decide)) ?_
  simp -dsimp (disch:=first|exact D|fail) only [go_sem,↓reduceIte,seval,nilBoxR_mk,List.set_cons_zero,List.set_cons_succ,List.take_length]
  repeat' (first|((with_reducible refine qV tyOk fun K hK=>?_)<;>simp -dsimp (disch:=first|exact D|fail) only [go_sem,↓reduceIte,seval])|((with_reducible refine hK _ ?_);clear hK K)|refine Q1 ?_|fail)
  refine AWP.loop (ι:={k:Nat // k≤s.fks.length}) (fun k=>⟨46,[(1,.v (.one (.ptr 1 0))),(2,.v (.one (.ptr 2 0))),(3,.v (.one (.ptr 3 0))),(28,.v (.one (.sl 3 (s.fks.map eFK)))),(29,.v (oI s.fks.length)),(30,.v (oI k.1))],[(3,[.ref 24 0 s.tables.length,.ref 42 0 k.1,.ref 10 0 s.cons.length]),(2,[.nil 3,.nil 3,.nil 7]),(1,eSch s)],[(42,⟨3,(s.fks.take k.1).map eFKO,[]⟩),(24,⟨3,s.tables.map eTblO,[]⟩),(10,⟨7,s.cons.map eCon,[]⟩)]⟩) (fun k=>s.fks.length - k.1) ⟨0,Nat.zero_le _⟩ ?_ fun ⟨k,hkl⟩=>?_
  ·refine St.le_mk ?_ ?_ ?_<;>simp only [LE,EN,Nat.reduceEqDiff,reduceIte,Nat.reduceSub,eSch,List.map_nil]
  simp only at hkl ⊢
  have hlen:(s.fks.take k).length=k:=by simp;omega
  rcases Nat.lt_or_ge k s.fks.length with hc|hc
  ·have hf:=h5 s.fks[k] (List.getElem_mem hc)
   have es:=take_snoc s.fks k hc
   repeat' (first|((first|((fail_if_success (refine AWP.isRegion 12 ?_));(with_reducible refine qV tyOk fun K hK=>?_))|((with_reducible refine CallJ.is ?_);refine CallJ.io [] [] [] [(2,36)] [] [36] [] [36] (cloneInts_own s.fks[k].cols (by omega)) rfl ⟨rfl,rfl,rfl,rfl⟩ ?_ ?_ ?_))<;>simp -dsimp (disch:=first|exact D|fail) only [go_sem,↓reduceIte,seval,hlen,dropL_nil,dropL_nil',dropL_cons])|((with_reducible refine hK _ ?_);clear hK K)|refine Q1 ?_|((with_reducible refine qW (T:=TT) (b:=?_) ?_ ?_);rotate_left;exact rfl)|fail)
   refine AWP.close 42 k 1 36 rfl rfl (by decide) (by simp [ovGet]) (by simp;omega) (by show 1<3;decide) rfl ?_
   simp -dsimp (disch:=first|exact D|fail) only [go_sem,↓reduceIte,seval,closeR_mk,ovCut_cons,ovCut_nil]
   rw [setCell_last eFKO _ k hlen.symm]
   repeat' (first|((with_reducible refine qV tyOk fun K hK=>?_)<;>simp -dsimp (disch:=first|exact D|fail) only [go_sem,↓reduceIte,seval])|((with_reducible refine hK _ ?_);clear hK K)|refine Q1 ?_|fail)
   refine ⟨⟨k+1,by omega⟩,by simp only;omega,?_⟩
   refine St.le_mk ?_ ?_ ?_<;>simp only [LE,EN,Nat.reduceEqDiff,reduceIte,Nat.reduceSub,eSch,es,eFKO,List.map_append,List.map_cons,List.map_nil,List.set_cons_zero,List.set_cons_succ]
  ·have hk:k=s.fks.length:=by omega
   subst hk
   repeat' (first|((with_reducible refine qV tyOk fun K hK=>?_)<;>simp -dsimp (disch:=first|exact D|fail) only [go_sem,↓reduceIte,seval])|((with_reducible refine hK _ ?_);clear hK K)|refine Q1 ?_|((with_reducible refine qW (T:=TT) (b:=?_) ?_ ?_);rotate_left;exact rfl)|fail)
   simp -dsimp (disch:=first|exact D|fail) only [retQ,Tryz.results28,resVals,cellRV,resOf,St.rest,St.freeze,RT,go_sem,↓reduceIte,seval]
   all_goals rw [List.take_length]
theorem conE_zero {s:Sch} {c:Con} (h:conE s c=0):∃i,∃hi:i<s.tables.length,tblAt s.tables c.table=(i:Int)∧0≤c.left∧c.left<s.tables[i].cols.length∧-1≤c.right∧c.right<s.tables[i].cols.length:=by
 unfold conE at h
 split at h
 ·cases h
 rename_i h0
 rcases idx_cases (fun t=>sEq t.name c.table) s.tables 0 with ⟨e1,_⟩|⟨i,hi,e1,_⟩
 ·have e1:tblAt s.tables c.table=-1:=e1
  omega
 have e1:tblAt s.tables c.table=(i:Int):=by unfold tblAt;simpa using e1
 simp only [e1,Int.toNat_natCast,getD_lt _ hi] at h
 split at h
 ·cases h
 rename_i h1
 refine ⟨i,hi,e1,?_⟩
 omega
theorem pkOk_of {s:Sch} (h:schE s=0):∀t∈s.tables,∀c∈t.pk,0≤c∧c<(t.cols.length:Int):=by
 intro t ht c hc
 have o:=(okSch_of h).tbl t ht
 obtain ⟨k,hk,rfl⟩:=List.mem_iff_getElem.1 hc
 have:=o.key k hk
 exact ⟨this.1,this.2.1⟩
theorem smallS_of {s:Sch} (h:schE s=0):SmallS s:=by
 have sm:=small_of h
 have ok:=okSch_of h
 obtain ⟨h1,h2,h3,h4⟩:=(schE_zero s).1 h
 refine ⟨sm.tables,fun t ht=>⟨(sm.table t ht).1,(sm.table t ht).2,fun c hc=>?_⟩,sm.fks,fun f hf=>⟨sm.fk f hf,fun c hc=>?_⟩,sm.cons,fun c hc=>?_⟩
 ·have:=pkOk_of h t ht c hc
  have:=(sm.table t ht).1
  omega
 ·obtain ⟨j,hj,rfl⟩:=List.mem_iff_getElem.1 hf
  have h5:=h3 j hj
  unfold fksE at h5
  split at h5
  ·cases h5
  rename_i h6
  obtain ⟨i,q,hi,hq,_,_,_,h8⟩:=fkE_zero (s:=s) (f:=s.fks[j]) (by simpa using h6)
  obtain ⟨k,hk,rfl⟩:=List.mem_iff_getElem.1 hc
  have:=h8 k hk
  have:=(sm.table _ (List.getElem_mem hi)).1
  omega
 ·obtain ⟨j,hj,rfl⟩:=List.mem_iff_getElem.1 hc
  have h5:=h4 j hj
  unfold consE at h5
  split at h5
  ·cases h5
  rename_i h6
  obtain ⟨i,hi,_,h7⟩:=conE_zero (s:=s) (c:=s.cons[j]) (by simpa using h6)
  have:=(sm.table _ (List.getElem_mem hi)).1
  omega
def kp (R:List Int) (c:Int):Bool:=!R.elem c
theorem kp_iff {R:List Int} {c:Int}:kp R c=true↔c ∉ R:=by
 unfold kp
 rw [Bool.not_eq_true',←Bool.not_eq_true,List.elem_iff]
theorem mem_seqI {m:Nat} {c:Int}:c∈seqI m↔0≤c∧c<(m:Int):=by
 unfold seqI
 rw [List.mem_map]
 constructor
 ·rintro ⟨n,hn,rfl⟩
  have:=List.mem_range.1 hn
  omega
 ·rintro ⟨h0,h1⟩
  exact ⟨c.toNat,List.mem_range.2 (by omega),by omega⟩
theorem seqI_nodup (m:Nat):(seqI m).Nodup:=by
 unfold seqI
 refine List.pairwise_map.2 (List.nodup_range.imp fun {a b} h e=>h ?_)
 exact Int.ofNat.inj e
theorem seqI_split {c m:Nat} (h:c<m):∃r,seqI m=seqI c++(c:Int)::r:=by
 obtain ⟨d,rfl⟩:∃d,m=c+1+d:=⟨m - c - 1,by omega⟩
 induction d with
 | zero=>exact ⟨[],by rw [Nat.add_zero,seqI_succ]⟩
 | succ d ih =>
  obtain ⟨r,hr⟩:=ih (by omega)
  exact ⟨r++[((c+1+d:Nat):Int)],by rw [←Nat.add_assoc,seqI_succ,hr];simp⟩
theorem filter_len {α:Type} (f:α→Bool):∀l:List α,l.length=(l.filter f).length+(l.filter fun x=>!f x).length
 | []=>rfl
 | x::r=>by
  have:=filter_len f r
  rw [List.filter_cons,List.filter_cons]
  cases f x<;>simp<;>omega
theorem seqI_len2 (m:Nat):(seqI m).length=m:=by simp [seqI]
theorem perm_len {α:Type} [DecidableEq α] {a b:List α} (ha:a.Nodup) (hb:b.Nodup) (h:∀x,x∈a↔x∈b):a.length=b.length:=((List.perm_ext_iff_of_nodup ha hb).2 h).length_eq
theorem nodup_lt {R:List Int} (h:R.Pairwise (·<·)):R.Nodup:=h.imp fun h=>by omega
theorem shiftI_eq {R:List Int} (hR:R.Pairwise (·<·)) (h0:∀r∈R,0≤r) (c:Nat):shiftI R c=(((seqI c).filter (kp R)).length:Int):=by
 have h1:=filter_len (kp R) (seqI c)
 rw [seqI_len2] at h1
 have h2:((seqI c).filter (fun x=>!kp R x)).length=(R.filter fun r=>decide (r<(c:Int))).length:=by
  refine perm_len ((seqI_nodup c).filter _) ((nodup_lt hR).filter _) fun x=>?_
  rw [List.mem_filter,List.mem_filter,mem_seqI]
  have:(!kp R x)=true↔x∈R:=by
   unfold kp
   rw [Bool.not_not,List.elem_iff]
  rw [this,decide_eq_true_eq]
  constructor
  ·rintro ⟨⟨_,h⟩,hx⟩;exact ⟨hx,h⟩
  ·rintro ⟨hx,h⟩;exact ⟨⟨h0 x hx,h⟩,hx⟩
 unfold shiftI
 omega
def allC (R:List Int) (m:Nat):List Int:=(seqI m).filter (kp R)++R
structure Moved (R:List Int) (m:Nat):Prop where
 lt:R.Pairwise (·<·)
 rng:∀r∈R,0≤r∧r<(m:Int)
theorem Moved.len {R:List Int} {m:Nat} (h:Moved R m):((seqI m).filter (kp R)).length+R.length=m:=by
 have h1:=filter_len (kp R) (seqI m)
 rw [seqI_len2] at h1
 have h2:((seqI m).filter (fun x=>!kp R x)).length=R.length:=by
  refine perm_len ((seqI_nodup m).filter _) (nodup_lt h.lt) fun x=>?_
  rw [List.mem_filter,mem_seqI]
  have:(!kp R x)=true↔x∈R:=by
   unfold kp
   rw [Bool.not_not,List.elem_iff]
  rw [this]
  exact ⟨fun q=>q.2,fun q=>⟨h.rng x q,q⟩⟩
 omega
theorem Moved.mem {R:List Int} {m:Nat} (h:Moved R m) {c:Int} (hc:c∈allC R m):0≤c∧c<(m:Int):=by
 rcases List.mem_append.1 hc with hc|hc
 ·exact mem_seqI.1 (List.mem_filter.1 hc).1
 ·exact h.rng c hc
def posC (R:List Int) (K:Nat) (c:Int):Int:=if R.elem c then (K:Int)+idx (fun x=>x==c) R 0 else shiftI R c
theorem idx_mem {R:List Int} {c:Int} (h:c∈R):∃j,∃hj:j<R.length,idx (fun x=>x==c) R 0=(j:Int)∧R[j]=c:=by
 rcases idx_cases (fun x=>x==c) R 0 with ⟨_,e2⟩|⟨j,hj,e1,e2,_⟩
 ·have:=e2 c h
  simp at this
 ·exact ⟨j,hj,by simpa using e1,by simpa using e2⟩
theorem Moved.pos {R:List Int} {m K:Nat} (h:Moved R m) (hK:K=((seqI m).filter (kp R)).length) {c:Int} (c0:0≤c) (c1:c<(m:Int)):0≤posC R K c∧posC R K c<(m:Int)∧(allC R m)[(posC R K c).toNat]?=some c:=by
 have hl:=h.len
 unfold posC allC
 by_cases e:R.elem c=true
 ·rw [if_pos e]
  obtain ⟨j,hj,ej,ec⟩:=idx_mem (List.elem_iff.1 e)
  rw [ej]
  refine ⟨by omega,by omega,?_⟩
  rw [List.getElem?_append_right (by omega),show ((K:Int)+(j:Int)).toNat - ((seqI m).filter (kp R)).length=j by omega,List.getElem?_eq_getElem hj,ec]
 ·rw [if_neg e]
  obtain ⟨n,rfl⟩:∃n:Nat,c=(n:Int):=⟨c.toNat,by omega⟩
  have hn:n<m:=by omega
  have hkp:kp R (n:Int)=true:=kp_iff.2 fun q=>e (List.elem_iff.2 q)
  obtain ⟨r,hr⟩:=seqI_split hn
  rw [shiftI_eq h.lt (fun r hr=>(h.rng r hr).1)]
  have hf:(seqI m).filter (kp R)=(seqI n).filter (kp R)++(n:Int)::r.filter (kp R):=by
   rw [hr,List.filter_append,List.filter_cons,if_pos hkp]
  have hlen:((seqI m).filter (kp R)).length=((seqI n).filter (kp R)).length+1+(r.filter (kp R)).length:=by rw [hf];simp;omega
  refine ⟨by omega,by omega,?_⟩
  rw [Int.toNat_natCast,List.getElem?_append_left (by omega),hf,List.getElem?_append_right (Nat.le_refl _)]
  simp
theorem Moved.mono {R:List Int} {m K:Nat} (h:Moved R m) {c d:Int} (c0:0≤c) (hcd:c<d) (hc:c ∉ R) (hd:d ∉ R):posC R K c<posC R K d:=by
 unfold posC
 rw [if_neg (fun q=>hc (List.elem_iff.1 q)),if_neg (fun q=>hd (List.elem_iff.1 q))]
 obtain ⟨n,rfl⟩:∃n:Nat,c=(n:Int):=⟨c.toNat,by omega⟩
 obtain ⟨k,rfl⟩:∃n:Nat,d=(n:Int):=⟨d.toNat,by omega⟩
 rw [shiftI_eq h.lt (fun r hr=>(h.rng r hr).1),shiftI_eq h.lt (fun r hr=>(h.rng r hr).1)]
 obtain ⟨r,hr⟩:=seqI_split (c:=n) (m:=k) (by omega)
 rw [hr,List.filter_append,List.filter_cons,if_pos (kp_iff.2 hc),List.length_append,List.length_cons]
 omega
def eScr (l:List Stp):L:=.sl 24 (l.map eStp)
structure Edg where
 parent:Int
 steps:List Stp
structure Gr where
 base:Sch
 edges:List Edg
def eEdg (e:Edg):List L:=[.int .i64 e.parent,eScr e.steps]
def eEdgs (l:List Edg):L:=.sl 2 (l.map eEdg)
def eGr (g:Gr):List L:=[eTbls g.base.tables,eFKs g.base.fks,eCons g.base.cons,eEdgs g.edges]
def zEdg:Edg:=⟨0,[]⟩
def parN (g:Gr) (v:Nat):Nat:=((g.edges.getD (v - 1) zEdg).parent).toNat
structure GrOk (g:Gr):Prop where
 par:∀v,0<v→v≤g.edges.length→parN g v<v
 int:∀k,∀h:k<g.edges.length,g.edges[k].parent=(parN g (k+1):Int)
theorem revTo_zero (l:List Hp):revTo l 0=l:=by
 refine List.ext_getElem (revTo_len l 0) fun j h1 h2=>?_
 rw [revTo_at h2,if_neg (by omega),getD_lt _ h2]
theorem revTo_all (l:List Hp) {k:Nat} (h:l.length≤2 * k+1):revTo l k=l.reverse:=by
 refine List.ext_getElem (by rw [revTo_len,List.length_reverse]) fun j h1 h2=>?_
 rw [List.length_reverse] at h2
 rw [revTo_at h2,List.getElem_reverse]
 by_cases hj:j<k∨l.length≤j+k
 ·rw [if_pos hj,getD_lt _ (by omega)]
 ·rw [if_neg hj,getD_lt _ (by omega)]
  congr 1
  omega
set_option maxHeartbeats 16000000 in
theorem reverseHops_satM (l:List Hp) (h1:l.length≤1048576):SatM Tryz.prog 20 [.one (.ref 1000 0 l.length)] [] [(1000,⟨2,l.map eHp,[]⟩)] (.tup []) [] [(1000,⟨2,l.reverse.map eHp,[]⟩)]:=by
 have lm:∀k,((revTo l k).map eHp).length=l.length:=fun k=>by rw [List.length_map,revTo_len]
 refine sM tyOk [] [1000] Tryz.func20 fun w0 m0 F0=>?_
 simp only [Tryz.ntmps20,envOf,Nat.reduceAdd]
 repeat' (first|((with_reducible refine qV tyOk fun K hK=>?_)<;>simp -dsimp (disch:=first|exact D|fail) only [go_sem,↓reduceIte,seval])|((with_reducible refine hK _ ?_);clear hK K)|refine Q1 ?_|fail)
 refine AWP.loop (ι:={k:Nat // 2 * k≤l.length+1}) (fun k=>⟨28,[(0,.v (.one (.ref 1000 0 l.length))),(2,.v (oI k.1)),(3,.v (oI ((l.length:Int) - 1 - k.1)))],[],[(1000,⟨2,(revTo l k.1).map eHp,[]⟩)]⟩) (fun k=>l.length+1 - k.1) ⟨0,by omega⟩ ?_ fun ⟨k,hk⟩=>?_
 ·refine St.le_mk ?_ ?_ ?_<;>simp only [LE,EN,Nat.reduceEqDiff,reduceIte,Nat.reduceSub,revTo_zero,Int.sub_zero,Int.natCast_zero]
 simp only at hk ⊢
 rcases Nat.lt_or_ge (2 * k+1) l.length with hc|hc
 ·have w1:((l.length:Int) - 1 - k).toNat=l.length - 1 - k:=by omega
  have g1:((revTo l k).map eHp).getD k []=eHp (l.getD k zHp):=by rw [getD_map_lt _ _ _ (by rw [revTo_len];omega),revTo_at (by omega),if_neg (by omega)]
  have g2:((revTo l k).map eHp).getD (l.length - 1 - k) []=eHp (l.getD (l.length - 1 - k) zHp):=by rw [getD_map_lt _ _ _ (by rw [revTo_len];omega),revTo_at (by omega),if_neg (by omega)]
  have g3:∀x,(((revTo l k).map eHp).set k x).getD (l.length - 1 - k) []=eHp (l.getD (l.length - 1 - k) zHp):=fun x=>by rw [List.getD_eq_getElem?_getD,List.getElem?_set_ne (by omega),←List.getD_eq_getElem?_getD,g2]
  have st:(((revTo l k).map eHp).set k (eHp (l.getD (l.length - 1 - k) zHp))).set (l.length - 1 - k) (eHp (l.getD k zHp))=(revTo l (k+1)).map eHp:=by rw [←revTo_succ l hc,List.map_set,List.map_set]
  simp only [eHp] at st
  repeat' (first|((first|with_reducible refine qV tyOk fun K hK=>?_|(refine AWP.isRegion 3 ?_;refine dX tyOk mixed [(0,13)] [(13,[(14,1)],[(2,2)]),(15,[],[])] [13,15] 8 fun K hK=>?_;simp only [SG,segs] at hK ⊢)|(with_reducible first|refine VCy.some fun K hK=>?_|refine VCy.step fun K hK=>?_))<;>simp -dsimp (disch:=first|exact D|fail) only [go_sem,↓reduceIte,seval,w1,g1,g2,g3,lm,eHp,Option.getD_none,List.length_set])|((with_reducible refine hK _ ?_);clear hK K)|(with_reducible refine VCy.intro fun K0 hK0=>?_)|((with_reducible refine VCy.fin ?_);(refine hK0 _ ?_);clear hK0 K0)|(with_reducible first|refine VCy.quiet ?_|refine VCy.none ?_)|((with_reducible refine VCy.keep ?_ ?_);focus ((simp -dsimp (disch:=first|exact D|fail) only [go_sem,↓reduceIte,seval,Stable_cons,Stable_nil,sameA_some,sameA_none,w1,g1,g2,g3,lm,eHp,Option.getD_none,List.length_set]);first|done|exact E|fail))|refine Q1 ?_|((with_reducible refine qW (T:=TT) (b:=?_) ?_ ?_);rotate_left;exact rfl)|fail)
  refine ⟨⟨k+1,by omega⟩,by simp only;omega,?_⟩
  have e3:(l.length:Int) - 1 - k - 1=l.length - 1 - ((k:Int)+1):=by omega
  refine St.le_mk ?_ ?_ ?_<;>simp only [LE,EN,Nat.reduceEqDiff,reduceIte,Nat.reduceSub,st,e3,Int.natCast_add,Int.natCast_one]
 ·repeat' (first|((with_reducible refine qV tyOk fun K hK=>?_)<;>simp -dsimp (disch:=first|exact D|fail) only [go_sem,↓reduceIte,seval,lm])|((with_reducible refine hK _ ?_);clear hK K)|refine Q1 ?_|((with_reducible refine qW (T:=TT) (b:=?_) ?_ ?_);rotate_left;exact rfl)|fail)
  simp -dsimp (disch:=first|exact D|fail) only [retQ,Tryz.results20,resVals,cellRV,resOf,St.rest,St.freeze,RT,go_sem,↓reduceIte,seval]
  rw [revTo_all l (by omega)]
end Go.Bw
