/-
  WHAT IS PROVED HERE, of this translation: containsCon_sat, containsCon_take, rd_I, rd_S, cells_int, cells_string, cells_bool, cells_Value, cells_s_Column, cells_Column, cells_s_int, cells_Table, .., join_scan, evApply_ne, renamed_sat, itoaN_sat, keyed_sat, deleteVal_own, remO_snoc, remC_hit, remC_miss, remC_len, cloneInst_own.
  A theorem that ends in sat says what the function it names returns, whatever the state it is called in; the bounds on its arguments stand ahead of it.
-/
import Derived.Test.YtdnapljegcihiaaGreatDoorS1
import Derived.Lib.AppendIntMem
import Derived.Lib.ItoaLen
import Derived.Test.YtdnapljegcihiaaGreatDoorVh
set_option linter.unusedSimpArgs false
set_option linter.unusedVariables false
namespace Go.Bw
open Go.Proofs
theorem containsCon_sat (l:List Con) (c:Con) (hlen:l.length≤140737488355328) :
  Sat Tryz.prog 46 [.one (eCons l),.agg (eCon c)] (.v (oB (decide (0≤idx (conEq c) l 0)))):=by
 refine ZE Tryz.func46 Tryz.ntmps46 fun w0 m0 F0=>?_
 repeat' (first|((first|with_reducible refine qV tyOk fun K hK=>?_|((with_reducible refine CallJ.is ?_);(refine CallJ.pure (indexCon_sat l _ hlen) ?_)))<;>simp -dsimp (disch:=first|exact D|fail) only [go_sem,↓reduceIte,seval])|((with_reducible refine hK _ ?_);clear hK K)|refine Q1 ?_|fail)
 exact ZQ (Z1 Tryz.results46)
theorem containsCon_take (l:List Con) (k:Nat) (c:Con) (hlen:l.length≤140737488355328) :
  Sat Tryz.prog 46 [.one (.sl 7 ((l.map eCon).take k)),.agg (eCon c)] (.v (oB (decide (0≤idx (conEq c) (l.take k) 0)))):=by
 have h:=containsCon_sat (l.take k) c (by rw [List.length_take];omega)
 rw [eCons,List.map_take] at h
 exact h
section
abbrev IntOk (n:Int):Prop:=(Lit.int .i64 n).wf=true
structure Val.Ok (v:Val):Prop where
 kind:IntOk v.kind
 int:IntOk v.int
 text:v.text.size≤reachBytes
structure Col.Ok (c:Col):Prop where
 name:c.name.size≤reachBytes
 kind:IntOk c.kind
structure Tbl.Ok (t:Tbl):Prop where
 name:t.name.size≤reachBytes
 cols:t.cols.length * 32≤reachBytes∧∀c∈t.cols,c.Ok
 pk:t.pk.length * 8≤reachBytes∧∀n∈t.pk,IntOk n
structure FK.Ok (f:FK):Prop where
 table:f.table.size≤reachBytes
 cols:f.cols.length * 8≤reachBytes∧∀n∈f.cols,IntOk n
 ref:f.ref.size≤reachBytes
structure Con.Ok (c:Con):Prop where
 table:c.table.size≤reachBytes
 left:IntOk c.left
 op:c.op.size≤reachBytes
 right:IntOk c.right
 value:c.value.Ok
structure Sch.Ok (s:Sch):Prop where
 tables:s.tables.length * 64≤reachBytes∧∀t∈s.tables,t.Ok
 fks:s.fks.length * 56≤reachBytes∧∀f∈s.fks,f.Ok
 cons:s.cons.length * 80≤reachBytes∧∀c∈s.cons,c.Ok
def Row.Ok (r:Row):Prop:=r.length * 32≤reachBytes∧∀v∈r,v.Ok
def RowsOk (rs:List Row):Prop:=rs.length * 24≤reachBytes∧∀r∈rs,Row.Ok r
structure Rel.Ok (r:Rel):Prop where
 table:r.table.size≤reachBytes
 rows:RowsOk r.rows
def InstOk (i:Inst):Prop:=i.length * 40≤reachBytes∧∀r∈i,r.Ok
structure Chg.Ok (c:Chg):Prop where
 kind:IntOk c.kind
 table:c.table.size≤reachBytes
 key:Row.Ok c.key
 row:Row.Ok c.row
variable {w:World}
theorem rd_I:Rd Tryz.prog w 3 (fun n=>[.int .i64 n]) IntOk:=rd_int Tryz.underlying3
theorem rd_S:Rd Tryz.prog w 9 (fun s=>[.str s]) fun s=>s.size≤reachBytes:=rd_string Tryz.underlying9
theorem cells_int:Tryz.prog.cellsOf 3=1:=by kernel_rfl
theorem cells_string:Tryz.prog.cellsOf 9=1:=by kernel_rfl
theorem cells_bool:Tryz.prog.cellsOf 4=1:=by kernel_rfl
theorem cells_Value:Tryz.prog.cellsOf 29=3:=by kernel_rfl
theorem cells_s_Column:Tryz.prog.cellsOf 30=1:=by kernel_rfl
theorem cells_Column:Tryz.prog.cellsOf 51=3:=by kernel_rfl
theorem cells_s_int:Tryz.prog.cellsOf 27=1:=by kernel_rfl
theorem cells_Table:Tryz.prog.cellsOf 32=3:=by kernel_rfl
theorem cells_s_Table:Tryz.prog.cellsOf 22=1:=by kernel_rfl
theorem cells_ForeignKey:Tryz.prog.cellsOf 36=3:=by kernel_rfl
theorem cells_s_ForeignKey:Tryz.prog.cellsOf 23=1:=by kernel_rfl
theorem cells_Constraint:Tryz.prog.cellsOf 34=7:=by kernel_rfl
theorem cells_s_Constraint:Tryz.prog.cellsOf 24=1:=by kernel_rfl
theorem cells_Schema:Tryz.prog.cellsOf 26=3:=by kernel_rfl
theorem bytes_int:Tryz.prog.bytesOf 3=8:=by kernel_rfl
theorem bytes_Column:Tryz.prog.bytesOf 51=32:=by kernel_rfl
theorem bytes_Table:Tryz.prog.bytesOf 32=64:=by kernel_rfl
theorem bytes_ForeignKey:Tryz.prog.bytesOf 36=56:=by kernel_rfl
theorem bytes_Constraint:Tryz.prog.bytesOf 34=80:=by kernel_rfl
theorem rd_val:Rd Tryz.prog w 29 eVal Val.Ok :=
 (rd_struct3 Tryz.underlying29 ⟨rfl,rfl,rfl⟩ ⟨cells_int,cells_int,cells_string⟩ cells_Value rd_I rd_I rd_S).to (fun p=>⟨p.1,p.2.1,p.2.2.1⟩) (fun _=>by simp [eVal]) fun _ h=>⟨h.1,h.2.1,h.2.2.1⟩
theorem rd_col:Rd Tryz.prog w 51 eCol Col.Ok :=
 (rd_struct3 Tryz.underlying51 ⟨rfl,rfl,rfl⟩ ⟨cells_string,cells_int,cells_bool⟩ cells_Column rd_S rd_I (rd_bool Tryz.underlying4)).to (fun p=>⟨p.1,p.2.1,p.2.2.1⟩) (fun _=>by simp [eCol]) fun _ h=>⟨h.1,h.2.1⟩
theorem rd_cols:Rd Tryz.prog w 30 (fun l=>[eCols l]) fun l=>l.length * 32≤reachBytes∧∀c∈l,Col.Ok c :=
 rd_slice Tryz.underlying30 cells_Column bytes_Column (fun _=>rfl) rd_col
theorem rd_ints:Rd Tryz.prog w 27 (fun l=>[eInts l]) fun l=>l.length * 8≤reachBytes∧∀c∈l,IntOk c :=
 rd_slice Tryz.underlying27 cells_int bytes_int (fun _=>rfl) (eβ:=eInt1) rd_I
theorem rd_tbl:Rd Tryz.prog w 32 eTbl Tbl.Ok :=
 (rd_struct3 Tryz.underlying32 ⟨rfl,rfl,rfl⟩ ⟨cells_string,cells_s_Column,cells_s_int⟩ cells_Table rd_S rd_cols rd_ints).to (fun p=>⟨p.1,p.2.1,p.2.2.1⟩) (fun _=>by simp [eTbl]) fun _ h=>⟨h.1,h.2.1,h.2.2.1⟩
theorem rd_tbls:Rd Tryz.prog w 22 (fun l=>[eTbls l]) fun l=>l.length * 64≤reachBytes∧∀c∈l,Tbl.Ok c :=
 rd_slice Tryz.underlying22 cells_Table bytes_Table (fun _=>rfl) rd_tbl
theorem rd_fk:Rd Tryz.prog w 36 eFK FK.Ok :=
 (rd_struct3 Tryz.underlying36 ⟨rfl,rfl,rfl⟩ ⟨cells_string,cells_s_int,cells_string⟩ cells_ForeignKey rd_S rd_ints rd_S).to (fun p=>⟨p.1,p.2.1,p.2.2.1⟩) (fun _=>by simp [eFK]) fun _ h=>⟨h.1,h.2.1,h.2.2.1⟩
theorem rd_fks:Rd Tryz.prog w 23 (fun l=>[eFKs l]) fun l=>l.length * 56≤reachBytes∧∀c∈l,FK.Ok c :=
 rd_slice Tryz.underlying23 cells_ForeignKey bytes_ForeignKey (fun _=>rfl) rd_fk
theorem rd_con:Rd Tryz.prog w 34 eCon Con.Ok :=
 (rd_struct5 Tryz.underlying34 ⟨rfl,rfl,rfl,rfl,rfl⟩ ⟨cells_string,cells_int,cells_string,cells_int,cells_Value⟩ cells_Constraint rd_S rd_I rd_S rd_I rd_val).to (fun p=>⟨p.1,p.2.1,p.2.2.1,p.2.2.2.1,p.2.2.2.2.1⟩) (fun _=>by simp [eCon,eVal]) fun _ h=>⟨h.1,h.2.1,h.2.2.1,h.2.2.2.1,h.2.2.2.2.1⟩
theorem rd_cons:Rd Tryz.prog w 24 (fun l=>[eCons l]) fun l=>l.length * 80≤reachBytes∧∀c∈l,Con.Ok c :=
 rd_slice Tryz.underlying24 cells_Constraint bytes_Constraint (fun _=>rfl) rd_con
theorem rd_sch:Rd Tryz.prog w 26 eSch Sch.Ok :=
 (rd_struct3 Tryz.underlying26 ⟨rfl,rfl,rfl⟩ ⟨cells_s_Table,cells_s_ForeignKey,cells_s_Constraint⟩ cells_Schema rd_tbls rd_fks rd_cons).to (fun p=>⟨p.1,p.2.1,p.2.2.1⟩) (fun _=>by simp [eSch]) fun _ h=>⟨h.1,h.2.1,h.2.2.1⟩
theorem reachBytes_eq:reachBytes=140737488351232:=rfl
theorem Sch.Ok.fits {s:Sch} (h:s.Ok):s.Fits:=by
 obtain ⟨⟨a1,a2⟩,⟨b1,b2⟩,⟨c1,c2⟩⟩:=h
 rw [reachBytes_eq] at a1 b1 c1
 refine ⟨by omega,fun t ht=>?_,by omega,fun f hf=>?_,by omega⟩
 ·obtain ⟨_,⟨h1,_⟩,⟨h2,_⟩⟩:=a2 t ht
  rw [reachBytes_eq] at h1 h2
  exact ⟨by omega,by omega⟩
 ·obtain ⟨_,⟨h1,_⟩,_⟩:=b2 f hf
  rw [reachBytes_eq] at h1
  omega
end
section
variable {w:World}
def InstFits (i:Inst):Prop:=i.length≤140737488355328∧∀r∈i,r.rows.length≤140737488355328∧∀x∈r.rows,x.length≤140737488355328
theorem InstOk.fits {i:Inst} (h:InstOk i):InstFits i:=by
 obtain ⟨a1,a2⟩:=h
 rw [reachBytes_eq] at a1
 refine ⟨by omega,fun r hr=>?_⟩
 obtain ⟨_,b1,b2⟩:=a2 r hr
 rw [reachBytes_eq] at b1
 refine ⟨by omega,fun x hx=>?_⟩
 obtain ⟨c1,_⟩:=b2 x hx
 rw [reachBytes_eq] at c1
 omega
end
set_option maxHeartbeats 8000000 in
theorem cloneColsB_own (r:List Col) (h1:r.length * 32≤140737488355328):SatM Tryz.prog 115 [.one (eCols r)] [] [] (.v (.one (.ref 2 0 r.length))) [] [(2,⟨3,r.map eCol,[]⟩)]:=by
 refine ZM [] [2] Tryz.func115 Tryz.ntmps115 fun w0 m0 F0=>?_
 refine ZW Z0 Z0 ?_;repeat' (first|apply Zb|apply Zn|(apply Zk;intro K hK))
 intro b hb
 refine hK _ ?_
 try clear hK K
 refine ZWp Z0 Z0 ?_;repeat' (first|apply Zb|apply Zn|(apply Zm;intro h)|(apply Zk;intro K hK))
 all_goals simp -dsimp (disch:=first|exact D|fail) only [retQ,Tryz.results115,resVals,cellRV,resOf,St.rest,St.freeze,RT,go_sem,↓reduceIte,seval]
 have h2:r=[]:=by
  cases r with
  | nil=>rfl
  | cons x r=>exact absurd ((hb _ rfl (by simp)).symm.trans ‹b=true›) (by decide)
 subst h2
 exact ⟨rfl,rfl⟩
theorem cloneColsB_sat (r:List Col) (h1:r.length * 32≤140737488355328):Sat Tryz.prog 115 [.one (eCols r)] (.v (.one (eCols r))) :=
 (cloneColsB_own r h1).frz (by
  simp -dsimp (disch:=first|exact D|fail) only [go_sem,↓reduceIte,seval,topL_ref,St.rest,roots,dropL_nil,eCols]
  )
set_option maxHeartbeats 8000000 in
theorem cloneIntsB_own (r:List Int) (h1:r.length * 8≤140737488355328):SatM Tryz.prog 77 [.one (eInts r)] [] [] (.v (.one (.ref 2 0 r.length))) [] [(2,⟨1,r.map eInt1,[]⟩)]:=by
 refine ZM [] [2] Tryz.func77 Tryz.ntmps77 fun w0 m0 F0=>?_
 refine ZW Z0 Z0 ?_;repeat' (first|apply Zb|apply Zn|(apply Zk;intro K hK))
 intro b hb
 refine hK _ ?_
 try clear hK K
 refine ZWp Z0 Z0 ?_;repeat' (first|apply Zb|apply Zn|(apply Zm;intro h)|(apply Zk;intro K hK))
 all_goals simp -dsimp (disch:=first|exact D|fail) only [retQ,Tryz.results77,resVals,cellRV,resOf,St.rest,St.freeze,RT,go_sem,↓reduceIte,seval]
 have h2:r=[]:=by
  cases r with
  | nil=>rfl
  | cons x r=>exact absurd ((hb _ rfl (by simp)).symm.trans ‹b=true›) (by decide)
 subst h2
 exact ⟨rfl,rfl⟩
theorem cloneIntsB_sat (r:List Int) (h1:r.length * 8≤140737488355328):Sat Tryz.prog 77 [.one (eInts r)] (.v (.one (eInts r))) :=
 (cloneIntsB_own r h1).frz (by
  simp -dsimp (disch:=first|exact D|fail) only [go_sem,↓reduceIte,seval,topL_ref,St.rest,roots,dropL_nil,eInts]
  )
set_option maxHeartbeats 8000000 in
theorem cloneTableB_sat (t:Tbl) (h1:t.cols.length * 32≤140737488355328) (h2:t.pk.length * 8≤140737488355328):Sat Tryz.prog 76 [.agg (eTbl t)] (.v (.agg (eTbl t))):=by
 refine ZE Tryz.func76 Tryz.ntmps76 fun w0 m0 F0=>?_
 refine ZW Z0 Z0 ?_;repeat' (first|apply Zb|apply Zn|(apply Zk;intro K hK))
 refine dX tyOk mixed [(0,4),(5,2)] [(4,[],[(0,2),(5,2)]),(7,[(8,1)],[(0,2)]),(9,[],[])] [4,7,9] 8 fun K hK=>?_
 simp only [SG,segs] at hK ⊢
 refine ZU Z0 ?_
 refine ZV Z0 (Z2 (cloneColsB_sat t.cols h1) (cloneIntsB_sat t.pk h2)) Z0 Z0 ?_;repeat' (first|apply Zb|apply Zn|(apply Zk;intro K hK))
 exact ZQ (Z1 Tryz.results76)
set_option maxHeartbeats 8000000 in
theorem stpClone_sat (s:Stp) (h:s.Fits):Sat Tryz.prog 39 [.agg (eStp s)] (.v (.agg (eStp s))):=by
 have h1:=h.cols
 have h2:=h.ncols
 have h3:=h.npk
 have h4:=h.fk
 have c2:=cloneTableB_sat s.newTable h2 h3
 simp only [eTbl] at c2
 refine ZE Tryz.func39 Tryz.ntmps39 fun w0 m0 F0=>?_
 refine ZW (Z1 @eStp.eq_1) (Z3 (cloneIntsB_sat s.cols h1) (c2) (cloneIntsB_sat s.fk.cols h4)) ?_
 refine ZR (Z1 Tryz.results39) ?_
 simp only [eStp,eInts,eCols]
set_option maxHeartbeats 16000000 in
theorem normalized_sat (s:Stp):Sat Tryz.prog 48 [.agg (eStp s)] (.v (.agg (eStp (evNorm s)))):=by
 refine ZE Tryz.func48 Tryz.ntmps48 fun w0 m0 F0=>?_
 repeat' (first|((first|with_reducible refine qV tyOk fun K hK=>?_|(refine AWP.isRegion 4 ?_;refine dX tyOk mixed [(0,7)] [(7,[(8,1)],[(2,4)]),(9,[(10,1)],[(4,2)]),(11,[],[])] [7,9,11] 8 fun K hK=>?_;simp only [SG,segs] at hK ⊢)|(refine AWP.isRegion 6 ?_;refine dX tyOk mixed [(0,5)] [(5,[(6,1)],[(2,2)]),(7,[],[])] [5,7] 8 fun K hK=>?_;simp only [SG,segs] at hK ⊢)|(refine AWP.isRegion 8 ?_;refine dX tyOk mixed [(0,5)] [(5,[(6,1)],[(2,2)]),(7,[],[])] [5,7] 8 fun K hK=>?_;simp only [SG,segs] at hK ⊢)|(refine AWP.isRegion 12 ?_;refine dX tyOk mixed [(0,5)] [(5,[(6,1)],[(2,2)]),(7,[],[])] [5,7] 8 fun K hK=>?_;simp only [SG,segs] at hK ⊢)|(refine AWP.isRegion 14 ?_;refine dX tyOk mixed [(0,5)] [(5,[(6,1)],[(2,2)]),(7,[],[])] [5,7] 8 fun K hK=>?_;simp only [SG,segs] at hK ⊢)|(refine AWP.isRegion 18 ?_;refine dX tyOk mixed [(0,9)] [(9,[(10,1)],[(2,6)]),(11,[(12,1)],[(4,4)]),(13,[(14,1)],[(6,2)]),(15,[],[])] [9,11,13,15] 8 fun K hK=>?_;simp only [SG,segs] at hK ⊢)|(refine AWP.isRegion 20 ?_;refine dX tyOk mixed [(0,5)] [(5,[(6,1)],[(2,2)]),(7,[],[])] [5,7] 8 fun K hK=>?_;simp only [SG,segs] at hK ⊢)|(refine AWP.isRegion 22 ?_;refine dX tyOk mixed [(0,3)] [(3,[(4,1)],[(0,2)]),(5,[],[])] [3,5] 8 fun K hK=>?_;simp only [SG,segs] at hK ⊢)|(refine AWP.isRegion 24 ?_;refine dX tyOk mixed [(0,5)] [(5,[(6,1)],[(2,2)]),(7,[],[])] [5,7] 8 fun K hK=>?_;simp only [SG,segs] at hK ⊢)|(refine AWP.isRegion 27 ?_;refine dX tyOk mixed [(0,3)] [(3,[(4,1)],[(0,2)]),(5,[],[])] [3,5] 8 fun K hK=>?_;simp only [SG,segs] at hK ⊢)|(refine AWP.isRegion 30 ?_;refine dX tyOk mixed [(0,3)] [(3,[(4,1)],[(0,2)]),(5,[],[])] [3,5] 8 fun K hK=>?_;simp only [SG,segs] at hK ⊢)|(with_reducible first|refine VCy.some fun K hK=>?_|refine VCy.step fun K hK=>?_))<;>simp -dsimp (disch:=first|exact D|fail) only [go_sem,↓reduceIte,seval,eStp])|((with_reducible refine hK _ ?_);clear hK K)|(with_reducible refine VCy.intro fun K0 hK0=>?_)|((with_reducible refine VCy.fin ?_);(refine hK0 _ ?_);clear hK0 K0)|(with_reducible first|refine VCy.quiet ?_|refine VCy.none ?_)|((with_reducible refine VCy.keep ?_ ?_);focus ((simp -dsimp (disch:=first|exact D|fail) only [go_sem,↓reduceIte,seval,Stable_cons,Stable_nil,sameA_some,sameA_none,eStp]);first|done|exact E|fail))|refine Q1 ?_|((with_reducible refine qW (T:=TT) (b:=?_) ?_ ?_);rotate_left;exact rfl)|((with_reducible refine yS ?_ ?_)<;>(intro h;try simp only [NM] at h))|fail)
 all_goals simp -dsimp (disch:=first|exact D|fail) only [retQ,Tryz.results48,resVals,cellRV,resOf,St.rest,St.freeze,RT,go_sem,↓reduceIte,seval]
 all_goals try simp [evNorm,eStp,zStp,zCon,zFK,eInts,eCols, *]
 all_goals rfl
set_option maxHeartbeats 16000000 in
theorem schClone_own (s:Sch) (h1:s.tables.length≤1048576) (h2:s.fks.length≤1048576) (h3:s.cons.length≤1048576) (h4:∀t∈s.tables,t.cols.length≤1048576∧t.pk.length≤1048576) (h5:∀f∈s.fks,f.cols.length≤1048576) :
  SatM Tryz.prog 37 [.agg (eSch s)] [] [] (.v (.agg [.ref 24 0 s.tables.length,.ref 42 0 s.fks.length,.ref 10 0 s.cons.length])) [] [(24,⟨3,s.tables.map eTblO,[]⟩),(42,⟨3,s.fks.map eFKO,[]⟩),(10,⟨7,s.cons.map eCon,[]⟩)]:=by
 refine sM tyOk [] [24,42,10] Tryz.func37 fun w0 m0 F0=>?_
 simp only [Tryz.ntmps37,envOf,Nat.reduceAdd]
 repeat' (first|((first|((fail_if_success (refine AWP.isRegion 2 ?_));(with_reducible refine qV tyOk fun K hK=>?_))|((with_reducible refine CallJ.is ?_);refine CallJ.io [] [] [] [(2,10)] [] [10] [] [10] (cloneCons_own s.cons (by omega)) rfl ⟨rfl,rfl,rfl,rfl⟩ ?_ ?_ ?_))<;>simp -dsimp (disch:=first|exact D|fail) only [go_sem,↓reduceIte,seval,dropL_nil,dropL_nil',dropL_cons])|((with_reducible refine hK _ ?_);clear hK K)|refine Q1 ?_|fail)
 refine AWP.nilBox 3 0 24 rfl rfl (.inl (by show 24<46;decide)) ?_
 simp -dsimp (disch:=first|exact D|fail) only [go_sem,↓reduceIte,seval,nilBoxR_mk,List.set_cons_zero,List.set_cons_succ]
 repeat' (first|((with_reducible refine qV tyOk fun K hK=>?_)<;>simp -dsimp (disch:=first|exact D|fail) only [go_sem,↓reduceIte,seval])|((with_reducible refine hK _ ?_);clear hK K)|refine Q1 ?_|fail)
 refine AWP.loop (ι:={k:Nat // k≤s.tables.length}) (fun k=>⟨46,[(1,.v (.one (.ptr 1 0))),(2,.v (.one (.ptr 2 0))),(3,.v (.one (.ptr 3 0))),(13,.v (.one (.sl 3 (s.tables.map eTbl)))),(14,.v (oI s.tables.length)),(15,.v (oI k.1))],[(3,[.ref 24 0 k.1,.nil 3,.ref 10 0 s.cons.length]),(2,[.nil 3,.nil 3,.nil 7]),(1,eSch s)],[(24,⟨3,(s.tables.take k.1).map eTblO,[]⟩),(10,⟨7,s.cons.map eCon,[]⟩)]⟩) (fun k=>s.tables.length - k.1) ⟨0,Nat.zero_le _⟩ ?_ fun ⟨k,hkl⟩=>?_
 ·refine St.le_mk ?_ ?_ ?_<;>simp only [LE,EN,Nat.reduceEqDiff,reduceIte,Nat.reduceSub,eSch,List.map_nil]
 simp only at hkl ⊢
 have hlen:(s.tables.take k).length=k:=by simp;omega
 rcases Nat.lt_or_ge k s.tables.length with hc|hc
 ·have ht:=h4 s.tables[k] (List.getElem_mem hc)
  have es:=take_snoc s.tables k hc
  repeat' (first|((((fail_if_success (refine AWP.isRegion 5 ?_));(with_reducible refine qV tyOk fun K hK=>?_)))<;>simp -dsimp (disch:=first|exact D|fail) only [go_sem,↓reduceIte,seval])|((with_reducible refine hK _ ?_);clear hK K)|refine Q1 ?_|((with_reducible refine qW (T:=TT) (b:=?_) ?_ ?_);rotate_left;exact rfl)|fail)
  refine dX tyOk mixed [(0,3)] [(3,[],[(0,2)]),(4,[],[(0,2)]),(5,[(6,1)],[]),(7,[],[])] [3,4,5,7] 8 fun K hK=>?_
  simp only [SG,segs] at hK ⊢
  simp -dsimp (disch:=first|exact D|fail) only [go_sem,↓reduceIte,seval,hlen,Option.getD_none]
  repeat' (first|((first|((with_reducible refine CallJ.is ?_);refine CallJ.io [] [] [] [(7,22),(10,21)] [] [22,21] [] [22,21] (cloneTable_own s.tables[k] (by omega) (by omega)) rfl ⟨rfl,rfl,rfl,rfl⟩ ?_ ?_ ?_)|(with_reducible first|refine VCy.some fun K hK=>?_|refine VCy.step fun K hK=>?_))<;>simp -dsimp (disch:=first|exact D|fail) only [go_sem,↓reduceIte,seval,hlen,Option.getD_none,dropL_nil,dropL_nil',dropL_cons])|((with_reducible refine hK _ ?_);clear hK K)|(with_reducible refine VCy.intro fun K0 hK0=>?_)|((with_reducible refine VCy.fin ?_);(refine hK0 _ ?_);clear hK0 K0)|(with_reducible first|refine VCy.quiet ?_|refine VCy.none ?_)|((with_reducible refine VCy.keep ?_ ?_);focus ((simp -dsimp (disch:=first|exact D|fail) only [go_sem,↓reduceIte,seval,Stable_cons,Stable_nil,sameA_some,sameA_none,hlen,Option.getD_none,dropL_nil,dropL_nil',dropL_cons]);first|done|exact E|fail))|refine Q1 ?_|fail)
  refine AWP.close 24 k 1 22 rfl rfl (by decide) (by simp [ovGet]) (by simp;omega) (by show 1<3;decide) rfl ?_
  simp -dsimp (disch:=first|exact D|fail) only [go_sem,↓reduceIte,seval,closeR_mk,ovCut_cons,ovCut_nil]
  refine AWP.close 24 k 2 21 rfl rfl (by decide) (by simp [ovGet]) (by simp [setCell_length];omega) (by show 2<3;decide) rfl ?_
  simp -dsimp (disch:=first|exact D|fail) only [go_sem,↓reduceIte,seval,closeR_mk,ovCut_cons,ovCut_nil]
  rw [setCell_last eTblO _ k hlen.symm,setCell_last eTblO _ k hlen.symm]
  repeat' (first|((with_reducible refine qV tyOk fun K hK=>?_)<;>simp -dsimp (disch:=first|exact D|fail) only [go_sem,↓reduceIte,seval])|((with_reducible refine hK _ ?_);clear hK K)|refine Q1 ?_|fail)
  refine ⟨⟨k+1,by omega⟩,by simp only;omega,?_⟩
  refine St.le_mk ?_ ?_ ?_<;>simp only [LE,EN,Nat.reduceEqDiff,reduceIte,Nat.reduceSub,eSch,es,eTblO,List.map_append,List.map_cons,List.map_nil,List.set_cons_zero,List.set_cons_succ]
 ·have hk:k=s.tables.length:=by omega
  subst hk
  repeat' (first|((((fail_if_success (refine AWP.isRegion 7 ?_));(with_reducible refine qV tyOk fun K hK=>?_)))<;>simp -dsimp (disch:=first|exact D|fail) only [go_sem,↓reduceIte,seval])|((with_reducible refine hK _ ?_);clear hK K)|refine Q1 ?_|((with_reducible refine qW (T:=TT) (b:=?_) ?_ ?_);rotate_left;exact rfl)|fail)
  refine AWP.nilBox 3 1 42 rfl rfl (.inl (by show 42<46;decide)) ?_
  simp -dsimp (disch:=first|exact D|fail) only [go_sem,↓reduceIte,seval,nilBoxR_mk,List.set_cons_zero,List.set_cons_succ,List.take_length]
  repeat' (first|((with_reducible refine qV tyOk fun K hK=>?_)<;>simp -dsimp (disch:=first|exact D|fail) only [go_sem,↓reduceIte,seval])|((with_reducible refine hK _ ?_);clear hK K)|refine Q1 ?_|fail)
  refine AWP.loop (ι:={k:Nat // k≤s.fks.length}) (fun k=>⟨46,[(1,.v (.one (.ptr 1 0))),(2,.v (.one (.ptr 2 0))),(3,.v (.one (.ptr 3 0))),(28,.v (.one (.sl 3 (s.fks.map eFK)))),(29,.v (oI s.fks.length)),(30,.v (oI k.1))],[(3,[.ref 24 0 s.tables.length,.ref 42 0 k.1,.ref 10 0 s.cons.length]),(2,[.nil 3,.nil 3,.nil 7]),(1,eSch s)],[(42,⟨3,(s.fks.take k.1).map eFKO,[]⟩),(24,⟨3,s.tables.map eTblO,[]⟩),(10,⟨7,s.cons.map eCon,[]⟩)]⟩) (fun k=>s.fks.length - k.1) ⟨0,Nat.zero_le _⟩ ?_ fun ⟨k,hkl⟩=>?_
  ·refine St.le_mk ?_ ?_ ?_<;>simp only [LE,EN,Nat.reduceEqDiff,reduceIte,Nat.reduceSub,eSch,List.map_nil]
  simp only at hkl ⊢
  have hlen:(s.fks.take k).length=k:=by simp;omega
  rcases Nat.lt_or_ge k s.fks.length with hc|hc
  ·have hf:=h5 s.fks[k] (List.getElem_mem hc)
   have es:=take_snoc s.fks k hc
   repeat' (first|((first|((fail_if_success (refine AWP.isRegion 12 ?_));(with_reducible refine qV tyOk fun K hK=>?_))|((with_reducible refine CallJ.is ?_);refine CallJ.io [] [] [] [(2,36)] [] [36] [] [36] (cloneInts_own s.fks[k].cols (by omega)) rfl ⟨rfl,rfl,rfl,rfl⟩ ?_ ?_ ?_))<;>simp -dsimp (disch:=first|exact D|fail) only [go_sem,↓reduceIte,seval,hlen,dropL_nil,dropL_nil',dropL_cons])|((with_reducible refine hK _ ?_);clear hK K)|refine Q1 ?_|((with_reducible refine qW (T:=TT) (b:=?_) ?_ ?_);rotate_left;exact rfl)|fail)
   refine AWP.close 42 k 1 36 rfl rfl (by decide) (by simp [ovGet]) (by simp;omega) (by show 1<3;decide) rfl ?_
   simp -dsimp (disch:=first|exact D|fail) only [go_sem,↓reduceIte,seval,closeR_mk,ovCut_cons,ovCut_nil]
   rw [setCell_last eFKO _ k hlen.symm]
   repeat' (first|((with_reducible refine qV tyOk fun K hK=>?_)<;>simp -dsimp (disch:=first|exact D|fail) only [go_sem,↓reduceIte,seval])|((with_reducible refine hK _ ?_);clear hK K)|refine Q1 ?_|fail)
   refine ⟨⟨k+1,by omega⟩,by simp only;omega,?_⟩
   refine St.le_mk ?_ ?_ ?_<;>simp only [LE,EN,Nat.reduceEqDiff,reduceIte,Nat.reduceSub,eSch,es,eFKO,List.map_append,List.map_cons,List.map_nil,List.set_cons_zero,List.set_cons_succ]
  ·have hk:k=s.fks.length:=by omega
   subst hk
   repeat' (first|((with_reducible refine qV tyOk fun K hK=>?_)<;>simp -dsimp (disch:=first|exact D|fail) only [go_sem,↓reduceIte,seval])|((with_reducible refine hK _ ?_);clear hK K)|refine Q1 ?_|((with_reducible refine qW (T:=TT) (b:=?_) ?_ ?_);rotate_left;exact rfl)|fail)
   simp -dsimp (disch:=first|exact D|fail) only [retQ,Tryz.results37,resVals,cellRV,resOf,St.rest,St.freeze,RT,go_sem,↓reduceIte,seval]
   all_goals rw [List.take_length]
theorem conE_zero {s:Sch} {c:Con} (h:conE s c=0):∃i,∃hi:i<s.tables.length,tblAt s.tables c.table=(i:Int)∧0≤c.left∧c.left<s.tables[i].cols.length∧-1≤c.right∧c.right<s.tables[i].cols.length:=by
 unfold conE at h
 split at h
 ·cases h
 rename_i h0
 rcases idx_cases (fun t=>sEq t.name c.table) s.tables 0 with ⟨e1,_⟩|⟨i,hi,e1,_⟩
 ·have e1:tblAt s.tables c.table=-1:=e1
  omega
 have e1:tblAt s.tables c.table=(i:Int):=by unfold tblAt;simpa using e1
 simp only [e1,Int.toNat_natCast,getD_lt _ hi] at h
 split at h
 ·cases h
 rename_i h1
 refine ⟨i,hi,e1,?_⟩
 omega
theorem pkOk_of {s:Sch} (h:schE s=0):∀t∈s.tables,∀c∈t.pk,0≤c∧c<(t.cols.length:Int):=by
 intro t ht c hc
 have o:=(okSch_of h).tbl t ht
 obtain ⟨k,hk,rfl⟩:=List.mem_iff_getElem.1 hc
 have:=o.key k hk
 exact ⟨this.1,this.2.1⟩
theorem smallS_of {s:Sch} (h:schE s=0):SmallS s:=by
 have sm:=small_of h
 have ok:=okSch_of h
 obtain ⟨h1,h2,h3,h4⟩:=(schE_zero s).1 h
 refine ⟨sm.tables,fun t ht=>⟨(sm.table t ht).1,(sm.table t ht).2,fun c hc=>?_⟩,sm.fks,fun f hf=>⟨sm.fk f hf,fun c hc=>?_⟩,sm.cons,fun c hc=>?_⟩
 ·have:=pkOk_of h t ht c hc
  have:=(sm.table t ht).1
  omega
 ·obtain ⟨j,hj,rfl⟩:=List.mem_iff_getElem.1 hf
  have h5:=h3 j hj
  unfold fksE at h5
  split at h5
  ·cases h5
  rename_i h6
  obtain ⟨i,q,hi,hq,_,_,_,h8⟩:=fkE_zero (s:=s) (f:=s.fks[j]) (by simpa using h6)
  obtain ⟨k,hk,rfl⟩:=List.mem_iff_getElem.1 hc
  have:=h8 k hk
  have:=(sm.table _ (List.getElem_mem hi)).1
  omega
 ·obtain ⟨j,hj,rfl⟩:=List.mem_iff_getElem.1 hc
  have h5:=h4 j hj
  unfold consE at h5
  split at h5
  ·cases h5
  rename_i h6
  obtain ⟨i,hi,_,h7⟩:=conE_zero (s:=s) (c:=s.cons[j]) (by simpa using h6)
  have:=(sm.table _ (List.getElem_mem hi)).1
  omega
section
open Go.Proofs Go.RowKit
theorem sat_of_calls {P:Program} {f:FuncId} {fn:Func} {c:Code} {xs:List V} {args:List Value} {v:Value} {r:A} (hf:P.funcs[f]?=some fn) (hb:fn.body=some c) (hn:(fn.name=="runtime.NumGoroutine")=false)
  (ha:∀m ω vs,ArgsRep m ω vs xs→vs=args) (hr:∀m ω,ARep m ω v r)
  (h:∀w,LaidW P w→Calls P f args.toArray w fun e w'=>e=.returned v∧Below w.heap.size w w'):Sat P f xs r:=by
 refine ⟨fun m w vs ω hC hA=>?_⟩
 have e:=ha _ _ _ hA
 subst e
 refine .inr ⟨?_,(h w (hC.good w (Keeps.refl _ _))).mono fun e w' ⟨he,hw⟩=>⟨v,he,m,ω,hC.grow hw (Mem.le_refl m) (fun _ _=>rfl) (fun x u hx=>(hw.cell (World.block_lt_of_cell? w x (hC.ok x u hx))).trans (hC.ok x u hx)),hr m ω⟩⟩
 simp only [callFunc,Sem.run_bind,program,Sem.run,Result.andThen_ok,hf]
 rw [hn,hb]
 simp
theorem args1 {m:Mem} {ω:Wh} {vs:List Value} {l:L} {u:Value} (hA:ArgsRep m ω vs [.one l]) (h:∀v,ERep m ω v l→v=u):vs=[u]:=by
 obtain ⟨h1,h2⟩:=hA
 obtain ⟨v,h3,h4⟩:=h2 0 (.one l) rfl
 match vs,h1,h3 with
 | [x],_,h3 =>
  simp only [List.getElem?_cons_zero,Option.some.injEq] at h3
  subst h3
  rw [h x h4]
theorem erep_int {m:Mem} {ω:Wh} {v:Value} {k:IntKind} {n:Int} (h:ERep m ω v (.int k n)):v=.int k n:=by
 have h:Rep m v (.int k n):=h
 cases h;rfl
def itoaB (n:Int):ByteArray:=⟨(Lib.itoa n).toArray⟩
theorem itoa_sat (n:Int) (h0:-9223372036854775808≤n) (h1:n≤9223372036854775807):Sat Tryz.prog 61 [.one (.int .i64 n)] (.v (.one (.str (itoaB n)))) :=
 sat_of_calls (args:=[.int .i64 n]) (v:=.string (itoaB n)) Tryz.func61 rfl (by kernel_rfl) (fun m ω vs hA=>args1 hA fun v h=>erep_int h) (fun m ω=>Rep.str _) fun w hw =>
  (Tryz.strconv_Itoa n h0 h1 w (hw.pow (by kernel_rfl))).mono fun e w' ⟨he,k,os,hk⟩=>⟨he,hk▸Lib.below_grow _ w (Nat.le_refl _) k os⟩
end
theorem itoaB_le (n:Int) (h0:-9223372036854775808≤n) (h1:n≤9223372036854775807):(itoaB n).size≤21:=by
 have e:(itoaB n).size=(Lib.itoa n).length:=by
  show (itoaB n).data.size=_
  rw [←Array.length_toList]
  simp [itoaB]
 rw [e]
 exact Lib.itoa_length_le n h0 h1
def nmB (p:UInt8) (i:Nat):ByteArray:=(⟨#[p]⟩:ByteArray)++itoaB i
def kC (t:Tbl) (n:Nat):List Col:=(List.range n).map fun i=>{t.cols.getD (t.pk.getD i 0).toNat zCol with name:=nmB 107 i}
def keyedT (t:Tbl) (cols:List Col):Tbl:=⟨t.name,kC t t.pk.length++cols,seqI t.pk.length⟩
def numK (l:List Col) (n:Nat):List Col:=(List.range n).map fun i=>{l.getD i zCol with name:=nmB 98 i}
def numC (l:List Col):List Col:=numK l l.length
theorem kC_succ (t:Tbl) (n:Nat):kC t (n+1)=kC t n++[{t.cols.getD (t.pk.getD n 0).toNat zCol with name:=nmB 107 n}]:=by
 unfold kC
 rw [List.range_succ,List.map_append]
 rfl
theorem kC_len (t:Tbl) (n:Nat):(kC t n).length=n:=by unfold kC;simp
def ren1 (c:Col) (n:ByteArray):Col:={c with name:=n}
def oldB:ByteArray:=⟨#[111,108,100]⟩
def old0B:ByteArray:=⟨#[111,108,100,48]⟩
def old1B:ByteArray:=⟨#[111,108,100,49]⟩
def newB:ByteArray:=⟨#[110,101,119]⟩
def otherB:ByteArray:=⟨#[111,116,104,101,114]⟩
def keepAt {α:Type} (l:List Int):List α→Nat→List α
 | [],_=>[]
 | x::r,k=>if l.elem (k:Int) then x::keepAt l r (k+1) else keepAt l r (k+1)
def compT (s u:Sch) (st:Stp):Tbl :=
 if st.kind=10 then st.newTable else
 let t:=tAt s (mx0 (tblAt s.tables st.table)).toNat
 if st.kind=11 then t else
 let cs:=(tAt u (mx0 (tblAt u.tables st.table)).toNat).cols
 let last:=cs.getD (cs.length - 1) zCol
 let c:=(mx0 (colAt t.cols st.column)).toNat
 if st.kind=1 then keyedT t [ren1 last oldB]
 else if st.kind=2 then keyedT t [ren1 (t.cols.getD c zCol) oldB]
 else if st.kind=5 then keyedT t [ren1 (t.cols.getD c zCol) oldB,ren1 (cs.getD c zCol) newB]
 else if st.kind=12 then keyedT t [ren1 (t.cols.getD (st.cols.getD 0 0).toNat zCol) old0B,ren1 (t.cols.getD (st.cols.getD 1 0).toNat zCol) old1B,ren1 last newB]
 else if st.kind=8 then keyedT t [⟨otherB,2,false⟩]
 else if st.kind=7 then keyedT t (numC (cs.drop t.cols.length))
 else keyedT t (numC (keepAt st.cols t.cols 0))
def compE (s:Sch) (st:Stp):Res:=match evoE s st with
 | .error e=>.error e
 | .ok u=>if st.kind=13∨st.kind=14∨st.kind=15∨st.kind=16 then .ok ⟨s.tables,[],[]⟩
  else if st.kind=3∨st.kind=4∨st.kind=9 then .ok ⟨[],[],[]⟩
  else .ok ⟨[compT s u st],[],[]⟩
theorem fits_ite {c:Prop} [Decidable c] {a b:Stp} (ha:a.Fits) (hb:b.Fits):(if c then a else b).Fits:=by
 by_cases h:c
 ·rw [if_pos h];exact ha
 ·rw [if_neg h];exact hb
theorem evNorm_fits {s:Stp} (h:s.Fits):(evNorm s).Fits:=by
 have z1:zStp.cols.length * 8≤140737488355328:=by show 0 * 8≤_;decide
 have z2:zStp.newTable.cols.length * 32≤140737488355328:=by show 0 * 32≤_;decide
 have z3:zStp.newTable.pk.length * 8≤140737488355328:=by show 0 * 8≤_;decide
 have z4:zStp.fk.cols.length * 8≤140737488355328:=by show 0 * 8≤_;decide
 unfold evNorm
 repeat' refine fits_ite ?_ ?_
 all_goals exact ⟨by first|exact h.cols|exact z1,by first|exact h.ncols|exact z2,by first|exact h.npk|exact z3,by first|exact h.fk|exact z4⟩
structure Sz (s:Sch) (a b:Nat):Prop where
 tables:s.tables.length≤a
 table:∀t∈s.tables,t.cols.length≤b∧t.pk.length≤b
 fks:s.fks.length≤a
 fk:∀f∈s.fks,f.cols.length≤b
 cons:s.cons.length≤a
theorem Sz.mono {s:Sch} {a b a' b':Nat} (h:Sz s a b) (ha:a≤a') (hb:b≤b'):Sz s a' b' :=
 ⟨Nat.le_trans h.tables ha,fun t ht=>⟨Nat.le_trans (h.table t ht).1 hb,Nat.le_trans (h.table t ht).2 hb⟩,Nat.le_trans h.fks ha,fun f hf=>Nat.le_trans (h.fk f hf) hb,Nat.le_trans h.cons ha⟩
theorem SmallS.sz {s:Sch} (h:SmallS s):Sz s 8 6 :=
 ⟨Nat.le_trans h.tables (by decide),fun t ht=>⟨(h.table t ht).1,(h.table t ht).2.1⟩,h.fks,fun f hf=>(h.fk f hf).1,h.cons⟩
theorem Sz.fits {s:Sch} {a b:Nat} (h:Sz s a b) (ha:a≤140737488355328) (hb:b≤140737488355328):s.Fits :=
 ⟨Nat.le_trans h.tables ha,fun t ht=>⟨Nat.le_trans (h.table t ht).1 hb,Nat.le_trans (h.table t ht).2 hb⟩,Nat.le_trans h.fks ha,fun f hf=>Nat.le_trans (h.fk f hf) hb,Nat.le_trans h.cons ha⟩
theorem Sz.tAt {s:Sch} {a b:Nat} (h:Sz s a b) (i:Nat):(tAt s i).cols.length≤b∧(tAt s i).pk.length≤b:=by
 unfold Go.Bw.tAt
 rw [List.getD_eq_getElem?_getD]
 cases hx:s.tables[i]? with
 | none=>exact ⟨Nat.zero_le _,Nat.zero_le _⟩
 | some t=>exact h.table t (List.mem_of_getElem? hx)
theorem Sz.setT {s:Sch} {a b:Nat} (h:Sz s a b) (i:Nat) {t:Tbl} (ht:t.cols.length≤b∧t.pk.length≤b):Sz (setT s i t) a b :=
 ⟨by show (s.tables.set i t).length≤a;rw [List.length_set];exact h.tables,fun x hx=>by
  rcases List.mem_or_eq_of_mem_set (show x∈s.tables.set i t from hx) with hx|rfl
  ·exact h.table x hx
  ·exact ht,h.fks,h.fk,h.cons⟩
theorem Sz.remap {s:Sch} {a b:Nat} (h:Sz s a b) (n:ByteArray) (g:Int→Int):Sz (remapS s n g) a b :=
 ⟨h.tables,h.table,by show (s.fks.map _).length≤a;rw [List.length_map];exact h.fks,fun f hf=>by
  obtain ⟨x,hx,rfl⟩:=List.mem_map.1 (show f∈s.fks.map (remapFK n g) from hf)
  have:=h.fk x hx
  unfold remapFK
  split
  ·simpa using this
  ·exact this,by show (s.cons.map _).length≤a;rw [List.length_map];exact h.cons⟩
theorem Sz.removeC {s:Sch} {a b:Nat} (h:Sz s a b) (i:Nat) (r:List Int):Sz (removeC s i r) a b:=by
 unfold Go.Bw.removeC
 refine (h.setT i ?_).remap _ _
 have:=h.tAt i
 exact ⟨Nat.le_trans (dropAt_len r _ 0) this.1,by simpa using this.2⟩
theorem Sz.insertT {s:Sch} {a b:Nat} (h:Sz s a b) {t:Tbl} (ht:t.cols.length≤b∧t.pk.length≤b):Sz (insertT s t) (a+1) b:=by
 have hp:=ginsS_perm cmpT 0 (s.tables.length+1) (s.tables++[t])
 refine ⟨?_,fun x hx=>?_,Nat.le_succ_of_le h.fks,h.fk,Nat.le_succ_of_le h.cons⟩
 ·show (ginsS cmpT 0 (s.tables.length+1) (s.tables++[t])).length≤a+1
  rw [hp.length_eq,List.length_append,List.length_singleton]
  exact Nat.succ_le_succ h.tables
 ·have:=hp.mem_iff.1 (show x∈ginsS cmpT 0 (s.tables.length+1) (s.tables++[t]) from hx)
  rcases List.mem_append.1 this with hx|hx
  ·exact h.table x hx
  ·rw [List.mem_singleton.1 hx];exact ht
theorem Sz.removeT {s:Sch} {a b:Nat} (h:Sz s a b) (n:ByteArray):Sz (removeT s n) a b :=
 ⟨Nat.le_trans (List.length_filter_le _ _) h.tables,fun t ht=>h.table t (List.mem_filter.1 (show t∈s.tables.filter _ from ht)).1,Nat.le_trans (List.length_filter_le _ _) h.fks,fun f hf=>h.fk f (List.mem_filter.1 (show f∈s.fks.filter _ from hf)).1,Nat.le_trans (List.length_filter_le _ _) h.cons⟩
theorem mem_cut {α:Type} {l:List α} {k:Nat} {x:α} (h:x∈l.take k++l.drop (k+1)):x∈l:=by
 rcases List.mem_append.1 h with h|h
 ·exact List.mem_of_mem_take h
 ·exact List.mem_of_mem_drop h
theorem len_cut {α:Type} (l:List α) (k:Nat):(l.take k++l.drop (k+1)).length≤l.length:=by simp;omega
theorem Sz.mapFK {s:Sch} {a b:Nat} (h:Sz s a b) (g:FK→FK) (g':Con→Con) (hg:∀f,(g f).cols.length=f.cols.length):Sz ⟨s.tables,s.fks.map g,s.cons.map g'⟩ a b :=
 ⟨h.tables,h.table,by simpa using h.fks,fun f hf=>by
  obtain ⟨x,hx,rfl⟩:=List.mem_map.1 hf
  rw [hg]
  exact h.fk x hx,by simpa using h.cons⟩
theorem Sz.tbls {s:Sch} {a b:Nat} (h:Sz s a b) {ts:List Tbl} (h1:ts.length≤a) (h2:∀t∈ts,t.cols.length≤b∧t.pk.length≤b):Sz ⟨ts,s.fks,s.cons⟩ a b:=⟨h1,h2,h.fks,h.fk,h.cons⟩
theorem Sz.addFK {s:Sch} {a b:Nat} (h:Sz s a b) {l:List FK} {l':List Con} (h1:l.length≤8) (h2:∀f∈l,f.cols.length≤b) (h3:l'.length≤8):Sz ⟨s.tables,s.fks++l,s.cons++l'⟩ (a+8) b:=by
 have:=h.tables
 have:=h.fks
 have:=h.cons
 refine ⟨by simp only;omega,h.table,by simp only [List.length_append];omega,fun f hf=>?_,by simp only [List.length_append];omega⟩
 rcases List.mem_append.1 hf with hf|hf
 ·exact h.fk f hf
 ·exact h2 f hf
theorem evApply_sz {s:Sch} {st:Stp} {R:Sch} (sm:SmallS s) (h1:st.cols.length≤17592186044416) (h2:st.newTable.cols.length≤17592186044416) (h3:st.newTable.pk.length≤17592186044416) (h4:st.fk.cols.length≤17592186044416) (h:evApply s st=.ok R):Sz R 32 17592186044448:=by
 have z:=sm.sz
 have z0:Sz s 8 17592186044448:=z.mono (Nat.le_refl _) (by decide)
 unfold evApply at h
 by_cases k0:st.kind=13
 ·rw [if_pos k0] at h
  injection h with h;subst h
  have:=z0.addFK (l:=[]) (l':=[st.con]) (by simp) (fun f hf=>by cases hf) (by simp)
  rw [List.append_nil] at this
  exact this.mono (by decide) (Nat.le_refl _)
 rw [if_neg k0] at h
 by_cases k1:st.kind=14
 ·rw [if_pos k1] at h
  unfold dropCon at h
  simp only at h
  split at h
  ·cases h
  injection h with h;subst h
  exact ⟨Nat.le_trans z0.tables (by decide),z0.table,Nat.le_trans z0.fks (by decide),z0.fk,Nat.le_trans (len_cut _ _) (Nat.le_trans z0.cons (by decide))⟩
 rw [if_neg k1] at h
 by_cases k2:st.kind=15
 ·rw [if_pos k2] at h
  injection h with h;subst h
  have:=z0.addFK (l:=[st.fk]) (l':=[]) (by simp) (fun f hf=>by rw [List.mem_singleton.1 hf];omega) (by simp)
  rw [List.append_nil] at this
  exact this.mono (by decide) (Nat.le_refl _)
 rw [if_neg k2] at h
 by_cases k3:st.kind=16
 ·rw [if_pos k3] at h
  unfold dropFK at h
  simp only at h
  split at h
  ·cases h
  injection h with h;subst h
  exact ⟨Nat.le_trans z0.tables (by decide),z0.table,Nat.le_trans (len_cut _ _) (Nat.le_trans z0.fks (by decide)),fun f hf=>z0.fk f (mem_cut hf),Nat.le_trans z0.cons (by decide)⟩
 rw [if_neg k3] at h
 by_cases k4:st.kind=10
 ·rw [if_pos k4] at h
  unfold createT at h
  split at h
  ·cases h
  injection h with h;subst h
  exact (z0.insertT ⟨by omega,by omega⟩).mono (by decide) (Nat.le_refl _)
 rw [if_neg k4] at h
 simp only at h
 by_cases k5:tblAt s.tables st.table<0
 ·rw [if_pos k5] at h
  cases h
 rw [if_neg k5] at h
 generalize (tblAt s.tables st.table).toNat=i at h
 have ta:=z.tAt i
 by_cases k6:st.kind=4
 ·rw [if_pos k6] at h
  unfold renameT at h
  simp only at h
  split at h
  ·cases h
  injection h with h;subst h
  have:=(((z0.tbls (ts:=s.tables.take i++s.tables.drop (i+1)) (Nat.le_trans (len_cut _ _) z0.tables) (fun t ht=>z0.table t (mem_cut ht))).insertT (t:={tAt s i with name:=st.newName}) ⟨by simp only;omega,by simp only;omega⟩).mapFK (fun f=>{f with table:=ren (tAt s i).name st.newName f.table,ref:=ren (tAt s i).name st.newName f.ref}) (fun c=>{c with table:=ren (tAt s i).name st.newName c.table}) fun f=>rfl)
  exact this.mono (by decide) (Nat.le_refl _)
 rw [if_neg k6] at h
 by_cases k7:st.kind=6
 ·rw [if_pos k7] at h
  unfold splitT at h
  simp only at h
  split at h
  ·cases h
  split at h
  ·cases h
  split at h
  ·cases h
  injection h with h;subst h
  have a1:=(z0.mapFK (splitFK (tAt s i) st) (splitCon (tAt s i) st) (fun f=>by unfold splitFK;split<;>simp)).removeC i st.cols
  have a2:=a1.insertT (t:=⟨st.other,((tAt s i).pk++st.cols).map fun c=>(tAt s i).cols.getD c.toNat zCol,seqI (tAt s i).pk.length⟩) ⟨by simp only [List.length_map,List.length_append];omega,by simp only [seqI_len];omega⟩
  have a3:=a2.addFK (l:=[⟨st.other,seqI (tAt s i).pk.length,(tAt s i).name⟩]) (l':=[]) (by simp) (fun f hf=>by rw [List.mem_singleton.1 hf];simp only [seqI_len];omega) (by simp)
  rw [List.append_nil] at a3
  exact a3.mono (by decide) (Nat.le_refl _)
 rw [if_neg k7] at h
 by_cases k8:st.kind=7
 ·rw [if_pos k8] at h
  unfold joinT at h
  simp only at h
  split at h
  ·cases h
  split at h
  ·cases h
  split at h
  ·cases h
  split at h
  ·cases h
  rename_i s1 hd
  split at h
  ·cases h
  injection h with h;subst h
  have zd:Sz s1 8 17592186044448:=by
   unfold dropFK at hd
   simp only at hd
   split at hd
   ·cases hd
   injection hd with hd;subst hd
   exact ⟨z0.tables,z0.table,Nat.le_trans (len_cut _ _) z0.fks,fun f hf=>z0.fk f (mem_cut hf),z0.cons⟩
  have tb:=z.tAt (tblAt s.tables st.other).toNat
  have a1:=zd.remap st.other (joinG (tAt s i))
  have a2:=a1.setT i (t:={tAt s i with cols:=(tAt s i).cols++(tAt s (tblAt s.tables st.other).toNat).cols.drop (tAt s i).pk.length}) ⟨by simp only [List.length_append,List.length_drop];omega,by simp only;omega⟩
  have a3:=(a2.tbls (Nat.le_trans (len_cut _ (tblAt s.tables st.other).toNat) a2.tables) (fun t ht=>a2.table t (mem_cut ht))).mapFK (fun f=>{f with table:=ren st.other (tAt s i).name f.table}) (fun c=>{c with table:=ren st.other (tAt s i).name c.table}) fun f=>rfl
  exact a3.mono (by decide) (Nat.le_refl _)
 rw [if_neg k8] at h
 by_cases k9:st.kind=8
 ·rw [if_pos k9] at h
  unfold partT at h
  simp only at h
  split at h
  ·cases h
  split at h
  ·cases h
  split at h
  ·cases h
  split at h
  ·cases h
  split at h
  ·cases h
  split at h
  ·cases h
  injection h with h;subst h
  have f1:((s.fks.filter fun f=>sEq f.table (tAt s i).name).map fun f=>{f with table:=st.other}).length≤8:=by rw [List.length_map];exact Nat.le_trans (List.length_filter_le _ _) z0.fks
  have f2:((s.cons.filter fun c=>sEq c.table (tAt s i).name).map fun c=>{c with table:=st.other}).length≤8:=by rw [List.length_map];exact Nat.le_trans (List.length_filter_le _ _) z0.cons
  have a1:=z0.addFK f1 (fun f hf=>by
   obtain ⟨x,hx,rfl⟩:=List.mem_map.1 hf
   exact z0.fk x (List.mem_filter.1 hx).1) f2
  exact (a1.insertT (t:={tAt s i with name:=st.other}) ⟨by simp only;omega,by simp only;omega⟩).mono (by decide) (Nat.le_refl _)
 rw [if_neg k9] at h
 by_cases k10:st.kind=9
 ·rw [if_pos k10] at h
  unfold mergeT at h
  simp only at h
  split at h
  ·cases h
  split at h
  ·cases h
  split at h
  ·cases h
  injection h with h;subst h
  exact ((z0.setT i ⟨by simp only [List.length_append,List.length_cons,List.length_nil];omega,by simp only [List.length_append,List.length_cons,List.length_nil];omega⟩).removeT _).mono (by decide) (Nat.le_refl _)
 rw [if_neg k10] at h
 by_cases k11:st.kind=11
 ·rw [if_pos k11] at h
  unfold dropT at h
  split at h
  ·cases h
  injection h with h;subst h
  exact (z0.removeT _).mono (by decide) (Nat.le_refl _)
 rw [if_neg k11] at h
 by_cases k12:st.kind=12
 ·rw [if_pos k12] at h
  unfold concatC at h
  split at h
  ·simp only at h
   split at h
   ·cases h
   split at h
   ·cases h
   split at h
   ·cases h
   split at h
   ·cases h
   injection h with h;subst h
   rename_i x y _ _ _ _ _
   have a1:=z.removeC i [x,y]
   have ta1:=a1.tAt i
   exact ((a1.mono (Nat.le_refl _) (by decide:6≤17592186044448)).setT i ⟨by simp only [List.length_append,List.length_cons,List.length_nil];omega,by simp only;omega⟩).mono (by decide) (Nat.le_refl _)
  ·cases h
 rw [if_neg k12] at h
 by_cases k13:st.kind=1
 ·rw [if_pos k13] at h
  unfold addC at h
  simp only at h
  split at h
  ·cases h
  injection h with h;subst h
  exact (z0.setT i ⟨by simp only [List.length_append,List.length_cons,List.length_nil];omega,by simp only;omega⟩).mono (by decide) (Nat.le_refl _)
 ·rw [if_neg k13] at h
  unfold alterC at h
  simp only at h
  split at h
  ·cases h
  split at h
  ·split at h
   ·cases h
   injection h with h;subst h
   exact (z0.setT i ⟨by simp only [setC,List.length_set];omega,by simp only [setC];omega⟩).mono (by decide) (Nat.le_refl _)
  split at h
  ·cases h
  split at h
  ·injection h with h;subst h
   exact (z0.setT i ⟨by simp only [setC,List.length_set];omega,by simp only [setC];omega⟩).mono (by decide) (Nat.le_refl _)
  split at h
  ·cases h
  injection h with h;subst h
  exact (z0.removeC i _).mono (by decide) (Nat.le_refl _)
theorem join_scan {t o:Tbl} {e:Int}:∀{l:List Int} {k:Nat},scan (fun j c=>if (t.cols.getD c.toNat zCol).kind≠(o.cols.getD j zCol).kind then some 9 else none) l k=some e→e≠0:=by
 intro l k h
 exact scan_ne (fun k x e he=>by
  split at he
  ·injection he with he;omega
  ·cases he) h
theorem evApply_ne {s:Sch} {st:Stp} {e:Int} (h:evApply s st=.error e):e≠0:=by
 unfold evApply at h
 by_cases k0:st.kind=13
 ·rw [if_pos k0] at h;cases h
 rw [if_neg k0] at h
 by_cases k1:st.kind=14
 ·rw [if_pos k1] at h
  unfold dropCon at h
  simp only at h
  split at h
  ·injection h with h;omega
  ·cases h
 rw [if_neg k1] at h
 by_cases k2:st.kind=15
 ·rw [if_pos k2] at h;cases h
 rw [if_neg k2] at h
 by_cases k3:st.kind=16
 ·rw [if_pos k3] at h
  unfold dropFK at h
  simp only at h
  split at h
  ·injection h with h;omega
  ·cases h
 rw [if_neg k3] at h
 by_cases k4:st.kind=10
 ·rw [if_pos k4] at h
  unfold createT at h
  split at h
  ·injection h with h;omega
  ·cases h
 rw [if_neg k4] at h
 simp only at h
 by_cases k5:tblAt s.tables st.table<0
 ·rw [if_pos k5] at h;injection h with h;omega
 rw [if_neg k5] at h
 generalize (tblAt s.tables st.table).toNat=i at h
 by_cases k6:st.kind=4
 ·rw [if_pos k6] at h
  unfold renameT at h
  simp only at h
  split at h
  ·injection h with h;omega
  ·cases h
 rw [if_neg k6] at h
 by_cases k7:st.kind=6
 ·rw [if_pos k7] at h
  unfold splitT at h
  simp only at h
  split at h
  ·rename_i q;injection h with h;omega
  split at h
  ·injection h with h;omega
  split at h
  ·injection h with h;omega
  ·cases h
 rw [if_neg k7] at h
 by_cases k8:st.kind=7
 ·rw [if_pos k8] at h
  unfold joinT at h
  simp only at h
  split at h
  ·injection h with h;omega
  split at h
  ·injection h with h;omega
  split at h
  ·rename_i q;injection h with h;subst h;exact join_scan q
  split at h
  ·injection h with h;omega
  split at h
  ·injection h with h;omega
  ·cases h
 rw [if_neg k8] at h
 by_cases k9:st.kind=8
 ·rw [if_pos k9] at h
  unfold partT at h
  simp only at h
  split at h
  ·injection h with h;omega
  split at h
  ·rename_i q;injection h with h;omega
  split at h
  ·rename_i q;injection h with h;omega
  split at h
  ·injection h with h;omega
  split at h
  ·injection h with h;omega
  split at h
  ·injection h with h;omega
  ·cases h
 rw [if_neg k9] at h
 by_cases k10:st.kind=9
 ·rw [if_pos k10] at h
  unfold mergeT at h
  simp only at h
  split at h
  ·injection h with h;omega
  split at h
  ·injection h with h;omega
  split at h
  ·rename_i q;injection h with h;omega
  ·cases h
 rw [if_neg k10] at h
 by_cases k11:st.kind=11
 ·rw [if_pos k11] at h
  unfold dropT at h
  split at h
  ·injection h with h;omega
  ·cases h
 rw [if_neg k11] at h
 by_cases k12:st.kind=12
 ·rw [if_pos k12] at h
  unfold concatC at h
  split at h
  ·simp only at h
   split at h
   ·injection h with h;omega
   split at h
   ·injection h with h;omega
   split at h
   ·rename_i q;injection h with h;omega
   split at h
   ·rename_i q;injection h with h;omega
   ·cases h
  ·injection h with h;omega
 rw [if_neg k12] at h
 by_cases k13:st.kind=1
 ·rw [if_pos k13] at h
  unfold addC at h
  simp only at h
  split at h
  ·rename_i q;injection h with h;omega
  ·cases h
 rw [if_neg k13] at h
 unfold alterC at h
 simp only at h
 split at h
 ·injection h with h;omega
 split at h
 ·split at h
  ·injection h with h;omega
  ·cases h
 split at h
 ·rename_i q;injection h with h;omega
 split at h
 ·cases h
 split at h
 ·rename_i q;injection h with h;omega
 ·cases h
def sOut:Res→Sch
 | .error _=>⟨[],[],[]⟩
 | .ok t=>t
theorem renamed_sat (c:Col) (n:ByteArray):Sat Tryz.prog 99 [.agg (eCol c),oS n] (.v (.agg (eCol (ren1 c n)))):=by
 refine ZE Tryz.func99 Tryz.ntmps99 fun w0 m0 F0=>?_
 refine ZW Z0 Z0 ?_
 refine ZR (Z1 Tryz.results99) ?_
 rfl
theorem itoaN_sat (i:Nat) (h:i≤1048576):Sat Tryz.prog 61 [oI i] (.v (.one (.str (itoaB i)))):=itoa_sat i (by omega) (by omega)
set_option maxHeartbeats 16000000 in
theorem keyed_sat (t:Tbl) (cols:List Col) (h1:t.pk.length≤1048576) (h2:t.cols.length≤1048576) (h3:cols.length≤1048576) (hpk:∀c∈t.pk,0≤c∧c<(t.cols.length:Int)) :
  Sat Tryz.prog 98 [.agg (eTbl t),.one (eCols cols)] (.v (.agg (eTbl (keyedT t cols)))):=by
 unfold eCols
 refine ZE Tryz.func98 Tryz.ntmps98 fun w0 m0 F0=>?_
 refine ZV Z0 Z0 (Z1 (Zs 2)) Z0 ?_
 refine AWP.nilBox 5 1 33 rfl rfl (.inl (by show 33<48;decide)) ?_
 refine ZU (Z3 @nilBoxR_mk (@List.set_cons_zero.{0}) (@List.set_cons_succ.{0})) ?_
 refine AWP.nilBox 5 2 39 rfl rfl (.inl (by show 39<48;decide)) ?_
 refine ZU (Z3 @nilBoxR_mk (@List.set_cons_zero.{0}) (@List.set_cons_succ.{0})) ?_
 refine ZW Z0 Z0 ?_
 refine AWP.loop (ι:={k:Nat // k≤t.pk.length}) (fun k=>⟨48,[(1,.v (.one (.sl 3 (cols.map eCol)))),(2,.v (.one (.ptr 2 0))),(4,.v (.one (.ptr 4 0))),(5,.v (.one (.ptr 5 0))),(13,.v (.one (.sl 1 (t.pk.map eInt1)))),(14,.v (oI t.pk.length)),(15,.v (oI k.1))],[(2,eTbl t),(4,[.str ByteArray.empty,.nil 3,.nil 1]),(5,[.str t.name,.ref 33 0 k.1,.ref 39 0 k.1])],[(33,⟨3,(kC t k.1).map eCol,[]⟩),(39,⟨1,(seqI k.1).map eInt1,[]⟩)]⟩) (fun k=>t.pk.length - k.1) ⟨0,Nat.zero_le _⟩ ?_ fun ⟨k,hk⟩=>?_
 ·exact ZN (Z4 @eTbl.eq_1 @kC.eq_1 @seqI.eq_1 @Int.natCast_zero)
 simp only at hk ⊢
 have lk:=kC_len t k
 have ls:=seqI_len k
 rcases Nat.lt_or_ge k t.pk.length with hc|hc
 ·obtain ⟨c,hcx⟩:∃c,t.pk[k]=c:=⟨_,rfl⟩
  obtain ⟨p1,p2⟩:=hpk _ (List.getElem_mem hc)
  rw [hcx] at p1 p2
  have gp:(t.pk.map eInt1).getD k []=[.int .i64 c]:=by rw [getD_map_lt _ _ _ hc,hcx];rfl
  have hcl:c.toNat<t.cols.length:=by omega
  obtain ⟨x,hx⟩:∃x,t.cols[c.toNat]=x:=⟨_,rfl⟩
  have gc:(t.cols.map eCol).getD c.toNat []=[.str x.name,.int .i64 x.kind,.bool x.nullable]:=by rw [getD_map_lt _ _ _ hcl,hx];rfl
  have it:=itoaN_sat k (by omega)
  have iz:=itoaB_le (k:Int) (by omega) (by omega)
  have sx:(#[(107:UInt8)]).size+(itoaB (k:Int)).size≤9223372036854775807:=by
   have:(#[(107:UInt8)]).size=1:=rfl
   omega
  have ns:kC t (k+1)=kC t k++[⟨(⟨#[107]⟩:ByteArray)++itoaB (k:Int),x.kind,x.nullable⟩]:=by
   rw [kC_succ,getD_lt _ hc,hcx,getD_lt _ hcl,hx]
   rfl
  refine ZW (Z4 @gp @gc @lk @ls) (Z1 (it)) ?_
  refine ⟨⟨k+1,by omega⟩,by simp only;omega,?_⟩
  exact ZN (Z7 @eTbl.eq_1 @ns @seqI_succ @eCol.eq_1 @eInt1.eq_1 @Int.natCast_add @Int.natCast_one)
 ·have hk2:k=t.pk.length:=by omega
  subst hk2
  refine ZW (Z2 @lk @ls) Z0 ?_
  refine ZR (Z1 Tryz.results98) ?_
  have e2:∀l:List Col,List.map ((fun x=>List.map (L.frzN 4) x)∘eCol) l=l.map eCol:=fun l=>List.map_congr_left fun _ _=>rfl
  simp [keyedT,eTbl,eCols,eInts,frz_eColX,frz_eInt1,lk,ls,e2]
set_option maxHeartbeats 8000000 in
theorem deleteVal_own (xs:List (List L)) (k:Nat) (hk:k<xs.length) (h1:xs.length≤1099511627776) (hno:noOwn xs):SatM Tryz.prog 177 [.one (.ref 1000 0 xs.length),oI k,oI ((k:Int)+1)] [] [(1000,⟨3,xs,[]⟩)] (.v (.one (.ref 6 0 (xs.length - 1)))) [] [(6,⟨3,xs.take k++xs.drop (k+1)++[[.int .i64 0,.int .i64 0,.str ByteArray.empty]],[]⟩)]:=by
 have w1:((k:Int)+1).toNat=k+1:=by omega
 refine ZM [] [6] Tryz.func177 Tryz.ntmps177 fun w0 m0 F0=>?_
 refine ZV (Z1 @w1) Z0 (Z1 (Zd 5 [(0,6)] [(6,[],[]),(7,[],[])] [6,7] 8)) Z0 ?_
 have e1:k - 0+(xs.length - (k+1))=xs.length - 1:=by omega
 have e2:xs.length - (xs.length - 1)=1:=by omega
 have e3:(xs.take (k - 0)++xs.drop (k+1)++xs.drop (xs.length - 1)).take (xs.length - 1)=xs.take k++xs.drop (k+1):=List.take_left' (by simp;omega)
 have e4:(xs.take (k - 0)++xs.drop (k+1)++xs.drop (xs.length - 1)).drop (xs.length - 1+1)=[]:=List.drop_of_length_le (by simp;omega)
 simp only [e1,e2,e3,e4,List.replicate_succ,List.replicate_zero,List.append_nil]
 exact ZQ (Z1 Tryz.results177)
def remC (T:Tbl) (q:Nat) (v:Val) (rows:List Row):List Row:=(rows.filter fun r=>decide (r.getD q zV≠v)).map fun r=>keyOf T.pk r++[r.getD q zV]
theorem remO_snoc (q:Nat) (rows:List Row) (k:Nat) (hk:k<rows.length):remO q (rows.take (k+1))=remO q (rows.take k)++[rows[k].take q++rows[k].drop (q+1)]:=by
 unfold remO
 rw [take_snoc rows k hk,List.map_append]
 rfl
theorem remC_hit (T:Tbl) (q:Nat) (v:Val) (rows:List Row) (k:Nat) (hk:k<rows.length) (hq:q<rows[k].length) (h:rows[k][q]≠v):remC T q v (rows.take (k+1))=remC T q v (rows.take k)++[keyOf T.pk rows[k]++[rows[k][q]]]:=by
 unfold remC
 have e:rows[k].getD q zV=rows[k][q]:=getD_lt _ hq
 rw [take_snoc rows k hk,List.filter_append,List.map_append]
 congr 1
 rw [List.filter_cons,if_pos (by rw [e];exact decide_eq_true h),List.filter_nil,List.map_cons,List.map_nil,e]
theorem remC_miss (T:Tbl) (q:Nat) (v:Val) (rows:List Row) (k:Nat) (hk:k<rows.length) (hq:q<rows[k].length) (h:rows[k][q]=v):remC T q v (rows.take (k+1))=remC T q v (rows.take k):=by
 unfold remC
 have e:rows[k].getD q zV=rows[k][q]:=getD_lt _ hq
 rw [take_snoc rows k hk,List.filter_append,List.map_append,List.filter_cons,if_neg (by rw [e,h];simp),List.filter_nil,List.map_nil,List.append_nil]
theorem remC_len (T:Tbl) (q:Nat) (v:Val) (rows:List Row):(remC T q v rows).length≤rows.length:=by
 unfold remC
 rw [List.length_map]
 exact List.length_filter_le _ _
set_option maxHeartbeats 8000000 in
theorem cloneInst_own (r:Inst) (h1:r.length≤1048576):SatM Tryz.prog 107 [.one (eInst r)] [] [] (.v (.one (.ref 2 0 r.length))) [] [(2,⟨2,r.map eRel,[]⟩)]:=by
 refine ZM [] [2] Tryz.func107 Tryz.ntmps107 fun w0 m0 F0=>?_
 refine ZW Z0 Z0 ?_;repeat' (first|apply Zb|apply Zn|(apply Zk;intro K hK))
 intro b hb
 refine hK _ ?_
 try clear hK K
 refine ZWp Z0 Z0 ?_;repeat' (first|apply Zb|apply Zn|(apply Zm;intro h)|(apply Zk;intro K hK))
 all_goals simp -dsimp (disch:=first|exact D|fail) only [retQ,Tryz.results107,resVals,cellRV,resOf,St.rest,St.freeze,RT,go_sem,↓reduceIte,seval]
 have h2:r=[]:=by
  cases r with
  | nil=>rfl
  | cons x r=>exact absurd ((hb _ rfl (by simp)).symm.trans ‹b=true›) (by decide)
 subst h2
 exact ⟨rfl,rfl⟩
def mBr (st:Stp) (fwd:Bool) (a b c:Sch) (inn comp:Inst) (no nn:Nat):List L:=eStp st++([.bool fwd]++eSch a++eSch b++eSch c++[.sl 2 (inn.map eRel),.sl 2 (comp.map eRel),.ref 51 0 no,.ref 56 0 nn,.int .i64 0])
def mBf (st:Stp) (fwd:Bool) (a b c:Sch) (inn comp o nw:Inst):List L:=eStp st++([.bool fwd]++eSch a++eSch b++eSch c++[.sl 2 (inn.map eRel),.sl 2 (comp.map eRel),.sl 2 (o.map eRel),.sl 2 (nw.map eRel),.int .i64 0])
end Go.Bw
