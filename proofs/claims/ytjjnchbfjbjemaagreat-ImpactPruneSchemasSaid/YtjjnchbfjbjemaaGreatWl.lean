/-
  WHAT IS PROVED HERE, of this translation: validate1_sat, validateCon_sat, stp_eq, sr_of, sr_get, default_sat, createTable_satM, frzXs_rowT, addColumn_satM, splitTable_err, dropFK1_sat, dropForeignKey_satM, dropFK_satF, conE_zero, pkOk_of, smallS_of, schClone_sat, equalHops_sat.
  A theorem that ends in sat says what the function it names returns, whatever the state it is called in; the bounds on its arguments stand ahead of it.
-/
import Derived.Test.YtjjnchbfjbjemaaGreatWg
import Derived.Test.YtjjnchbfjbjemaaGreatWi
set_option linter.unusedSimpArgs false
set_option linter.unusedVariables false
namespace Go.Bw
open Go.Proofs
theorem validate1_sat (a b:FK) (hl:a.cols.length≤140737488355328):Sat Tryz.prog 49 [.agg (eFK a),.one (.fz (eFK b))] (.v (oB (fkEq a b))):=by
 refine sS tyOk Tryz.func49 fun w0 m0 F0=>?_
 simp only [Tryz.ntmps49,envOf,Nat.reduceAdd]
 repeat' (first|((first|with_reducible refine qV tyOk fun K hK=>?_|((with_reducible refine CallJ.is ?_);(refine CallJ.pure (equalFKs_sat _ _ hl) ?_)))<;>simp -dsimp (disch:=first|exact D|fail) only [go_sem,↓reduceIte,seval])|((with_reducible refine hK _ ?_);clear hK K)|refine Q1 ?_|fail)
 simp -dsimp (disch:=first|exact D|fail) only [retQ,Tryz.results49,resVals,cellRV,resOf,St.rest,St.freeze,RT,go_sem,↓reduceIte,seval]
set_option maxHeartbeats 8000000 in
theorem validateCon_sat (s : Sch) (c : Con) (h1 : s.tables.length ≤ 140737488355328) (h2 : ∀ t ∈ s.tables, t.cols.length ≤ 140737488355328) :
    Sat Tryz.prog 50 [.agg (eSch s), .agg (eCon c)] (.v (oI (conE s c))) := by
  rcases idx_cases (fun t => sEq t.name c.table) s.tables 0 with ⟨e1, _⟩ | ⟨i, hi, e1, _⟩
  · have e1 : tblAt s.tables c.table = -1 := e1
    refine sS tyOk Tryz.func50 fun w0 m0 F0 => ?_
    simp only [Tryz.ntmps50, envOf, Nat.reduceAdd]
    repeat' (first | ((first | with_reducible refine qV tyOk fun K hK => ?_ | ((with_reducible refine CallJ.is ?_); (refine CallJ.pure (findTable_sat _ _ h1) ?_))) <;> simp -dsimp (disch := first | exact D | fail) only [go_sem, ↓reduceIte, seval, e1, mx0_neg]) | ((with_reducible refine hK _ ?_); clear hK K) | refine Q1 ?_ | ((with_reducible refine qW (T := TT) (b := ?_) ?_ ?_); rotate_left; exact rfl) | fail)
    simp -dsimp (disch := first | exact D | fail) only [retQ, Tryz.results50, resVals, cellRV, resOf, St.rest, St.freeze, RT, go_sem, ↓reduceIte, seval]
    simp [conE, e1]
  have e1 : tblAt s.tables c.table = (i : Int) := by unfold tblAt; simpa using e1
  have g1 : s.tables.getD i zTbl = s.tables[i] := by simp [List.getD, hi]
  have spec : conE s c = if c.left < 0 ∨ (s.tables[i].cols.length : Int) ≤ c.left ∨ opOk c.op = false ∨ c.right < -1 ∨ (s.tables[i].cols.length : Int) ≤ c.right ∨ (0 ≤ c.right ∧ c.value ≠ zV) then 3
      else if 0 ≤ c.right then (if (s.tables[i].cols.getD c.left.toNat zCol).kind ≠ (s.tables[i].cols.getD c.right.toNat zCol).kind then 7 else 0)
      else if c.value.kind ≠ (s.tables[i].cols.getD c.left.toNat zCol).kind then 7 else valE c.value := by
    simp only [conE, e1, Int.toNat_natCast, g1]
    rw [if_neg (by omega)]
  rw [spec]
  cases ho : opOk c.op with
  | false =>
    have e3 : satE c.op = 3 := by simp [satE, ho]
    refine sS tyOk Tryz.func50 fun w0 m0 F0 => ?_
    simp only [Tryz.ntmps50, envOf, Nat.reduceAdd]
    repeat' (first | ((first | with_reducible refine qV tyOk fun K hK => ?_ | refine Q2 ?_ | ((with_reducible refine qS ?_ ?_) <;> (intro h; try simp only [NM] at h)) | ((with_reducible refine CallJ.is ?_); (first | refine CallJ.pure (findTable_sat _ _ h1) ?_ | refine CallJ.pure (satisfies_sat zV zV _) ?_))) <;> simp -dsimp (disch := first | exact D | fail) only [go_sem, ↓reduceIte, seval, e1, mx0_neg, mx0_nat, e3]) | ((with_reducible refine hK _ ?_); clear hK K) | refine Q1 ?_ | ((with_reducible refine qW (T := TT) (b := ?_) ?_ ?_); rotate_left; exact rfl) | fail)
    all_goals simp -dsimp (disch := first | exact D | fail) only [retQ, Tryz.results50, resVals, cellRV, resOf, St.rest, St.freeze, RT, go_sem, ↓reduceIte, seval]
    all_goals
      (simp (disch := omega) only [ho, ne_eq, zV_iff, getD_lt]
       (repeat' split) <;> first
         | rfl
         | omega
         | (exfalso; omega)
         | (exfalso; simp_all; done)
         | (simp_all; done)
         | (simp_all; omega)
         | (exfalso; simp_all; omega))
  | true =>
    have e3 : satE c.op = 0 := by simp [satE, ho]
    refine sS tyOk Tryz.func50 fun w0 m0 F0 => ?_
    simp only [Tryz.ntmps50, envOf, Nat.reduceAdd]
    repeat' (first | ((first | with_reducible refine qV tyOk fun K hK => ?_ | refine Q2 ?_ | ((with_reducible refine qS ?_ ?_) <;> (intro h; try simp only [NM] at h)) | with_reducible refine yD tyOk mixed 6 (by kernel_rfl) fun K hK => ?_ | ((with_reducible refine CallJ.is ?_); (first | refine CallJ.pure (findTable_sat _ _ h1) ?_ | refine CallJ.pure (satisfies_sat zV zV _) ?_ | refine CallJ.pure (validate_sat _) ?_))) <;> simp -dsimp (disch := first | exact D | fail) only [go_sem, ↓reduceIte, seval, e1, mx0_neg, mx0_nat, e3]) | ((with_reducible refine hK _ ?_); clear hK K) | refine Q1 ?_ | ((with_reducible refine qW (T := TT) (b := ?_) ?_ ?_); rotate_left; exact rfl) | ((with_reducible refine yS ?_ ?_) <;> (intro h; try simp only [NM] at h)) | fail)
    all_goals simp -dsimp (disch := first | exact D | fail) only [retQ, Tryz.results50, resVals, cellRV, resOf, St.rest, St.freeze, RT, go_sem, ↓reduceIte, seval]
    all_goals
      (simp (disch := omega) only [ho, ne_eq, zV_iff, getD_lt]
       (repeat' split) <;> first
         | rfl
         | omega
         | (exfalso; omega)
         | (exfalso; simp_all; done)
         | (simp_all; done)
         | (simp_all; omega)
         | (exfalso; simp_all; omega))

theorem stp_eq {a b:Stp}:a=b↔a.kind=b.kind∧a.table.toList=b.table.toList∧a.other.toList=b.other.toList∧a.column.toList=b.column.toList∧a.newName.toList=b.newName.toList∧a.typ=b.typ∧a.cols=b.cols∧a.op.toList=b.op.toList ∧
  (a.value.kind=b.value.kind∧a.value.int=b.value.int∧a.value.text.toList=b.value.text.toList)∧a.newTable=b.newTable ∧
  (a.con.table.toList=b.con.table.toList∧a.con.left=b.con.left∧a.con.op.toList=b.con.op.toList∧a.con.right=b.con.right∧a.con.value.kind=b.con.value.kind∧a.con.value.int=b.con.value.int∧a.con.value.text.toList=b.con.value.text.toList)∧a.fk=b.fk:=by
 constructor
 ·rintro rfl
  simp
 ·rintro ⟨h1,h2,h3,h4,h5,h6,h7,h8,h9,h10,h11,h12⟩
  have h9:=val_eq.2 h9
  have h11:=con_eq.2 h11
  cases a
  cases b
  simp only at *
  subst h1 h6 h7 h9 h10 h11 h12
  rw [bytes_ext h2,bytes_ext h3,bytes_ext h4,bytes_ext h5,bytes_ext h8]
def SR (t:Tbl) (rows:List Row):Prop:=rows.Pairwise fun a b=>cmpRows (keyOf t.pk a) (keyOf t.pk b)<0
theorem sr_of {t:Tbl}:∀{rows:List Row},(∀j,∀h:j+1<rows.length,cmpRows (keyOf t.pk rows[j]) (keyOf t.pk rows[j+1])<0)→SR t rows
 | [],_=>.nil
 | x::l,h=>by
  have hl:SR t l:=sr_of fun j hj=>h (j+1) (by simpa using hj)
  refine .cons (fun y hy=>?_) hl
  cases l with
  | nil=>cases hy
  | cons z l =>
   have h0:cmpRows (keyOf t.pk x) (keyOf t.pk z)<0:=by simpa using h 0 (by simp)
   rcases List.mem_cons.1 hy with rfl|hy
   ·exact h0
   ·exact cmpRows_is.trans _ _ _ h0 ((List.pairwise_cons.1 hl).1 y hy)
theorem sr_get {t:Tbl} {rows:List Row} (h:SR t rows):∀j,∀hj:j+1<rows.length,cmpRows (keyOf t.pk rows[j]) (keyOf t.pk rows[j+1])<0 :=
 fun j hj=>List.pairwise_iff_getElem.1 h j (j+1) (by omega) hj (by omega)
set_option maxHeartbeats 8000000 in
theorem default_sat (v:Val) (c:Col):Sat Tryz.prog 134 [.agg (eVal v),.agg (eCol c)] (.v (oI (defaultE v c))):=by
 refine sS tyOk Tryz.func134 fun w0 m0 F0=>?_
 simp only [Tryz.ntmps134,envOf,Nat.reduceAdd]
 repeat' (first|((first|with_reducible refine qV tyOk fun K hK=>?_|refine Q2 ?_|((with_reducible refine qS ?_ ?_)<;>(intro h;try simp only [NM] at h))|((with_reducible refine CallJ.is ?_);(refine CallJ.pure (validate_sat v) ?_)))<;>simp -dsimp (disch:=first|exact D|fail) only [go_sem,↓reduceIte,seval])|((with_reducible refine hK _ ?_);clear hK K)|refine Q1 ?_|((with_reducible refine qW (T:=TT) (b:=?_) ?_ ?_);rotate_left;exact rfl)|((with_reducible refine yS ?_ ?_)<;>(intro h;try simp only [NM] at h))|fail)
 all_goals simp -dsimp (disch:=first|exact D|fail) only [retQ,Tryz.results134,resVals,cellRV,resOf,St.rest,St.freeze,RT,go_sem,↓reduceIte,seval]
 all_goals simp_all [defaultE]
set_option maxHeartbeats 16000000 in
theorem createTable_satM (s:Sch) (t:Tbl) (h1:s.tables.length≤6) (h2:s.fks.length≤1048576) (h3:s.cons.length≤1048576) :
  SatM Tryz.prog 97 [.one (.ptr 1000 0),.agg (eTbl t)] (iB s) (iR s) (.v (oI (rE (createT s t)))) (oBE (createT s t)) (oRE (createT s t)):=by
 have fs:=findTable_sat s t.name (by omega)
 rcases idx_cases (fun u=>sEq u.name t.name) s.tables 0 with ⟨e1,_⟩|⟨j,hj,e1,_,_⟩
 ·have e1:tblAt s.tables t.name=-1:=e1
  rw [e1,mx0_neg] at fs
  have spec:createT s t=.ok (insertT s t):=by unfold createT;rw [if_neg (by omega)]
  rw [spec]
  have it:=insertTable_satM s.tables (s.fks.map eFK) (s.cons.map eCon) s.fks.length s.cons.length t (by omega)
  unfold iB iR oBE oRE oB1 oR1 insertT rE
  simp only
  rw [(ginsS_perm cmpT 0 (s.tables.length+1) (s.tables++[t])).length_eq,List.length_append,List.length_singleton]
  refine sM tyOk [1000] [1,2,3] Tryz.func97 fun w0 m0 F0=>?_
  simp only [Tryz.ntmps97,envOf,Nat.reduceAdd]
  refine AWP.gq ?_
  refine AWP.frzR 1000 rfl ?_
  simp -dsimp (disch:=first|exact D|fail) only [go_sem,↓reduceIte,seval,frzR_mk,frzTblO,frzFKO]
  refine AWP.frzR 1001 rfl ?_
  simp -dsimp (disch:=first|exact D|fail) only [go_sem,↓reduceIte,seval,frzR_mk,frzTblO,frzFKO]
  repeat' (first|((first|with_reducible refine qV tyOk fun K hK=>?_|(refine AWP.isRegion 1 ?_;refine dX tyOk mixed [(0,5)] [(5,[(6,5)],[])] [5] 8 fun K hK=>?_;simp only [SG,segs] at hK ⊢)|((with_reducible refine CallJ.is ?_);refine CallJ.io [(1000,1000)] [(1000,1000),(1001,1001),(1002,1002)] [(1000,1000)] [(11,11),(1001,1001),(1002,1002)] [] [1000,11] [1000,1000] [1000,1001,1002,11,1001,1002] (it) rfl ⟨rfl,rfl,rfl,rfl⟩ ?_ ?_ ?_)|((with_reducible refine CallJ.is ?_);(((apply CallJ.lentI);(focus (simp -dsimp (disch:=first|exact D|fail) only [go_sem,↓reduceIte,seval,okIds_ref,dropL_nil,dropL_nil',dropL_cons];rfl));(focus (first|exact (fs))))))|(with_reducible first|refine VCy.some fun K hK=>?_|refine VCy.step fun K hK=>?_))<;>simp -dsimp (disch:=first|exact D|fail) only [go_sem,↓reduceIte,seval,okIds_ref,dropL_nil,dropL_nil',dropL_cons])|((with_reducible refine hK _ ?_);clear hK K)|(with_reducible refine VCy.intro fun K0 hK0=>?_)|((with_reducible refine VCy.fin ?_);(refine hK0 _ ?_);clear hK0 K0)|(with_reducible refine VCy.quiet ?_)|refine Q1 ?_|((with_reducible refine qW (T:=TT) (b:=?_) ?_ ?_);rotate_left;exact rfl)|fail)
  refine Gq.renR 11 1 rfl rfl (by decide) (.inl (Nat.le_of_ble_eq_true rfl)) ?_
  simp -dsimp (disch:=first|exact D|fail) only [go_sem,↓reduceIte,seval,renR_mk,L.ren,L.ren0]
  refine Gq.renR 1001 2 rfl rfl (by decide) (.inl (Nat.le_of_ble_eq_true rfl)) ?_
  simp -dsimp (disch:=first|exact D|fail) only [go_sem,↓reduceIte,seval,renR_mk,L.ren,L.ren0]
  refine Gq.renR 1002 3 rfl rfl (by decide) (.inl (Nat.le_of_ble_eq_true rfl)) ?_
  simp -dsimp (disch:=first|exact D|fail) only [go_sem,↓reduceIte,seval,renR_mk,L.ren,L.ren0]
  refine Gq.done ?_
  simp -dsimp (disch:=first|exact D|fail) only [retQ,Tryz.results97,resVals,cellRV,resOf,St.rest,St.freeze,RT,go_sem,↓reduceIte,seval]
 ·have e1:tblAt s.tables t.name=(j:Int):=by unfold tblAt;simpa using e1
  rw [e1,mx0_nat] at fs
  have spec:createT s t=.error 5:=by unfold createT;rw [if_pos (by omega)]
  rw [spec]
  unfold iB iR oBE oRE rE
  simp only
  refine sM tyOk [1000] [1,2,3] Tryz.func97 fun w0 m0 F0=>?_
  simp only [Tryz.ntmps97,envOf,Nat.reduceAdd]
  refine AWP.frzR 1000 rfl ?_
  simp -dsimp (disch:=first|exact D|fail) only [go_sem,↓reduceIte,seval,frzR_mk,frzTblO,frzFKO]
  refine AWP.frzR 1001 rfl ?_
  simp -dsimp (disch:=first|exact D|fail) only [go_sem,↓reduceIte,seval,frzR_mk,frzTblO,frzFKO]
  repeat' (first|((first|with_reducible refine qV tyOk fun K hK=>?_|(refine AWP.isRegion 1 ?_;refine dX tyOk mixed [(0,5)] [(5,[(6,5)],[])] [5] 8 fun K hK=>?_;simp only [SG,segs] at hK ⊢)|((with_reducible refine CallJ.is ?_);(((apply CallJ.lentI);(focus (simp -dsimp (disch:=first|exact D|fail) only [go_sem,↓reduceIte,seval];rfl));(focus (first|exact (fs))))))|(with_reducible first|refine VCy.some fun K hK=>?_|refine VCy.step fun K hK=>?_))<;>simp -dsimp (disch:=first|exact D|fail) only [go_sem,↓reduceIte,seval])|((with_reducible refine hK _ ?_);clear hK K)|(with_reducible refine VCy.intro fun K0 hK0=>?_)|((with_reducible refine VCy.fin ?_);(refine hK0 _ ?_);clear hK0 K0)|(with_reducible refine VCy.quiet ?_)|refine Q1 ?_|((with_reducible refine qW (T:=TT) (b:=?_) ?_ ?_);rotate_left;exact rfl)|fail)
  simp -dsimp (disch:=first|exact D|fail) only [retQ,Tryz.results97,resVals,cellRV,resOf,St.rest,St.freeze,RT,go_sem,↓reduceIte,seval]
theorem frzXs_rowT (l:List Tbl) (i:Nat) (t:Tbl):frzXs (rowT l i t)=(l.set i t).map eTbl:=frzTblO _
set_option maxHeartbeats 16000000 in
theorem addColumn_satM (s:Sch) (i:Nat) (st:Stp) (hi:i<s.tables.length) (sm:SmallS s) :
  SatM Tryz.prog 105 [.one (.ptr 1000 0),oI i,.agg (eStp st)] (iB s) (iR s) (.v (oI (rE (addC s i st)))) (oBE (addC s i st)) (oRE (addC s i st)):=by
 have df:=default_sat st.value ⟨st.column,st.typ,st.value.kind==0⟩
 have b1:=sm.tables
 have b2:=(sm.table s.tables[i] (List.getElem_mem hi)).1
 obtain ⟨t,ht⟩:∃t,s.tables[i]=t:=⟨_,rfl⟩
 have htA:tAt s i=t:=by unfold tAt;rw [getD_lt _ hi,ht]
 rw [ht] at b2
 have e0:s.tables.map eTblO=rowT s.tables i t:=by unfold rowT;rw [←ht,List.set_getElem_self]
 have rl:=rowT_len s.tables i t
 have rg:=fun t=>rowT_get (l:=s.tables) (k:=i) t hi
 unfold addC
 simp only
 by_cases hE:defaultE st.value ⟨st.column,st.typ,st.value.kind==0⟩=0
 ·rw [if_neg (by simpa using hE),htA]
  rw [hE] at df
  unfold iB iR oBE oRE oB1 oR1 rE setT
  simp only [List.length_set]
  rw [e0]
  refine sM tyOk [1000] [1,2,3] Tryz.func105 fun w0 m0 F0=>?_
  simp only [Tryz.ntmps105,envOf,Nat.reduceAdd]
  refine AWP.gq ?_
  repeat' (first|((first|((fail_if_success (refine AWP.isRegion 5 ?_));(with_reducible refine qV tyOk fun K hK=>?_))|((with_reducible refine CallJ.is ?_);(refine CallJ.pure (df) ?_)))<;>simp -dsimp (disch:=first|exact D|fail) only [go_sem,↓reduceIte,seval,eStp])|((with_reducible refine hK _ ?_);clear hK K)|refine Q1 ?_|((with_reducible refine qW (T:=TT) (b:=?_) ?_ ?_);rotate_left;exact rfl)|fail)
  refine AWP.openC 1000 i 1 2000 rfl (rowT_cell1 _ hi) rfl (by decide) (by decide) ?_
  simp -dsimp (disch:=first|exact D|fail) only [go_sem,↓reduceIte,seval,openR_mk]
  repeat' (first|((first|with_reducible refine qV tyOk fun K hK=>?_|(refine AWP.isRegion 5 ?_;refine dX tyOk mixed [(0,14)] [(14,[],[(0,13)]),(15,[(16,2)],[(0,5)]),(18,[],[])] [14,15,18] 8 fun K hK=>?_;simp only [SG,segs] at hK ⊢)|(with_reducible first|refine VCy.some fun K hK=>?_|refine VCy.step fun K hK=>?_))<;>simp -dsimp (disch:=first|exact D|fail) only [go_sem,↓reduceIte,seval,rl,rg,eTblO,Option.getD_none])|((with_reducible refine hK _ ?_);clear hK K)|(with_reducible refine VCy.intro fun K0 hK0=>?_)|((with_reducible refine VCy.fin ?_);(refine hK0 _ ?_);clear hK0 K0)|(with_reducible first|refine VCy.quiet ?_|refine VCy.none ?_)|((with_reducible refine VCy.keep ?_ ?_);focus ((simp -dsimp (disch:=first|exact D|fail) only [go_sem,↓reduceIte,seval,Stable_cons,Stable_nil,sameA_some,sameA_none,rl,rg,eTblO,Option.getD_none]);first|done|exact E|fail))|refine Q1 ?_|fail)
  refine Gq.close 1000 i 1 40 rfl rfl (by decide) (by simp [ovGet]) (by simp [rl];exact hi) (by show 1<3;decide) rfl ?_
  simp -dsimp (disch:=first|exact D|fail) only [go_sem,↓reduceIte,seval,closeR_mk,ovCut_cons,ovCut_nil]
  rw [setCell_set _ _ _ _ _ (by rw [rl];exact hi)]
  have e1:=rowT_set s.tables i t ⟨t.name,t.cols++[⟨st.column,st.typ,st.value.kind==0⟩],t.pk⟩
  simp only [eTblO,List.map_append,List.map_cons,List.map_nil,eCol] at e1
  simp only [List.set_cons_succ,List.set_cons_zero,e1]
  refine Gq.frzR 1000 rfl ?_
  simp -dsimp (disch:=first|exact D|fail) only [go_sem,↓reduceIte,seval,frzR_mk,frzTblO,frzFKO,frzXs_rowT]
  refine Gq.frzR 1001 rfl ?_
  simp -dsimp (disch:=first|exact D|fail) only [go_sem,↓reduceIte,seval,frzR_mk,frzTblO,frzFKO]
  refine Gq.renR 1000 1 rfl rfl (by decide) (.inl (Nat.le_of_ble_eq_true rfl)) ?_
  simp -dsimp (disch:=first|exact D|fail) only [go_sem,↓reduceIte,seval,renR_mk,L.ren,L.ren0]
  refine Gq.renR 1001 2 rfl rfl (by decide) (.inl (Nat.le_of_ble_eq_true rfl)) ?_
  simp -dsimp (disch:=first|exact D|fail) only [go_sem,↓reduceIte,seval,renR_mk,L.ren,L.ren0]
  refine Gq.renR 1002 3 rfl rfl (by decide) (.inl (Nat.le_of_ble_eq_true rfl)) ?_
  simp -dsimp (disch:=first|exact D|fail) only [go_sem,↓reduceIte,seval,renR_mk,L.ren,L.ren0]
  refine Gq.done ?_
  simp -dsimp (disch:=first|exact D|fail) only [retQ,Tryz.results105,resVals,cellRV,resOf,St.rest,St.freeze,RT,go_sem,↓reduceIte,seval]
  skip
 ·rw [if_pos hE]
  unfold iB iR oBE oRE rE
  simp only
  refine sM tyOk [1000] [1,2,3] Tryz.func105 fun w0 m0 F0=>?_
  simp only [Tryz.ntmps105,envOf,Nat.reduceAdd]
  repeat' (first|((first|with_reducible refine qV tyOk fun K hK=>?_|((with_reducible refine CallJ.is ?_);(refine CallJ.pure (df) ?_)))<;>simp -dsimp (disch:=first|exact D|fail) only [go_sem,↓reduceIte,seval,eStp,hE])|((with_reducible refine hK _ ?_);clear hK K)|refine Q1 ?_|((with_reducible refine qW (T:=TT) (b:=?_) ?_ ?_);rotate_left;exact rfl)|fail)
  simp -dsimp (disch:=first|exact D|fail) only [retQ,Tryz.results105,resVals,cellRV,resOf,St.rest,St.freeze,RT,go_sem,↓reduceIte,seval]
set_option maxHeartbeats 32000000 in
theorem splitTable_err (s:Sch) (i:Nat) (st:Stp) (hi:i<s.tables.length) (sm:SmallS s) (hst:st.cols.length≤140737488355328) (hE:splitE s (tAt s i) st≠0) :
  SatM Tryz.prog 99 [.one (.ptr 1000 0),oI i,.agg (eStp st)] (iB s) (iR s) (.v (oI (rE (splitT s i st)))) (oBE (splitT s i st)) (oRE (splitT s i st)):=by
 have b1:=sm.tables
 have b2:=sm.table s.tables[i] (List.getElem_mem hi)
 have b3:=sm.fks
 have b4:=sm.cons
 obtain ⟨t,ht⟩:∃t,s.tables[i]=t:=⟨_,rfl⟩
 have htA:tAt s i=t:=by unfold tAt;rw [getD_lt _ hi,ht]
 rw [ht] at b2
 rw [htA] at hE
 have cs:=checkSplit_satX s t st (by omega) (by omega) (by omega) hst
 have lm:(s.tables.map eTbl).length=s.tables.length:=List.length_map ..
 have gi:(s.tables.map eTbl).getD i []=eTbl t:=by rw [getD_map_lt _ _ _ hi,ht]
 have spec:splitT s i st=.error (splitE s t st):=by unfold splitT;simp only [htA];rw [if_pos hE]
 obtain ⟨q,hq⟩:∃q,splitE s t st=q:=⟨_,rfl⟩
 rw [hq] at spec hE cs
 rw [spec]
 unfold iB iR oBE oRE rE
 simp only
 refine sM tyOk [1000] [1,2,3] Tryz.func99 fun w0 m0 F0=>?_
 simp only [Tryz.ntmps99,envOf,Nat.reduceAdd]
 refine AWP.frzR 1000 rfl ?_
 simp -dsimp (disch:=first|exact D|fail) only [go_sem,↓reduceIte,seval,frzR_mk,frzTblO,frzFKO]
 refine AWP.frzR 1001 rfl ?_
 simp -dsimp (disch:=first|exact D|fail) only [go_sem,↓reduceIte,seval,frzR_mk,frzTblO,frzFKO]
 repeat' (first|((first|with_reducible refine qV tyOk fun K hK=>?_|(refine AWP.isRegion 2 ?_;refine dX tyOk mixed [(0,5)] [(5,[(6,1)],[])] [5] 8 fun K hK=>?_;simp only [SG,segs] at hK ⊢)|((with_reducible refine CallJ.is ?_);(((apply CallJ.lentI);(focus (simp -dsimp (disch:=first|exact D|fail) only [go_sem,↓reduceIte,seval,eStp,eTbl,Option.getD_none,gi,lm,hE];rfl));(focus (first|exact (cs))))))|(with_reducible first|refine VCy.some fun K hK=>?_|refine VCy.step fun K hK=>?_))<;>simp -dsimp (disch:=first|exact D|fail) only [go_sem,↓reduceIte,seval,eStp,eTbl,Option.getD_none,gi,lm,hE])|((with_reducible refine hK _ ?_);clear hK K)|(with_reducible refine VCy.intro fun K0 hK0=>?_)|((with_reducible refine VCy.fin ?_);(refine hK0 _ ?_);clear hK0 K0)|(with_reducible refine VCy.quiet ?_)|refine Q1 ?_|((with_reducible refine qW (T:=TT) (b:=?_) ?_ ?_);rotate_left;exact rfl)|fail)
 simp -dsimp (disch:=first|exact D|fail) only [retQ,Tryz.results99,resVals,cellRV,resOf,St.rest,St.freeze,RT,go_sem,↓reduceIte,seval]
theorem dropFK1_sat (a f:FK) (ha:a.cols.length≤140737488355328):Sat Tryz.prog 116 [.agg (eFK a),.one (.fz (eFK f))] (.v (oB (fkEq a f))):=by
 refine sS tyOk Tryz.func116 fun w0 m0 F0=>?_
 simp only [Tryz.ntmps116,envOf,Nat.reduceAdd]
 repeat' (first|((first|with_reducible refine qV tyOk fun K hK=>?_|((with_reducible refine CallJ.is ?_);(refine CallJ.pure (equalFKs_sat a f ha) ?_)))<;>simp -dsimp (disch:=first|exact D|fail) only [go_sem,↓reduceIte,seval])|((with_reducible refine hK _ ?_);clear hK K)|refine Q1 ?_|fail)
 simp -dsimp (disch:=first|exact D|fail) only [retQ,Tryz.results116,resVals,cellRV,resOf,St.rest,St.freeze,RT,go_sem,↓reduceIte,seval]
set_option maxHeartbeats 16000000 in
theorem dropForeignKey_satM (s:Sch) (f:FK) (h1:s.tables.length≤1048576) (h2:s.fks.length≤1048576) (h3:s.cons.length≤1048576) (h4:∀f∈s.fks,f.cols.length≤1048576) :
  SatM Tryz.prog 96 [.one (.ptr 1000 0),.agg (eFK f)] (iB s) (iR s) (.v (oI (rE (dropFK s f)))) (oBE (dropFK s f)) (oRE (dropFK s f)):=by
 have ic:=indexFuncFK_sat s.fks 116 [.fz (eFK f)] (fun o=>fkEq o f) (by omega) fun o ho=>dropFK1_sat o f (by have:=h4 o ho;omega)
 rcases idx_cases (fun o=>fkEq o f) s.fks 0 with ⟨e1,_⟩|⟨j,hj,e1,_,_⟩
 ·rw [e1] at ic
  have spec:dropFK s f=.error 4:=by unfold dropFK;simp only [e1];rfl
  rw [spec]
  unfold iB iR oBE oRE rE
  simp only
  refine sM tyOk [1000] [1,2,3] Tryz.func96 fun w0 m0 F0=>?_
  simp only [Tryz.ntmps96,envOf,Nat.reduceAdd]
  refine AWP.frzR 1001 rfl ?_
  simp -dsimp (disch:=first|exact D|fail) only [go_sem,↓reduceIte,seval,frzR_mk,frzTblO,frzFKO]
  repeat' (first|((first|with_reducible refine qV tyOk fun K hK=>?_|((with_reducible refine CallJ.is ?_);(((apply CallJ.lentI);(focus (simp -dsimp (disch:=first|exact D|fail) only [go_sem,↓reduceIte,seval];rfl));(focus (first|exact (ic)))))))<;>simp -dsimp (disch:=first|exact D|fail) only [go_sem,↓reduceIte,seval])|((with_reducible refine hK _ ?_);clear hK K)|refine Q1 ?_|((with_reducible refine qW (T:=TT) (b:=?_) ?_ ?_);rotate_left;exact rfl)|fail)
  simp -dsimp (disch:=first|exact D|fail) only [retQ,Tryz.results96,resVals,cellRV,resOf,St.rest,St.freeze,RT,go_sem,↓reduceIte,seval]
 ·have e1:idx (fun o=>fkEq o f) s.fks 0=(j:Int):=by simpa using e1
  rw [e1] at ic
  have spec:dropFK s f=.ok {s with fks:=s.fks.take j++s.fks.drop (j+1)}:=by
   unfold dropFK
   simp only [e1,Int.toNat_natCast]
   rw [if_neg (by omega)]
  rw [spec]
  have dl:=deleteFKs_own (s.fks.map eFK) j (by simpa using hj) (by simp;omega) (by rw [noOwn_eFK];trivial)
  rw [List.length_map] at dl
  have cl:=cut_len s.fks j hj
  have cm:=cut_map eFK s.fks j hj [.str ByteArray.empty,.sl 1 [],.str ByteArray.empty]
  unfold iB iR oBE oRE oB1 oR1 rE
  simp only [cl]
  refine sM tyOk [1000] [1,2,3] Tryz.func96 fun w0 m0 F0=>?_
  simp only [Tryz.ntmps96,envOf,Nat.reduceAdd]
  refine AWP.gq ?_
  refine AWP.frzR 1000 rfl ?_
  simp -dsimp (disch:=first|exact D|fail) only [go_sem,↓reduceIte,seval,frzR_mk,frzTblO,frzFKO]
  refine AWP.frzR 1001 rfl ?_
  simp -dsimp (disch:=first|exact D|fail) only [go_sem,↓reduceIte,seval,frzR_mk,frzTblO,frzFKO]
  repeat' (first|((first|with_reducible refine qV tyOk fun K hK=>?_|((with_reducible refine CallJ.is ?_);refine CallJ.io [] [(1000,1001)] [] [(6,22)] [] [1001,22] [] [1001,22] (dl) rfl ⟨rfl,rfl,rfl,rfl⟩ ?_ ?_ ?_)|((with_reducible refine CallJ.is ?_);(((apply CallJ.lentI);(focus (simp -dsimp (disch:=first|exact D|fail) only [go_sem,↓reduceIte,seval,dropL_nil,dropL_nil',dropL_cons];rfl));(focus (first|exact (ic)))))))<;>simp -dsimp (disch:=first|exact D|fail) only [go_sem,↓reduceIte,seval,dropL_nil,dropL_nil',dropL_cons])|((with_reducible refine hK _ ?_);clear hK K)|refine Q1 ?_|((with_reducible refine qW (T:=TT) (b:=?_) ?_ ?_);rotate_left;exact rfl)|fail)
  refine Gq.cutR 22 (s.fks.length - 1) rfl rfl (by simp;omega) ?_
  simp -dsimp (disch:=first|exact D|fail) only [go_sem,↓reduceIte,seval]
  refine Gq.renR 1000 1 rfl rfl (by decide) (.inl (Nat.le_of_ble_eq_true rfl)) ?_
  simp -dsimp (disch:=first|exact D|fail) only [go_sem,↓reduceIte,seval,renR_mk,L.ren,L.ren0]
  refine Gq.renR 22 2 rfl rfl (by decide) (.inl (Nat.le_of_ble_eq_true rfl)) ?_
  simp -dsimp (disch:=first|exact D|fail) only [go_sem,↓reduceIte,seval,renR_mk,L.ren,L.ren0]
  refine Gq.renR 1002 3 rfl rfl (by decide) (.inl (Nat.le_of_ble_eq_true rfl)) ?_
  simp -dsimp (disch:=first|exact D|fail) only [go_sem,↓reduceIte,seval,renR_mk,L.ren,L.ren0]
  refine Gq.done ?_
  simp -dsimp (disch:=first|exact D|fail) only [retQ,Tryz.results96,resVals,cellRV,resOf,St.rest,St.freeze,RT,go_sem,↓reduceIte,seval]
  exact congrArg (fun x:List (List L)=>(⟨3,x,[]⟩:RowC)) cm
set_option maxHeartbeats 16000000 in
theorem dropFK_satF (s:Sch) (f:FK) (h1:s.tables.length≤1048576) (h2:s.fks.length≤1048576) (h3:s.cons.length≤1048576) (h4:∀f∈s.fks,f.cols.length≤1048576) :
  SatM Tryz.prog 96 [.one (.ptr 1000 0),.agg (eFK f)] (iB s) (fR s) (.v (oI (rE (dropFK s f)))) (oBE (dropFK s f)) (oRE (dropFK s f)):=by
 have ic:=indexFuncFK_sat s.fks 116 [.fz (eFK f)] (fun o=>fkEq o f) (by omega) fun o ho=>dropFK1_sat o f (by have:=h4 o ho;omega)
 rcases idx_cases (fun o=>fkEq o f) s.fks 0 with ⟨e1,_⟩|⟨j,hj,e1,_,_⟩
 ·rw [e1] at ic
  have spec:dropFK s f=.error 4:=by unfold dropFK;simp only [e1];rfl
  rw [spec]
  unfold iB fR oBE oRE rE
  simp only
  refine sM tyOk [1000] [1,2,3] Tryz.func96 fun w0 m0 F0=>?_
  simp only [Tryz.ntmps96,envOf,Nat.reduceAdd]
  repeat' (first|((first|with_reducible refine qV tyOk fun K hK=>?_|((with_reducible refine CallJ.is ?_);(((apply CallJ.lentI);(focus (simp -dsimp (disch:=first|exact D|fail) only [go_sem,↓reduceIte,seval];rfl));(focus (first|exact (ic)))))))<;>simp -dsimp (disch:=first|exact D|fail) only [go_sem,↓reduceIte,seval])|((with_reducible refine hK _ ?_);clear hK K)|refine Q1 ?_|((with_reducible refine qW (T:=TT) (b:=?_) ?_ ?_);rotate_left;exact rfl)|fail)
  simp -dsimp (disch:=first|exact D|fail) only [retQ,Tryz.results96,resVals,cellRV,resOf,St.rest,St.freeze,RT,go_sem,↓reduceIte,seval]
 ·have e1:idx (fun o=>fkEq o f) s.fks 0=(j:Int):=by simpa using e1
  rw [e1] at ic
  have spec:dropFK s f=.ok {s with fks:=s.fks.take j++s.fks.drop (j+1)}:=by
   unfold dropFK
   simp only [e1,Int.toNat_natCast]
   rw [if_neg (by omega)]
  rw [spec]
  have dl:=deleteFKs_own (s.fks.map eFK) j (by simpa using hj) (by simp;omega) (by rw [noOwn_eFK];trivial)
  rw [List.length_map] at dl
  have cl:=cut_len s.fks j hj
  have cm:=cut_map eFK s.fks j hj [.str ByteArray.empty,.sl 1 [],.str ByteArray.empty]
  unfold iB fR oBE oRE oB1 oR1 rE
  simp only [cl]
  refine sM tyOk [1000] [1,2,3] Tryz.func96 fun w0 m0 F0=>?_
  simp only [Tryz.ntmps96,envOf,Nat.reduceAdd]
  refine AWP.gq ?_
  repeat' (first|((first|with_reducible refine qV tyOk fun K hK=>?_|((with_reducible refine CallJ.is ?_);refine CallJ.io [] [(1000,1001)] [] [(6,22)] [] [1001,22] [] [1001,22] (dl) rfl ⟨rfl,rfl,rfl,rfl⟩ ?_ ?_ ?_)|((with_reducible refine CallJ.is ?_);(((apply CallJ.lentI);(focus (simp -dsimp (disch:=first|exact D|fail) only [go_sem,↓reduceIte,seval,dropL_nil,dropL_nil',dropL_cons];rfl));(focus (first|exact (ic)))))))<;>simp -dsimp (disch:=first|exact D|fail) only [go_sem,↓reduceIte,seval,dropL_nil,dropL_nil',dropL_cons])|((with_reducible refine hK _ ?_);clear hK K)|refine Q1 ?_|((with_reducible refine qW (T:=TT) (b:=?_) ?_ ?_);rotate_left;exact rfl)|fail)
  refine Gq.cutR 22 (s.fks.length - 1) rfl rfl (by simp;omega) ?_
  simp -dsimp (disch:=first|exact D|fail) only [go_sem,↓reduceIte,seval]
  refine Gq.renR 1000 1 rfl rfl (by decide) (.inl (Nat.le_of_ble_eq_true rfl)) ?_
  simp -dsimp (disch:=first|exact D|fail) only [go_sem,↓reduceIte,seval,renR_mk,L.ren,L.ren0]
  refine Gq.renR 22 2 rfl rfl (by decide) (.inl (Nat.le_of_ble_eq_true rfl)) ?_
  simp -dsimp (disch:=first|exact D|fail) only [go_sem,↓reduceIte,seval,renR_mk,L.ren,L.ren0]
  refine Gq.renR 1002 3 rfl rfl (by decide) (.inl (Nat.le_of_ble_eq_true rfl)) ?_
  simp -dsimp (disch:=first|exact D|fail) only [go_sem,↓reduceIte,seval,renR_mk,L.ren,L.ren0]
  refine Gq.done ?_
  simp -dsimp (disch:=first|exact D|fail) only [retQ,Tryz.results96,resVals,cellRV,resOf,St.rest,St.freeze,RT,go_sem,↓reduceIte,seval]
  exact congrArg (fun x:List (List L)=>(⟨3,x,[]⟩:RowC)) cm
theorem conE_zero {s:Sch} {c:Con} (h:conE s c=0):∃i,∃hi:i<s.tables.length,tblAt s.tables c.table=(i:Int)∧0≤c.left∧c.left<s.tables[i].cols.length∧-1≤c.right∧c.right<s.tables[i].cols.length:=by
 unfold conE at h
 split at h
 ·cases h
 rename_i h0
 rcases idx_cases (fun t=>sEq t.name c.table) s.tables 0 with ⟨e1,_⟩|⟨i,hi,e1,_⟩
 ·have e1:tblAt s.tables c.table=-1:=e1
  omega
 have e1:tblAt s.tables c.table=(i:Int):=by unfold tblAt;simpa using e1
 simp only [e1,Int.toNat_natCast,getD_lt _ hi] at h
 split at h
 ·cases h
 rename_i h1
 refine ⟨i,hi,e1,?_⟩
 omega
theorem pkOk_of {s:Sch} (h:schE s=0):∀t∈s.tables,∀c∈t.pk,0≤c∧c<(t.cols.length:Int):=by
 intro t ht c hc
 have o:=(okSch_of h).tbl t ht
 obtain ⟨k,hk,rfl⟩:=List.mem_iff_getElem.1 hc
 have:=o.key k hk
 exact ⟨this.1,this.2.1⟩
theorem smallS_of {s:Sch} (h:schE s=0):SmallS s:=by
 have sm:=small_of h
 have ok:=okSch_of h
 obtain ⟨h1,h2,h3,h4⟩:=(schE_zero s).1 h
 refine ⟨sm.tables,fun t ht=>⟨(sm.table t ht).1,(sm.table t ht).2,fun c hc=>?_⟩,sm.fks,fun f hf=>⟨sm.fk f hf,fun c hc=>?_⟩,sm.cons,fun c hc=>?_⟩
 ·have:=pkOk_of h t ht c hc
  have:=(sm.table t ht).1
  omega
 ·obtain ⟨j,hj,rfl⟩:=List.mem_iff_getElem.1 hf
  have h5:=h3 j hj
  unfold fksE at h5
  split at h5
  ·cases h5
  rename_i h6
  obtain ⟨i,q,hi,hq,_,_,_,h8⟩:=fkE_zero (s:=s) (f:=s.fks[j]) (by simpa using h6)
  obtain ⟨k,hk,rfl⟩:=List.mem_iff_getElem.1 hc
  have:=h8 k hk
  have:=(sm.table _ (List.getElem_mem hi)).1
  omega
 ·obtain ⟨j,hj,rfl⟩:=List.mem_iff_getElem.1 hc
  have h5:=h4 j hj
  unfold consE at h5
  split at h5
  ·cases h5
  rename_i h6
  obtain ⟨i,hi,_,h7⟩:=conE_zero (s:=s) (c:=s.cons[j]) (by simpa using h6)
  have:=(sm.table _ (List.getElem_mem hi)).1
  omega
theorem schClone_sat (s:Sch) (h:Small s):Sat Tryz.prog 34 [.agg (eSch s)] (.v (.agg (eSch s))):=by
 have cl:=schClone_own s (by have:=h.tables;omega) (by have:=h.fks;omega) (by have:=h.cons;omega) (fun t ht=>by have:=h.table t ht;omega) (fun f hf=>by have:=h.fk f hf;omega)
 refine cl.frz (by
  simp -dsimp (disch:=first|exact D|fail) only [go_sem,↓reduceIte,seval,topL_ref,St.rest,roots,dropL_nil,eSch,frz_eTblO,frz_eFKO]
  )
set_option maxHeartbeats 8000000 in
theorem equalHops_sat (a b:List Hp) (h1:a.length≤140737488355328) (h2:b.length≤140737488355328):Sat Tryz.prog 30 [.one (eHps a),.one (eHps b)] (.v (oB (decide (a=b)))):=by
 unfold eHps
 refine sS tyOk Tryz.func30 fun w0 m0 F0=>?_
 simp only [Tryz.ntmps30,envOf,Nat.reduceAdd]
 repeat' (first|((with_reducible refine qV tyOk fun K hK=>?_)<;>simp -dsimp (disch:=first|exact D|fail) only [go_sem,↓reduceIte,seval])|((with_reducible refine hK _ ?_);clear hK K)|refine Q1 ?_|((with_reducible refine qW (T:=TT) (b:=?_) ?_ ?_);rotate_left;exact rfl)|((with_reducible refine yS ?_ ?_)<;>(intro h;try simp only [NM] at h))|fail)
 rotate_left
 ·simp -dsimp (disch:=first|exact D|fail) only [retQ,Tryz.results30,resVals,cellRV,resOf,St.rest,St.freeze,RT,go_sem,↓reduceIte,seval]
  have hn:¬ a=b:=fun e=>by rw [e] at h;exact h rfl
  simp [hn]
 have hl:a.length=b.length:=by omega
 refine AWP.loop (ι:={k:Nat // k≤a.length∧a.take k=b.take k}) (fun k=>⟨26,[(0,.v (.one (.sl 2 (a.map eHp)))),(1,.v (.one (.sl 2 (b.map eHp)))),(12,.v (oI a.length)),(13,.v (oI k.1))],[],[]⟩) (fun k=>a.length - k.1) ⟨0,Nat.zero_le _,rfl⟩ ?_ fun ⟨k,hkl,hi⟩=>?_
 ·refine St.le_mk ?_ ?_ ?_<;>simp only [LE,EN,Nat.reduceEqDiff,reduceIte,Nat.reduceSub]
 simp only at hkl hi ⊢
 rcases Nat.lt_or_ge k a.length with hc|hc
 ·have hb:k<b.length:=by omega
  have g1:(a.map eHp).getD k []=eHp a[k]:=getD_map_lt _ _ _ hc
  have g2:(b.map eHp).getD k []=eHp b[k]:=getD_map_lt _ _ _ hb
  repeat' (first|((first|with_reducible refine qV tyOk fun K hK=>?_|with_reducible refine yD tyOk mixed 6 (by kernel_rfl) fun K hK=>?_)<;>simp -dsimp (disch:=first|exact D|fail) only [go_sem,↓reduceIte,seval,g1,g2,eHp,Option.getD_none])|((with_reducible refine hK _ ?_);clear hK K)|refine Q1 ?_|((with_reducible refine qW (T:=TT) (b:=?_) ?_ ?_);rotate_left;exact rfl)|((with_reducible refine yS ?_ ?_)<;>(intro h;try simp only [NM] at h))|fail)
  ·refine ⟨⟨k+1,by omega,take_eq_succ hc hb hi (hp_eq.2 h)⟩,by simp only;omega,?_⟩
   refine St.le_mk ?_ ?_ ?_<;>simp only [LE,EN,Nat.reduceEqDiff,reduceIte,Nat.reduceSub]
  ·simp -dsimp (disch:=first|exact D|fail) only [retQ,Tryz.results30,resVals,cellRV,resOf,St.rest,St.freeze,RT,go_sem,↓reduceIte,seval]
   have hn:¬ a=b:=fun e=>by
    obtain ⟨e1,e2⟩:=hp_eq.1 (get_of_eq hc hb e)
    simp_all
   simp [hn]
 ·have hk:a=b:=by
   rw [List.take_of_length_le (by omega),List.take_of_length_le (by omega)] at hi
   exact hi
  repeat' (first|((with_reducible refine qV tyOk fun K hK=>?_)<;>simp -dsimp (disch:=first|exact D|fail) only [go_sem,↓reduceIte,seval])|((with_reducible refine hK _ ?_);clear hK K)|refine Q1 ?_|((with_reducible refine qW (T:=TT) (b:=?_) ?_ ?_);rotate_left;exact rfl)|fail)
  simp -dsimp (disch:=first|exact D|fail) only [retQ,Tryz.results30,resVals,cellRV,resOf,St.rest,St.freeze,RT,go_sem,↓reduceIte,seval]
  simp [hk]
end Go.Bw
