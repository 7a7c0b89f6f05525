/-
  WHAT IS PROVED HERE, of this translation: validate1_sat, schValidate_sat, instTable_sat, equalTables_sat, addColumn_satM, mBX, input_satM, output_satM, lookup_satM.
  A theorem that ends in sat says what the function it names returns, whatever the state it is called in; the bounds on its arguments stand ahead of it.
-/
import Derived.Test.YtdnapljegcihiaaGreatDoorVk
import Derived.Test.YtdnapljegcihiaaGreatDoorVl
import Derived.Test.YtdnapljegcihiaaGreatDoorVn
import Derived.Test.YtdnapljegcihiaaGreatDoorVo
import Derived.Test.YtdnapljegcihiaaGreatDoorVp
set_option linter.unusedSimpArgs false
set_option linter.unusedVariables false
namespace Go.Bw
open Go.Proofs
theorem validate1_sat (a b:FK) (hl:a.cols.length≤140737488355328):Sat Tryz.prog 43 [.agg (eFK a),.one (.fz (eFK b))] (.v (oB (fkEq a b))):=by
 refine ZE Tryz.func43 Tryz.ntmps43 fun w0 m0 F0=>?_
 repeat' (first|((first|with_reducible refine qV tyOk fun K hK=>?_|((with_reducible refine CallJ.is ?_);(refine CallJ.pure (equalFKs_sat _ _ hl) ?_)))<;>simp -dsimp (disch:=first|exact D|fail) only [go_sem,↓reduceIte,seval])|((with_reducible refine hK _ ?_);clear hK K)|refine Q1 ?_|fail)
 exact ZQ (Z1 Tryz.results43)
set_option maxHeartbeats 16000000 in
theorem schValidate_sat (s : Sch) (hf : s.Fits) : Sat Tryz.prog 14 [.agg (eSch s)] (.v (oI (schE s))) := by
  by_cases h0 : 6 < s.tables.length ∨ 8 < s.fks.length ∨ 8 < s.cons.length
  · refine ZE Tryz.func14 Tryz.ntmps14 fun w0 m0 F0 => ?_
    refine ZWpy Z0 Z0 ?_; repeat' (first | apply Zb | apply Zn | (apply Zm; intro h))
    all_goals first
      | (exfalso; omega)
      | (
         refine ZR (Z1 Tryz.results14) ?_
         rw [schE, if_pos h0])
  have spec : schE s = match scan (tblsE s.tables) s.tables 0 with
    | some e => e
    | none => match scan (fksE s) s.fks 0 with
      | some e => e
      | none => match scan (consE s) s.cons 0 with
        | some e => e
        | none => 0 := by rw [schE, if_neg h0] <;> rfl
  rw [spec]
  refine ZE Tryz.func14 Tryz.ntmps14 fun w0 m0 F0 => ?_
  refine ZWpy Z0 Z0 ?_; repeat' (first | apply Zb | apply Zn | (apply Zm; intro h))
  refine AWP.loop (ι := {k : Nat // k ≤ s.tables.length ∧ scan (tblsE s.tables) (s.tables.drop k) k = scan (tblsE s.tables) s.tables 0}) (fun k => ⟨98, [(1, .v (.one (.ptr 1 0))), (29, .v (.one (.sl 3 (s.tables.map eTbl)))), (30, .v (oI s.tables.length)), (31, .v (oI k.1))], [(1, eSch s)], []⟩) (fun k => s.tables.length - k.1) ⟨0, Nat.zero_le _, rfl⟩ ?_ fun ⟨k, hkl, hi⟩ => ?_
  · exact ZL (Z1 @eSch.eq_1)
  rcases Nat.lt_or_ge k s.tables.length with hc | hc
  · obtain ⟨b1, b2⟩ := hf.table s.tables[k] (List.getElem_mem hc)
    repeat' (first | ((first | with_reducible refine qV tyOk fun K hK => ?_ | refine Q2 ?_ | ((with_reducible first | refine qS ?_ ?_ | refine qT ?_ ?_ | refine qU ?_ ?_) <;> (intro h; try simp only [NM] at h)) | with_reducible refine yD tyOk mixed 6 (by kernel_rfl) fun K hK => ?_ | ((with_reducible refine CallJ.is ?_); (first | refine CallJ.pure (validateTable_sat _ b1 b2) ?_ | ((apply CallJ.lentI); (focus (simp -dsimp (disch := first | exact D | fail) only [go_sem, ↓reduceIte, seval]; rfl)); (focus (first | exact (validateTable_sat _ b1 b2)))))) | ((with_reducible refine CallH.is ?_); (first | refine CallH.intro (validateTable_sat _ b1 b2) ?_))) <;> simp -dsimp (disch := first | exact D | fail) only [go_sem, ↓reduceIte, seval]) | ((with_reducible refine hK _ ?_); clear hK K) | refine Q1 ?_ | ((with_reducible refine qW (T := TT) (b := ?_) ?_ ?_); rotate_left; exact rfl) | ((with_reducible refine yS ?_ ?_) <;> (intro h; try simp only [NM] at h)))
    all_goals
      first
        | (have hs : (tblsE s.tables) k s.tables[k] = none := by
             (simp (disch := omega) only [tblsE, getD_lt]; (repeat' split) <;> first | rfl | with_reducible assumption | omega | (exfalso; omega) | (simp_all; done) | (simp_all; omega))
           refine ⟨⟨k + 1, by omega, by rw [scan_step (by omega) hs, hi]⟩, by simp only; omega, ?_⟩
           exact ZL (Z1 @eSch.eq_1)
           done)
        | (simp -dsimp (disch := first | exact D | fail) only [retQ, Tryz.results14, resVals, cellRV, resOf, St.rest, St.freeze, RT, go_sem, ↓reduceIte, seval]
           rw [scan_leaf (by omega) ?_ hi]
           all_goals first | with_reducible rfl | ((simp (disch := omega) only [tblsE, getD_lt]; (repeat' split) <;> first | rfl | with_reducible assumption | omega | (exfalso; omega) | (simp_all; done) | (simp_all; omega)); done) | rfl
           done)
  · rw [scan_end (by omega)] at hi
    have hi0 := hi.symm
    have hok : ∀ t ∈ s.tables, OkTbl t := by
      intro t ht
      obtain ⟨j, hj, rfl⟩ := List.mem_iff_getElem.1 ht
      have h5 := scan_none hi.symm j hj
      rw [Nat.zero_add, tblsE] at h5
      split at h5
      · cases h5
      · rename_i h6
        exact okTbl_of (by simpa using h6)
    clear hi
    refine ZWpy Z0 Z0 ?_; repeat' (first | apply Zb | apply Zn | (apply Zm; intro h))
    rw [hi0]
    simp only
    clear hi0
    refine AWP.loop (ι := {k : Nat // k ≤ s.fks.length ∧ scan (fksE s) (s.fks.drop k) k = scan (fksE s) s.fks 0}) (fun k => ⟨98, [(1, .v (.one (.ptr 1 0))), (57, .v (.one (.sl 3 (s.fks.map eFK)))), (58, .v (oI s.fks.length)), (59, .v (oI k.1))], [(1, eSch s)], []⟩) (fun k => s.fks.length - k.1) ⟨0, Nat.zero_le _, rfl⟩ ?_ fun ⟨k, hkl, hi⟩ => ?_
    · exact ZL (Z1 @eSch.eq_1)
    rcases Nat.lt_or_ge k s.fks.length with hc | hc
    · have b1 := hf.fk s.fks[k] (List.getElem_mem hc)
      have b2 := hf.fks
      have b3 := hf.tables
      repeat' (first | ((first | with_reducible refine qV tyOk fun K hK => ?_ | refine Q2 ?_ | ((with_reducible first | refine qS ?_ ?_ | refine qT ?_ ?_ | refine qU ?_ ?_) <;> (intro h; try simp only [NM] at h)) | with_reducible refine yD tyOk mixed 6 (by kernel_rfl) fun K hK => ?_ | ((with_reducible refine CallJ.is ?_); (first | refine CallJ.pure (validateFK_sat s _ b3 b1 hok) ?_ | refine CallJ.pure (containsFK_sat (s.fks.take k) _ [.fz (eFK s.fks[k])] (fun o => fkEq o s.fks[k]) (by rw [List.length_take]; omega) fun t ht => validate1_sat t s.fks[k] (hf.fk t (List.mem_of_mem_take ht))) ?_ | ((first | refine CallJ.lent (validateFK_sat s _ b3 b1 hok) ?_ ?_; focus (simp -dsimp (disch := first | exact D | fail) only [go_sem, ↓reduceIte, seval, List.map_take]; done) | refine CallJ.lent (containsFK_sat (s.fks.take k) _ [.fz (eFK s.fks[k])] (fun o => fkEq o s.fks[k]) (by rw [List.length_take]; omega) fun t ht => validate1_sat t s.fks[k] (hf.fk t (List.mem_of_mem_take ht))) ?_ ?_; focus (simp -dsimp (disch := first | exact D | fail) only [go_sem, ↓reduceIte, seval, List.map_take]; done))))) | ((with_reducible refine CallH.is ?_); (first | refine CallH.intro (validateFK_sat s _ b3 b1 hok) ?_ | refine CallH.intro (containsFK_sat (s.fks.take k) _ [.fz (eFK s.fks[k])] (fun o => fkEq o s.fks[k]) (by rw [List.length_take]; omega) fun t ht => validate1_sat t s.fks[k] (hf.fk t (List.mem_of_mem_take ht))) ?_))) <;> simp -dsimp (disch := first | exact D | fail) only [go_sem, ↓reduceIte, seval, List.map_take]) | ((with_reducible refine hK _ ?_); clear hK K) | refine Q1 ?_ | ((with_reducible refine qW (T := TT) (b := ?_) ?_ ?_); rotate_left; exact rfl) | ((with_reducible refine yS ?_ ?_) <;> (intro h; try simp only [NM] at h)))
      all_goals
        first
          | (have hs : (fksE s) k s.fks[k] = none := by
               (simp (disch := omega) only [fksE, getD_lt]; (repeat' split) <;> first | rfl | with_reducible assumption | omega | (exfalso; omega) | (simp_all; done) | (simp_all; omega))
             refine ⟨⟨k + 1, by omega, by rw [scan_step (by omega) hs, hi]⟩, by simp only; omega, ?_⟩
             exact ZL (Z1 @eSch.eq_1)
             done)
          | (simp -dsimp (disch := first | exact D | fail) only [retQ, Tryz.results14, resVals, cellRV, resOf, St.rest, St.freeze, RT, go_sem, ↓reduceIte, seval]
             rw [scan_leaf (by omega) ?_ hi]
             all_goals first | with_reducible rfl | ((simp (disch := omega) only [fksE, getD_lt]; (repeat' split) <;> first | rfl | with_reducible assumption | omega | (exfalso; omega) | (simp_all; done) | (simp_all; omega)); done) | rfl
             done)
    rw [scan_end (by omega)] at hi
    have hi0 := hi.symm
    clear hi
    refine ZWpy Z0 Z0 ?_; repeat' (first | apply Zb | apply Zn | (apply Zm; intro h))
    rw [hi0]
    simp only
    clear hi0
    refine AWP.loop (ι := {k : Nat // k ≤ s.cons.length ∧ scan (consE s) (s.cons.drop k) k = scan (consE s) s.cons 0}) (fun k => ⟨98, [(1, .v (.one (.ptr 1 0))), (78, .v (.one (.sl 7 (s.cons.map eCon)))), (79, .v (oI s.cons.length)), (80, .v (oI k.1))], [(1, eSch s)], []⟩) (fun k => s.cons.length - k.1) ⟨0, Nat.zero_le _, rfl⟩ ?_ fun ⟨k, hkl, hi⟩ => ?_
    · exact ZL (Z1 @eSch.eq_1)
    rcases Nat.lt_or_ge k s.cons.length with hc | hc
    · have b2 := hf.cons
      have b3 := hf.tables
      have b4 : ∀ t ∈ s.tables, t.cols.length ≤ 140737488355328 := fun t ht => (hf.table t ht).1
      repeat' (first | ((first | with_reducible refine qV tyOk fun K hK => ?_ | refine Q2 ?_ | ((with_reducible first | refine qS ?_ ?_ | refine qT ?_ ?_ | refine qU ?_ ?_) <;> (intro h; try simp only [NM] at h)) | with_reducible refine yD tyOk mixed 6 (by kernel_rfl) fun K hK => ?_ | ((with_reducible refine CallJ.is ?_); (first | refine CallJ.pure (validateCon_sat s _ b3 b4) ?_ | refine CallJ.pure (containsCon_take s.cons k s.cons[k] b2) ?_ | ((first | refine CallJ.lent (validateCon_sat s _ b3 b4) ?_ ?_; focus (simp -dsimp (disch := first | exact D | fail) only [go_sem, ↓reduceIte, seval, List.map_take]; done) | refine CallJ.lent (containsCon_take s.cons k s.cons[k] b2) ?_ ?_; focus (simp -dsimp (disch := first | exact D | fail) only [go_sem, ↓reduceIte, seval, List.map_take]; done))))) | ((with_reducible refine CallH.is ?_); (first | refine CallH.intro (validateCon_sat s _ b3 b4) ?_ | refine CallH.intro (containsCon_take s.cons k s.cons[k] b2) ?_))) <;> simp -dsimp (disch := first | exact D | fail) only [go_sem, ↓reduceIte, seval, List.map_take]) | ((with_reducible refine hK _ ?_); clear hK K) | refine Q1 ?_ | ((with_reducible refine qW (T := TT) (b := ?_) ?_ ?_); rotate_left; exact rfl) | ((with_reducible refine yS ?_ ?_) <;> (intro h; try simp only [NM] at h)))
      all_goals
        first
          | (have hs : (consE s) k s.cons[k] = none := by
               (simp (disch := omega) only [consE, getD_lt]; (repeat' split) <;> first | rfl | with_reducible assumption | omega | (exfalso; omega) | (simp_all; done) | (simp_all; omega))
             refine ⟨⟨k + 1, by omega, by rw [scan_step (by omega) hs, hi]⟩, by simp only; omega, ?_⟩
             exact ZL (Z1 @eSch.eq_1)
             done)
          | (simp -dsimp (disch := first | exact D | fail) only [retQ, Tryz.results14, resVals, cellRV, resOf, St.rest, St.freeze, RT, go_sem, ↓reduceIte, seval]
             rw [scan_leaf (by omega) ?_ hi]
             all_goals first | with_reducible rfl | ((simp (disch := omega) only [consE, getD_lt]; (repeat' split) <;> first | rfl | with_reducible assumption | omega | (exfalso; omega) | (simp_all; done) | (simp_all; omega)); done) | rfl
             done)
    rw [scan_end (by omega)] at hi
    have hi0 := hi.symm
    clear hi
    refine ZWpy Z0 Z0 ?_; repeat' (first | apply Zb | apply Zn | (apply Zm; intro h))
    rw [hi0]
    exact ZQ (Z1 Tryz.results14)

set_option maxHeartbeats 8000000 in
theorem instTable_sat (s:Sch) (i:Inst) (name:ByteArray) (h1:s.tables.length≤140737488355328) (h2:∀t∈s.tables,t.cols.length≤1099511627776∧t.pk.length≤1099511627776)
  (h3:∀r∈i,r.rows.length≤1099511627776∧∀x∈r.rows,x.length≤1099511627776) :
  Sat Tryz.prog 105 [.agg (eSch s),.one (eInst i),.one (.str name)] (.tup [.agg (eTbl (instTbl s i name).1),.one (eRows (instTbl s i name).2)]):=by
 rcases idx_cases (fun t=>sEq t.name name) s.tables 0 with ⟨e1,_⟩|⟨j,hj,e1,_⟩
 ·have e1:tblAt s.tables name=-1:=e1
  refine sS tyOk Tryz.func105 fun w0 m0 F0=>?_
  simp only [Tryz.ntmps105,envOf,Nat.reduceAdd]
  repeat' (first|((first|with_reducible refine qV tyOk fun K hK=>?_|refine Q2 ?_|((with_reducible first|refine qS ?_ ?_|refine qT ?_ ?_|refine qU ?_ ?_)<;>(intro h;try simp only [NM] at h))|((with_reducible refine CallJ.is ?_);(first|refine CallJ.pure (findTable_sat _ _ h1) ?_|((apply CallJ.lentI);(focus (simp -dsimp (disch:=first|exact D|fail) only [go_sem,↓reduceIte,seval,e1,mx0_neg];rfl));(focus (first|exact (findTable_sat _ _ h1))))))|((with_reducible refine CallH.is ?_);(first|refine CallH.intro (findTable_sat _ _ h1) ?_)))<;>simp -dsimp (disch:=first|exact D|fail) only [go_sem,↓reduceIte,seval,e1,mx0_neg])|((with_reducible refine hK _ ?_);clear hK K)|refine Q1 ?_|((with_reducible refine qW (T:=TT) (b:=?_) ?_ ?_);rotate_left;exact rfl)|((with_reducible refine yS ?_ ?_)<;>(intro h;try simp only [NM] at h)))
  simp -dsimp (disch:=first|exact D|fail) only [retQ,Tryz.results105,resVals,cellRV,resOf,St.rest,St.freeze,RT,go_sem,↓reduceIte,seval]
  simp [instTbl,e1,eTbl,eCols,eInts,eRows]
 have e1:tblAt s.tables name=(j:Int):=by unfold tblAt;simpa using e1
 obtain ⟨b1,b2⟩:=h2 _ (List.getElem_mem hj)
 refine sS tyOk Tryz.func105 fun w0 m0 F0=>?_
 simp only [Tryz.ntmps105,envOf,Nat.reduceAdd]
 repeat' (first|((first|with_reducible refine qV tyOk fun K hK=>?_|refine Q2 ?_|((with_reducible first|refine qS ?_ ?_|refine qT ?_ ?_|refine qU ?_ ?_)<;>(intro h;try simp only [NM] at h))|((with_reducible refine CallJ.is ?_);(first|refine CallJ.pure (findTable_sat _ _ h1) ?_|refine CallJ.pure (cloneTable_sat _ b1 b2) ?_|((apply CallJ.lentI);(focus (simp -dsimp (disch:=first|exact D|fail) only [go_sem,↓reduceIte,seval,e1,mx0_nat];rfl));(focus (first|exact (findTable_sat _ _ h1)|exact (cloneTable_sat _ b1 b2))))))|((with_reducible refine CallH.is ?_);(first|refine CallH.intro (findTable_sat _ _ h1) ?_|refine CallH.intro (cloneTable_sat _ b1 b2) ?_)))<;>simp -dsimp (disch:=first|exact D|fail) only [go_sem,↓reduceIte,seval,e1,mx0_nat])|((with_reducible refine hK _ ?_);clear hK K)|refine Q1 ?_|((with_reducible refine qW (T:=TT) (b:=?_) ?_ ?_);rotate_left;exact rfl)|((with_reducible refine yS ?_ ?_)<;>(intro h;try simp only [NM] at h)))
 ·have sp:instTbl s i name=(s.tables[j],[]):=by
   simp only [instTbl,e1,Int.toNat_natCast,getD_lt _ hj]
   rw [if_neg (by omega),if_pos (by omega)]
  rw [sp]
  simp -dsimp (disch:=first|exact D|fail) only [retQ,Tryz.results105,resVals,cellRV,resOf,St.rest,St.freeze,RT,go_sem,↓reduceIte,seval]
  try simp [eRows,eTbl,eCols,eInts]
 have hji:j<i.length:=by omega
 have sp:instTbl s i name=(s.tables[j],i[j].rows):=by
  simp only [instTbl,e1,Int.toNat_natCast,getD_lt _ hj,getD_lt _ hji]
  rw [if_neg (by omega),if_neg (by omega)]
 rw [sp]
 obtain ⟨b3,b4⟩:=h3 _ (List.getElem_mem hji)
 refine AWP.drawT tyOk mixed 7 8 (by kernel_rfl) rfl rfl fun K hK=>?_
 simp -dsimp (disch:=first|exact D|fail) only [go_sem,↓reduceIte,seval]
 repeat' (first|((first|with_reducible refine qV tyOk fun K hK=>?_|refine Q2 ?_|((with_reducible first|refine qS ?_ ?_|refine qT ?_ ?_|refine qU ?_ ?_)<;>(intro h;try simp only [NM] at h))|((with_reducible refine CallJ.is ?_);(first|refine CallJ.pure (relClone_sat _ b3 b4) ?_|((apply CallJ.lentI);(focus (simp -dsimp (disch:=first|exact D|fail) only [go_sem,↓reduceIte,seval];rfl));(focus (first|exact (relClone_sat _ b3 b4))))))|((with_reducible refine CallH.is ?_);(first|refine CallH.intro (relClone_sat _ b3 b4) ?_)))<;>simp -dsimp (disch:=first|exact D|fail) only [go_sem,↓reduceIte,seval])|((with_reducible refine hK _ ?_);clear hK K)|refine Q1 ?_|((with_reducible refine qW (T:=TT) (b:=?_) ?_ ?_);rotate_left;exact rfl)|((with_reducible refine yS ?_ ?_)<;>(intro h;try simp only [NM] at h)))
 intro K hK
 simp -dsimp (disch:=first|exact D|fail) only [go_sem,↓reduceIte,seval]
 repeat' (first|((first|with_reducible refine qV tyOk fun K hK=>?_|refine Q2 ?_|((with_reducible first|refine qS ?_ ?_|refine qT ?_ ?_|refine qU ?_ ?_)<;>(intro h;try simp only [NM] at h)))<;>simp -dsimp (disch:=first|exact D|fail) only [go_sem,↓reduceIte,seval])|((with_reducible refine hK _ ?_);clear hK K)|refine Q1 ?_|((with_reducible refine qW (T:=TT) (b:=?_) ?_ ?_);rotate_left;exact rfl)|((with_reducible refine yS ?_ ?_)<;>(intro h;try simp only [NM] at h)))
 simp -dsimp (disch:=first|exact D|fail) only [retQ,Tryz.results105,resVals,cellRV,resOf,St.rest,St.freeze,RT,go_sem,↓reduceIte,seval]
theorem equalTables_sat (a b:Tbl) (h1:a.cols.length≤140737488355328) (h2:b.cols.length≤140737488355328) (h3:a.pk.length≤140737488355328):Sat Tryz.prog 67 [.agg (eTbl a),.agg (eTbl b)] (.v (oB (decide (a=b)))):=by
 have sp:decide (a=b)=(sEq a.name b.name&&(decide (a.cols=b.cols)&&decide (a.pk=b.pk))):=by
  rw [Bool.eq_iff_iff]
  simp only [Bool.and_eq_true,sEq_iff,decide_eq_true_eq]
  constructor
  ·rintro rfl;exact ⟨rfl,rfl,rfl⟩
  ·rintro ⟨h1,h2,h3⟩;cases a;cases b;simp_all
 rw [sp]
 refine ZE Tryz.func67 Tryz.ntmps67 fun w0 m0 F0=>?_
 refine ZWp Z0 (Z2 (equalCols_sat a.cols b.cols h1 h2) (equalInts_sat a.pk b.pk h3)) ?_;repeat' (first|apply Zb|apply Zn|(apply Zm;intro h))
 all_goals simp -dsimp (disch:=first|exact D|fail) only [retQ,Tryz.results67,resVals,cellRV,resOf,St.rest,St.freeze,RT,go_sem,↓reduceIte,seval]
 all_goals simp_all [sEq]
set_option maxHeartbeats 16000000 in
theorem addColumn_satM (s:Sch) (i:Nat) (st:Stp) (hi:i<s.tables.length) (sm:SmallS s) :
  SatM Tryz.prog 88 [.one (.ptr 1000 0),oI i,.agg (eStp st)] (iB s) (iR s) (.v (oI (rE (addC s i st)))) (oBE (addC s i st)) (oRE (addC s i st)):=by
 have df:=default_sat st.value ⟨st.column,st.typ,st.value.kind==0⟩
 have b1:=sm.tables
 have b2:=(sm.table s.tables[i] (List.getElem_mem hi)).1
 obtain ⟨t,ht⟩:∃t,s.tables[i]=t:=⟨_,rfl⟩
 have htA:tAt s i=t:=by unfold tAt;rw [getD_lt _ hi,ht]
 rw [ht] at b2
 have e0:s.tables.map eTblO=rowT s.tables i t:=by unfold rowT;rw [←ht,List.set_getElem_self]
 have rl:=rowT_len s.tables i t
 have rg:=fun t=>rowT_get (l:=s.tables) (k:=i) t hi
 unfold addC
 simp only
 by_cases hE:defaultE st.value ⟨st.column,st.typ,st.value.kind==0⟩=0
 ·rw [if_neg (by simpa using hE),htA]
  rw [hE] at df
  unfold iB iR oBE oRE oB1 oR1 rE setT
  simp only [List.length_set]
  rw [e0]
  refine sM tyOk [1000] [1,2,3] Tryz.func88 fun w0 m0 F0=>?_
  simp only [Tryz.ntmps88,envOf,Nat.reduceAdd]
  refine AWP.gq ?_
  repeat' (first|((first|((fail_if_success (refine AWP.isRegion 5 ?_));(with_reducible refine qV tyOk fun K hK=>?_))|((with_reducible refine CallJ.is ?_);(refine CallJ.pure (df) ?_)))<;>simp -dsimp (disch:=first|exact D|fail) only [go_sem,↓reduceIte,seval,eStp])|((with_reducible refine hK _ ?_);clear hK K)|refine Q1 ?_|((with_reducible refine qW (T:=TT) (b:=?_) ?_ ?_);rotate_left;exact rfl)|fail)
  refine AWP.openC 1000 i 1 2000 rfl (rowT_cell1 _ hi) rfl (by decide) (by decide) ?_
  simp -dsimp (disch:=first|exact D|fail) only [go_sem,↓reduceIte,seval,openR_mk]
  repeat' (first|((first|with_reducible refine qV tyOk fun K hK=>?_|(refine AWP.isRegion 5 ?_;refine dX tyOk mixed [(0,14)] [(14,[],[(0,13)]),(15,[(16,2)],[(0,5)]),(18,[],[])] [14,15,18] 8 fun K hK=>?_;simp only [SG,segs] at hK ⊢)|(with_reducible first|refine VCy.some fun K hK=>?_|refine VCy.step fun K hK=>?_))<;>simp -dsimp (disch:=first|exact D|fail) only [go_sem,↓reduceIte,seval,rl,rg,eTblO,Option.getD_none])|((with_reducible refine hK _ ?_);clear hK K)|(with_reducible refine VCy.intro fun K0 hK0=>?_)|((with_reducible refine VCy.fin ?_);(refine hK0 _ ?_);clear hK0 K0)|(with_reducible first|refine VCy.quiet ?_|refine VCy.none ?_)|((with_reducible refine VCy.keep ?_ ?_);focus ((simp -dsimp (disch:=first|exact D|fail) only [go_sem,↓reduceIte,seval,Stable_cons,Stable_nil,sameA_some,sameA_none,rl,rg,eTblO,Option.getD_none]);first|done|exact E|fail))|refine Q1 ?_|fail)
  refine Gq.close 1000 i 1 40 rfl rfl (by decide) (by simp [ovGet]) (by simp [rl];exact hi) (by show 1<3;decide) rfl ?_
  simp -dsimp (disch:=first|exact D|fail) only [go_sem,↓reduceIte,seval,closeR_mk,ovCut_cons,ovCut_nil]
  rw [setCell_set _ _ _ _ _ (by rw [rl];exact hi)]
  have e1:=rowT_set s.tables i t ⟨t.name,t.cols++[⟨st.column,st.typ,st.value.kind==0⟩],t.pk⟩
  simp only [eTblO,List.map_append,List.map_cons,List.map_nil,eCol] at e1
  simp only [List.set_cons_succ,List.set_cons_zero,e1]
  refine Gq.frzR 1000 rfl ?_
  simp -dsimp (disch:=first|exact D|fail) only [go_sem,↓reduceIte,seval,frzR_mk,frzTblO,frzFKO,frzXs_rowT]
  refine Gq.frzR 1001 rfl ?_
  simp -dsimp (disch:=first|exact D|fail) only [go_sem,↓reduceIte,seval,frzR_mk,frzTblO,frzFKO]
  refine Gq.renR 1000 1 rfl rfl (by decide) (.inl (Nat.le_of_ble_eq_true rfl)) ?_
  simp -dsimp (disch:=first|exact D|fail) only [go_sem,↓reduceIte,seval,renR_mk,L.ren,L.ren0]
  refine Gq.renR 1001 2 rfl rfl (by decide) (.inl (Nat.le_of_ble_eq_true rfl)) ?_
  simp -dsimp (disch:=first|exact D|fail) only [go_sem,↓reduceIte,seval,renR_mk,L.ren,L.ren0]
  refine Gq.renR 1002 3 rfl rfl (by decide) (.inl (Nat.le_of_ble_eq_true rfl)) ?_
  simp -dsimp (disch:=first|exact D|fail) only [go_sem,↓reduceIte,seval,renR_mk,L.ren,L.ren0]
  refine Gq.done ?_
  simp -dsimp (disch:=first|exact D|fail) only [retQ,Tryz.results88,resVals,cellRV,resOf,St.rest,St.freeze,RT,go_sem,↓reduceIte,seval]
  skip
 ·rw [if_pos hE]
  unfold iB iR oBE oRE rE
  simp only
  refine sM tyOk [1000] [1,2,3] Tryz.func88 fun w0 m0 F0=>?_
  simp only [Tryz.ntmps88,envOf,Nat.reduceAdd]
  repeat' (first|((first|with_reducible refine qV tyOk fun K hK=>?_|((with_reducible refine CallJ.is ?_);(refine CallJ.pure (df) ?_)))<;>simp -dsimp (disch:=first|exact D|fail) only [go_sem,↓reduceIte,seval,eStp,hE])|((with_reducible refine hK _ ?_);clear hK K)|refine Q1 ?_|((with_reducible refine qW (T:=TT) (b:=?_) ?_ ?_);rotate_left;exact rfl)|fail)
  simp -dsimp (disch:=first|exact D|fail) only [retQ,Tryz.results88,resVals,cellRV,resOf,St.rest,St.freeze,RT,go_sem,↓reduceIte,seval]
theorem mBX (st:Stp) (fwd:Bool) (a b c:Sch) (inn comp:Inst) (no nn:Nat) (err:Int):mB st fwd a b c inn comp no nn err=eStp st++([.bool fwd]++eSch a++eSch b++eSch c++[.sl 2 (inn.map eRel),.sl 2 (comp.map eRel),.ref 1001 0 no,.ref 1002 0 nn,.int .i64 err]):=rfl
set_option maxHeartbeats 16000000 in
theorem input_satM (st:Stp) (fwd:Bool) (a b c:Sch) (inn comp:Inst) (O N:List (List L)) (err:Int) (name:ByteArray) (j:Nat) (hj:j<a.tables.length) (ej:tblAt a.tables name=(j:Int)) (hji:j<inn.length) (h1:a.tables.length≤1048576) (h2:a.tables[j].cols.length≤1048576∧a.tables[j].pk.length≤1048576)
  (h3:inn[j].rows.length≤1048576∧∀x∈inn[j].rows,x.length≤1048576) :
  SatM Tryz.prog 171 [.one (.ptr 1000 0),oS name] [(1000,mB st fwd a b c inn comp O.length N.length err)] [(1001,⟨2,O,[]⟩),(1002,⟨2,N,[]⟩)]
   (.tup [.agg (eTbl a.tables[j]),.one (.ref 5 0 inn[j].rows.length)]) [(1000,mB st fwd a b c inn comp O.length N.length err)] [(1001,⟨2,O,[]⟩),(1002,⟨2,N,[]⟩),(5,⟨1,inn[j].rows.map eRowO,[]⟩)]:=by
 have ct:=instTable_own a inn name j hj ej hji h1 h2 h3
 obtain ⟨t,ht⟩:∃t,a.tables[j]=t:=⟨_,rfl⟩
 obtain ⟨rl,hr⟩:∃rl,inn[j]=rl:=⟨_,rfl⟩
 rw [ht,hr] at ct
 rw [ht,hr]
 unfold eInst at ct
 rw [eSchX] at ct
 rw [mBX,eSchX,eSchX,eSchX]
 unfold eStp
 simp only [List.cons_append,List.nil_append]
 refine ZM [1000] [1001,1002,5] Tryz.func171 Tryz.ntmps171 fun w0 m0 F0=>?_
 refine AWP.gq ?_
 refine ZV (Z4 @eTblX @dropL_nil @dropL_nil' @dropL_cons) Z0 (Z1 (Zd 1 [(0,9)] [(9,[(10,2)],[]),(12,[(13,1)],[])] [9,12] 8)) (Z1 (Zi [] [] [] [(7,15)] [] [15] [] [15] (ct))) ?_
 refine Gq.renR 15 5 rfl rfl (by decide) (.inl (Nat.le_of_ble_eq_true rfl)) ?_
 refine ZT Z0 ?_
 refine Gq.done ?_
 exact ZQ (Z1 Tryz.results171)
set_option maxHeartbeats 16000000 in
theorem output_satM (st:Stp) (fwd:Bool) (a b c:Sch) (inn comp:Inst) (O N:List (List L)) (err:Int) (name:ByteArray) (j:Nat) (hj:j<b.tables.length) (ej:tblAt b.tables name=(j:Int)) (h1:b.tables.length≤1048576) :
  SatM Tryz.prog 172 [.one (.ptr 1000 0),oS name] [(1000,mB st fwd a b c inn comp O.length N.length err)] [(1001,⟨2,O,[]⟩),(1002,⟨2,N,[]⟩)]
   (.v (.agg (eTbl b.tables[j]))) [(1000,mB st fwd a b c inn comp O.length N.length err)] [(1001,⟨2,O,[]⟩),(1002,⟨2,N,[]⟩)]:=by
 have ft:=findTable_sat b name (by omega)
 rw [ej,mx0_nat,decide_eq_true (show (0:Int)≤(j:Int) by omega)] at ft
 obtain ⟨t,ht⟩:∃t,b.tables[j]=t:=⟨_,rfl⟩
 have gt:(b.tables.map eTbl).getD j []=[.str t.name,.sl 3 (t.cols.map eCol),.sl 1 (t.pk.map eInt1)]:=by rw [getD_map_lt _ _ _ hj,ht];rfl
 rw [ht]
 rw [eSchX] at ft
 rw [mBX,eSchX,eSchX,eSchX]
 unfold eStp
 simp only [List.cons_append,List.nil_append]
 refine ZM [1000] [1001,1002] Tryz.func172 Tryz.ntmps172 fun w0 m0 F0=>?_
 refine ZW (Z2 @gt @eTblX) (Z1 (ft)) ?_
 exact ZQ (Z1 Tryz.results172)
set_option maxHeartbeats 16000000 in
theorem lookup_satM (st:Stp) (fwd:Bool) (a b:Sch) (T:Tbl) (inn:Inst) (tn:ByteArray) (rows:List Row) (O N:List (List L)) (err:Int) (key:Row) (hk:key.length≤1048576) (hp:T.pk.length≤1048576) (hr:rows.length≤1048576) (hw:∀r∈rows,T.pk.length≤r.length∧r.length≤1048576) :
  SatM Tryz.prog 173 [.one (.ptr 1000 0),.one (.ref 1003 0 key.length)] [(1000,mB st fwd a b ⟨[T],[],[]⟩ inn [⟨tn,rows⟩] O.length N.length err)] [(1001,⟨2,O,[]⟩),(1002,⟨2,N,[]⟩),(1003,⟨3,key.map eVal,[]⟩)]
   (.tup [.one (eRow (lookR T rows key)),oB (findB T rows key)]) [(1000,mB st fwd a b ⟨[T],[],[]⟩ inn [⟨tn,rows⟩] O.length N.length err)] [(1001,⟨2,O,[]⟩),(1002,⟨2,N,[]⟩),(1003,⟨3,key.map eVal,[]⟩)]:=by
 have fd:=find_sat T rows key (by omega) (by omega) (by omega)
 rw [eTblX] at fd
 unfold eRows eRow at fd
 rw [mBX,eSchX,eSchX,eSchX]
 unfold eStp
 simp only [List.cons_append,List.nil_append,List.map_cons,List.map_nil,eRel,eRows,eTblX]
 cases hb:findB T rows key with
 | false =>
  have sp:lookR T rows key=[]:=by unfold lookR;rw [hb];rfl
  rw [hb] at fd
  rw [sp]
  refine ZM [1000] [1001,1002,1003] Tryz.func173 Tryz.ntmps173 fun w0 m0 F0=>?_
  refine ZW (Z1 (@List.getD_cons_zero.{0})) (Z1 (fd)) ?_
  exact ZQ (Z1 Tryz.results173)
 | true =>
  obtain ⟨k,hkl,ek⟩:=findB_lt hb
  obtain ⟨x,hx⟩:∃x,rows[k]=x:=⟨_,rfl⟩
  obtain ⟨w1,w2⟩:=hw _ (List.getElem_mem hkl)
  rw [hx] at w1 w2
  have sp:lookR T rows key=x.drop T.pk.length:=by unfold lookR;rw [if_pos hb,ek,Int.toNat_natCast,getD_lt _ hkl,hx]
  rw [hb,ek] at fd
  rw [sp]
  have gx:(rows.map eRow1).getD k []=[.sl 3 (x.map eVal)]:=by rw [getD_map_lt _ _ _ hkl,hx];rfl
  have cl:=cloneRow_sat (x.drop T.pk.length) (by rw [List.length_drop];omega)
  have dl:((x.map eVal).drop T.pk.length)=(x.drop T.pk.length).map eVal:=List.map_drop.symm
  unfold eRow at cl
  refine ZM [1000] [1001,1002,1003] Tryz.func173 Tryz.ntmps173 fun w0 m0 F0=>?_
  refine ZV (Z3 @gx @dl (@List.getD_cons_zero.{0})) (Z2 (cl) (fd)) (Z1 (Zd 6 [(0,8)] [(8,[(9,2)],[])] [8] 8)) Z0 ?_
  exact ZQ (Z1 Tryz.results173)
end Go.Bw
