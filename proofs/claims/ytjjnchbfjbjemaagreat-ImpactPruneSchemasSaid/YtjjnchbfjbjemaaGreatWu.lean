/-
  WHAT IS PROVED HERE, of this translation: schValidate_sat, equalTables_sat, equalFuncTbl_sat, schEqual_sat, stpEqual_sat, Sch.Fits.sub, okRel_iff, OkRel.sub, rd_I, rd_S, cells_int, cells_string, .., rd_stp, rd_scr, Edg.Ok.fits, cells_Edge, cells_s_Edge, bytes_Edge, rd_edg, rd_edgs, Gr.Ok.fits, cells_Graph, rd_gr.
  A theorem that ends in sat says what the function it names returns, whatever the state it is called in; the bounds on its arguments stand ahead of it.
-/
import Derived.Test.YtjjnchbfjbjemaaGreatWm
import Derived.Test.YtjjnchbfjbjemaaGreatWn
import Derived.Test.YtjjnchbfjbjemaaGreatWo
import Derived.Test.YtjjnchbfjbjemaaGreatWs
set_option linter.unusedSimpArgs false
set_option linter.unusedVariables false
namespace Go.Bw
open Go.Proofs
set_option maxHeartbeats 16000000 in
theorem schValidate_sat (s : Sch) (hf : s.Fits) : Sat Tryz.prog 33 [.agg (eSch s)] (.v (oI (schE s))) := by
  by_cases h0 : 6 < s.tables.length ∨ 8 < s.fks.length ∨ 8 < s.cons.length
  · refine sS tyOk Tryz.func33 fun w0 m0 F0 => ?_
    simp only [Tryz.ntmps33, envOf, Nat.reduceAdd]
    repeat' (first | ((first | with_reducible refine qV tyOk fun K hK => ?_ | refine Q2 ?_ | ((with_reducible first | refine qS ?_ ?_ | refine qT ?_ ?_ | refine qU ?_ ?_) <;> (intro h; try simp only [NM] at h)) | with_reducible refine yD tyOk mixed 6 (by kernel_rfl) fun K hK => ?_) <;> simp -dsimp (disch := first | exact D | fail) only [go_sem, ↓reduceIte, seval]) | ((with_reducible refine hK _ ?_); clear hK K) | refine Q1 ?_ | ((with_reducible refine qW (T := TT) (b := ?_) ?_ ?_); rotate_left; exact rfl) | ((with_reducible refine yS ?_ ?_) <;> (intro h; try simp only [NM] at h)))
    all_goals first
      | (exfalso; omega)
      | (
         simp -dsimp (disch := first | exact D | fail) only [retQ, Tryz.results33, resVals, cellRV, resOf, St.rest, St.freeze, RT, go_sem, ↓reduceIte, seval]
         rw [schE, if_pos h0])
  have spec : schE s = match scan (tblsE s.tables) s.tables 0 with
    | some e => e
    | none => match scan (fksE s) s.fks 0 with
      | some e => e
      | none => match scan (consE s) s.cons 0 with
        | some e => e
        | none => 0 := by rw [schE, if_neg h0] <;> rfl
  rw [spec]
  refine sS tyOk Tryz.func33 fun w0 m0 F0 => ?_
  simp only [Tryz.ntmps33, envOf, Nat.reduceAdd]
  repeat' (first | ((first | with_reducible refine qV tyOk fun K hK => ?_ | refine Q2 ?_ | ((with_reducible first | refine qS ?_ ?_ | refine qT ?_ ?_ | refine qU ?_ ?_) <;> (intro h; try simp only [NM] at h)) | with_reducible refine yD tyOk mixed 6 (by kernel_rfl) fun K hK => ?_) <;> simp -dsimp (disch := first | exact D | fail) only [go_sem, ↓reduceIte, seval]) | ((with_reducible refine hK _ ?_); clear hK K) | refine Q1 ?_ | ((with_reducible refine qW (T := TT) (b := ?_) ?_ ?_); rotate_left; exact rfl) | ((with_reducible refine yS ?_ ?_) <;> (intro h; try simp only [NM] at h)))
  refine AWP.loop (ι := {k : Nat // k ≤ s.tables.length ∧ scan (tblsE s.tables) (s.tables.drop k) k = scan (tblsE s.tables) s.tables 0}) (fun k => ⟨98, [(1, .v (.one (.ptr 1 0))), (29, .v (.one (.sl 3 (s.tables.map eTbl)))), (30, .v (oI s.tables.length)), (31, .v (oI k.1))], [(1, eSch s)], []⟩) (fun k => s.tables.length - k.1) ⟨0, Nat.zero_le _, rfl⟩ ?_ fun ⟨k, hkl, hi⟩ => ?_
  · refine St.le_mk ?_ ?_ ?_ <;> simp only [LE, EN, Nat.reduceEqDiff, reduceIte, Nat.reduceSub, eSch]
  rcases Nat.lt_or_ge k s.tables.length with hc | hc
  · obtain ⟨b1, b2⟩ := hf.table s.tables[k] (List.getElem_mem hc)
    repeat' (first | ((first | with_reducible refine qV tyOk fun K hK => ?_ | refine Q2 ?_ | ((with_reducible first | refine qS ?_ ?_ | refine qT ?_ ?_ | refine qU ?_ ?_) <;> (intro h; try simp only [NM] at h)) | with_reducible refine yD tyOk mixed 6 (by kernel_rfl) fun K hK => ?_ | ((with_reducible refine CallJ.is ?_); (first | refine CallJ.pure (validateTable_sat _ b1 b2) ?_ | ((apply CallJ.lentI); (focus (simp -dsimp (disch := first | exact D | fail) only [go_sem, ↓reduceIte, seval]; rfl)); (focus (first | exact (validateTable_sat _ b1 b2)))))) | ((with_reducible refine CallH.is ?_); (first | refine CallH.intro (validateTable_sat _ b1 b2) ?_))) <;> simp -dsimp (disch := first | exact D | fail) only [go_sem, ↓reduceIte, seval]) | ((with_reducible refine hK _ ?_); clear hK K) | refine Q1 ?_ | ((with_reducible refine qW (T := TT) (b := ?_) ?_ ?_); rotate_left; exact rfl) | ((with_reducible refine yS ?_ ?_) <;> (intro h; try simp only [NM] at h)))
    all_goals
      first
        | (have hs : (tblsE s.tables) k s.tables[k] = none := by
             (simp (disch := omega) only [tblsE, getD_lt]; (repeat' split) <;> first | rfl | with_reducible assumption | omega | (exfalso; omega) | (simp_all; done) | (simp_all; omega))
           refine ⟨⟨k + 1, by omega, by rw [scan_step (by omega) hs, hi]⟩, by simp only; omega, ?_⟩
           refine St.le_mk ?_ ?_ ?_ <;> simp only [LE, EN, Nat.reduceEqDiff, reduceIte, Nat.reduceSub, eSch]
           done)
        | (simp -dsimp (disch := first | exact D | fail) only [retQ, Tryz.results33, resVals, cellRV, resOf, St.rest, St.freeze, RT, go_sem, ↓reduceIte, seval]
           rw [scan_leaf (by omega) ?_ hi]
           all_goals first | with_reducible rfl | ((simp (disch := omega) only [tblsE, getD_lt]; (repeat' split) <;> first | rfl | with_reducible assumption | omega | (exfalso; omega) | (simp_all; done) | (simp_all; omega)); done) | rfl
           done)
  · rw [scan_end (by omega)] at hi
    have hi0 := hi.symm
    have hok : ∀ t ∈ s.tables, OkTbl t := by
      intro t ht
      obtain ⟨j, hj, rfl⟩ := List.mem_iff_getElem.1 ht
      have h5 := scan_none hi.symm j hj
      rw [Nat.zero_add, tblsE] at h5
      split at h5
      · cases h5
      · rename_i h6
        exact okTbl_of (by simpa using h6)
    clear hi
    repeat' (first | ((first | with_reducible refine qV tyOk fun K hK => ?_ | refine Q2 ?_ | ((with_reducible first | refine qS ?_ ?_ | refine qT ?_ ?_ | refine qU ?_ ?_) <;> (intro h; try simp only [NM] at h)) | with_reducible refine yD tyOk mixed 6 (by kernel_rfl) fun K hK => ?_) <;> simp -dsimp (disch := first | exact D | fail) only [go_sem, ↓reduceIte, seval]) | ((with_reducible refine hK _ ?_); clear hK K) | refine Q1 ?_ | ((with_reducible refine qW (T := TT) (b := ?_) ?_ ?_); rotate_left; exact rfl) | ((with_reducible refine yS ?_ ?_) <;> (intro h; try simp only [NM] at h)))
    rw [hi0]
    simp only
    clear hi0
    refine AWP.loop (ι := {k : Nat // k ≤ s.fks.length ∧ scan (fksE s) (s.fks.drop k) k = scan (fksE s) s.fks 0}) (fun k => ⟨98, [(1, .v (.one (.ptr 1 0))), (57, .v (.one (.sl 3 (s.fks.map eFK)))), (58, .v (oI s.fks.length)), (59, .v (oI k.1))], [(1, eSch s)], []⟩) (fun k => s.fks.length - k.1) ⟨0, Nat.zero_le _, rfl⟩ ?_ fun ⟨k, hkl, hi⟩ => ?_
    · refine St.le_mk ?_ ?_ ?_ <;> simp only [LE, EN, Nat.reduceEqDiff, reduceIte, Nat.reduceSub, eSch]
    rcases Nat.lt_or_ge k s.fks.length with hc | hc
    · have b1 := hf.fk s.fks[k] (List.getElem_mem hc)
      have b2 := hf.fks
      have b3 := hf.tables
      repeat' (first | ((first | with_reducible refine qV tyOk fun K hK => ?_ | refine Q2 ?_ | ((with_reducible first | refine qS ?_ ?_ | refine qT ?_ ?_ | refine qU ?_ ?_) <;> (intro h; try simp only [NM] at h)) | with_reducible refine yD tyOk mixed 6 (by kernel_rfl) fun K hK => ?_ | ((with_reducible refine CallJ.is ?_); (first | refine CallJ.pure (validateFK_sat s _ b3 b1 hok) ?_ | refine CallJ.pure (containsFK_sat (s.fks.take k) _ [.fz (eFK s.fks[k])] (fun o => fkEq o s.fks[k]) (by rw [List.length_take]; omega) fun t ht => validate1_sat t s.fks[k] (hf.fk t (List.mem_of_mem_take ht))) ?_ | ((first | refine CallJ.lent (validateFK_sat s _ b3 b1 hok) ?_ ?_; focus (simp -dsimp (disch := first | exact D | fail) only [go_sem, ↓reduceIte, seval, List.map_take]; done) | refine CallJ.lent (containsFK_sat (s.fks.take k) _ [.fz (eFK s.fks[k])] (fun o => fkEq o s.fks[k]) (by rw [List.length_take]; omega) fun t ht => validate1_sat t s.fks[k] (hf.fk t (List.mem_of_mem_take ht))) ?_ ?_; focus (simp -dsimp (disch := first | exact D | fail) only [go_sem, ↓reduceIte, seval, List.map_take]; done))))) | ((with_reducible refine CallH.is ?_); (first | refine CallH.intro (validateFK_sat s _ b3 b1 hok) ?_ | refine CallH.intro (containsFK_sat (s.fks.take k) _ [.fz (eFK s.fks[k])] (fun o => fkEq o s.fks[k]) (by rw [List.length_take]; omega) fun t ht => validate1_sat t s.fks[k] (hf.fk t (List.mem_of_mem_take ht))) ?_))) <;> simp -dsimp (disch := first | exact D | fail) only [go_sem, ↓reduceIte, seval, List.map_take]) | ((with_reducible refine hK _ ?_); clear hK K) | refine Q1 ?_ | ((with_reducible refine qW (T := TT) (b := ?_) ?_ ?_); rotate_left; exact rfl) | ((with_reducible refine yS ?_ ?_) <;> (intro h; try simp only [NM] at h)))
      all_goals
        first
          | (have hs : (fksE s) k s.fks[k] = none := by
               (simp (disch := omega) only [fksE, getD_lt]; (repeat' split) <;> first | rfl | with_reducible assumption | omega | (exfalso; omega) | (simp_all; done) | (simp_all; omega))
             refine ⟨⟨k + 1, by omega, by rw [scan_step (by omega) hs, hi]⟩, by simp only; omega, ?_⟩
             refine St.le_mk ?_ ?_ ?_ <;> simp only [LE, EN, Nat.reduceEqDiff, reduceIte, Nat.reduceSub, eSch]
             done)
          | (simp -dsimp (disch := first | exact D | fail) only [retQ, Tryz.results33, resVals, cellRV, resOf, St.rest, St.freeze, RT, go_sem, ↓reduceIte, seval]
             rw [scan_leaf (by omega) ?_ hi]
             all_goals first | with_reducible rfl | ((simp (disch := omega) only [fksE, getD_lt]; (repeat' split) <;> first | rfl | with_reducible assumption | omega | (exfalso; omega) | (simp_all; done) | (simp_all; omega)); done) | rfl
             done)
    rw [scan_end (by omega)] at hi
    have hi0 := hi.symm
    clear hi
    repeat' (first | ((first | with_reducible refine qV tyOk fun K hK => ?_ | refine Q2 ?_ | ((with_reducible first | refine qS ?_ ?_ | refine qT ?_ ?_ | refine qU ?_ ?_) <;> (intro h; try simp only [NM] at h)) | with_reducible refine yD tyOk mixed 6 (by kernel_rfl) fun K hK => ?_) <;> simp -dsimp (disch := first | exact D | fail) only [go_sem, ↓reduceIte, seval]) | ((with_reducible refine hK _ ?_); clear hK K) | refine Q1 ?_ | ((with_reducible refine qW (T := TT) (b := ?_) ?_ ?_); rotate_left; exact rfl) | ((with_reducible refine yS ?_ ?_) <;> (intro h; try simp only [NM] at h)))
    rw [hi0]
    simp only
    clear hi0
    refine AWP.loop (ι := {k : Nat // k ≤ s.cons.length ∧ scan (consE s) (s.cons.drop k) k = scan (consE s) s.cons 0}) (fun k => ⟨98, [(1, .v (.one (.ptr 1 0))), (78, .v (.one (.sl 7 (s.cons.map eCon)))), (79, .v (oI s.cons.length)), (80, .v (oI k.1))], [(1, eSch s)], []⟩) (fun k => s.cons.length - k.1) ⟨0, Nat.zero_le _, rfl⟩ ?_ fun ⟨k, hkl, hi⟩ => ?_
    · refine St.le_mk ?_ ?_ ?_ <;> simp only [LE, EN, Nat.reduceEqDiff, reduceIte, Nat.reduceSub, eSch]
    rcases Nat.lt_or_ge k s.cons.length with hc | hc
    · have b2 := hf.cons
      have b3 := hf.tables
      have b4 : ∀ t ∈ s.tables, t.cols.length ≤ 140737488355328 := fun t ht => (hf.table t ht).1
      repeat' (first | ((first | with_reducible refine qV tyOk fun K hK => ?_ | refine Q2 ?_ | ((with_reducible first | refine qS ?_ ?_ | refine qT ?_ ?_ | refine qU ?_ ?_) <;> (intro h; try simp only [NM] at h)) | with_reducible refine yD tyOk mixed 6 (by kernel_rfl) fun K hK => ?_ | ((with_reducible refine CallJ.is ?_); (first | refine CallJ.pure (validateCon_sat s _ b3 b4) ?_ | refine CallJ.pure (containsCon_take s.cons k s.cons[k] b2) ?_ | ((first | refine CallJ.lent (validateCon_sat s _ b3 b4) ?_ ?_; focus (simp -dsimp (disch := first | exact D | fail) only [go_sem, ↓reduceIte, seval, List.map_take]; done) | refine CallJ.lent (containsCon_take s.cons k s.cons[k] b2) ?_ ?_; focus (simp -dsimp (disch := first | exact D | fail) only [go_sem, ↓reduceIte, seval, List.map_take]; done))))) | ((with_reducible refine CallH.is ?_); (first | refine CallH.intro (validateCon_sat s _ b3 b4) ?_ | refine CallH.intro (containsCon_take s.cons k s.cons[k] b2) ?_))) <;> simp -dsimp (disch := first | exact D | fail) only [go_sem, ↓reduceIte, seval, List.map_take]) | ((with_reducible refine hK _ ?_); clear hK K) | refine Q1 ?_ | ((with_reducible refine qW (T := TT) (b := ?_) ?_ ?_); rotate_left; exact rfl) | ((with_reducible refine yS ?_ ?_) <;> (intro h; try simp only [NM] at h)))
      all_goals
        first
          | (have hs : (consE s) k s.cons[k] = none := by
               (simp (disch := omega) only [consE, getD_lt]; (repeat' split) <;> first | rfl | with_reducible assumption | omega | (exfalso; omega) | (simp_all; done) | (simp_all; omega))
             refine ⟨⟨k + 1, by omega, by rw [scan_step (by omega) hs, hi]⟩, by simp only; omega, ?_⟩
             refine St.le_mk ?_ ?_ ?_ <;> simp only [LE, EN, Nat.reduceEqDiff, reduceIte, Nat.reduceSub, eSch]
             done)
          | (simp -dsimp (disch := first | exact D | fail) only [retQ, Tryz.results33, resVals, cellRV, resOf, St.rest, St.freeze, RT, go_sem, ↓reduceIte, seval]
             rw [scan_leaf (by omega) ?_ hi]
             all_goals first | with_reducible rfl | ((simp (disch := omega) only [consE, getD_lt]; (repeat' split) <;> first | rfl | with_reducible assumption | omega | (exfalso; omega) | (simp_all; done) | (simp_all; omega)); done) | rfl
             done)
    rw [scan_end (by omega)] at hi
    have hi0 := hi.symm
    clear hi
    repeat' (first | ((first | with_reducible refine qV tyOk fun K hK => ?_ | refine Q2 ?_ | ((with_reducible first | refine qS ?_ ?_ | refine qT ?_ ?_ | refine qU ?_ ?_) <;> (intro h; try simp only [NM] at h)) | with_reducible refine yD tyOk mixed 6 (by kernel_rfl) fun K hK => ?_) <;> simp -dsimp (disch := first | exact D | fail) only [go_sem, ↓reduceIte, seval]) | ((with_reducible refine hK _ ?_); clear hK K) | refine Q1 ?_ | ((with_reducible refine qW (T := TT) (b := ?_) ?_ ?_); rotate_left; exact rfl) | ((with_reducible refine yS ?_ ?_) <;> (intro h; try simp only [NM] at h)))
    rw [hi0]
    simp -dsimp (disch := first | exact D | fail) only [retQ, Tryz.results33, resVals, cellRV, resOf, St.rest, St.freeze, RT, go_sem, ↓reduceIte, seval]

theorem equalTables_sat (a b:Tbl) (h1:a.cols.length≤140737488355328) (h2:b.cols.length≤140737488355328) (h3:a.pk.length≤140737488355328):Sat Tryz.prog 36 [.agg (eTbl a),.agg (eTbl b)] (.v (oB (decide (a=b)))):=by
 have sp:decide (a=b)=(sEq a.name b.name&&(decide (a.cols=b.cols)&&decide (a.pk=b.pk))):=by
  rw [Bool.eq_iff_iff]
  simp only [Bool.and_eq_true,sEq_iff,decide_eq_true_eq]
  constructor
  ·rintro rfl;exact ⟨rfl,rfl,rfl⟩
  ·rintro ⟨h1,h2,h3⟩;cases a;cases b;simp_all
 rw [sp]
 refine sS tyOk Tryz.func36 fun w0 m0 F0=>?_
 simp only [Tryz.ntmps36,envOf,Nat.reduceAdd]
 repeat' (first|((first|with_reducible refine qV tyOk fun K hK=>?_|refine Q2 ?_|((with_reducible refine qS ?_ ?_)<;>(intro h;try simp only [NM] at h))|((with_reducible refine CallJ.is ?_);(first|refine CallJ.pure (equalCols_sat a.cols b.cols h1 h2) ?_|refine CallJ.pure (equalInts_sat a.pk b.pk h3) ?_)))<;>simp -dsimp (disch:=first|exact D|fail) only [go_sem,↓reduceIte,seval])|((with_reducible refine hK _ ?_);clear hK K)|refine Q1 ?_|fail)
 all_goals simp -dsimp (disch:=first|exact D|fail) only [retQ,Tryz.results36,resVals,cellRV,resOf,St.rest,St.freeze,RT,go_sem,↓reduceIte,seval]
 all_goals simp_all [sEq]
set_option maxHeartbeats 8000000 in
theorem equalFuncTbl_sat (a b : List Tbl) (h1 : a.length ≤ 140737488355328) (h2 : b.length ≤ 140737488355328) (h3 : ∀ t ∈ a, t.cols.length ≤ 140737488355328 ∧ t.pk.length ≤ 140737488355328) (h4 : ∀ t ∈ b, t.cols.length ≤ 140737488355328) :
    Sat Tryz.prog 27 [.one (eTbls a), .one (eTbls b), .one (.clo 36 [])] (.v (oB (decide (a = b)))) := by
  refine sS tyOk Tryz.func27 fun w0 m0 F0 => ?_
  simp only [Tryz.ntmps27, envOf, Nat.reduceAdd]
  repeat' (first | ((with_reducible refine qV tyOk fun K hK => ?_) <;> simp -dsimp (disch := first | exact D | fail) only [go_sem, ↓reduceIte, seval]) | ((with_reducible refine hK _ ?_); clear hK K) | refine Q1 ?_ | ((with_reducible refine qW (T := TT) (b := ?_) ?_ ?_); rotate_left; exact rfl) | ((with_reducible refine yS ?_ ?_) <;> (intro h; try simp only [NM] at h)) | fail)
  rotate_left
  · simp -dsimp (disch := first | exact D | fail) only [retQ, Tryz.results27, resVals, cellRV, resOf, St.rest, St.freeze, RT, go_sem, ↓reduceIte, seval]
    have hn : ¬ a = b := fun e => by rw [e] at h; exact h rfl
    simp [hn]
  have hl : a.length = b.length := by omega
  refine AWP.loop (ι := {k : Nat // k ≤ a.length ∧ a.take k = b.take k}) (fun k => ⟨32, [(1, .v (.one (eTbls b))), (2, .v (.one (.clo 36 []))), (15, .v (.one (eTbls a))), (16, .v (oI a.length)), (17, .v (oI k.1))], [], []⟩) (fun k => a.length - k.1) ⟨0, Nat.zero_le _, rfl⟩ ?_ fun ⟨k, hkl, hi⟩ => ?_
  · refine St.le_mk ?_ ?_ ?_ <;> simp only [LE, EN, Nat.reduceEqDiff, reduceIte, Nat.reduceSub]
  rcases Nat.lt_or_ge k a.length with hc | hc
  · have hb : k < b.length := by omega
    repeat' (first | ((first | with_reducible refine qV tyOk fun K hK => ?_ | ((with_reducible refine CallJ.is ?_); (refine CallJ.pure (equalTables_sat a[k] b[k] (h3 _ (List.getElem_mem hc)).1 (h4 _ (List.getElem_mem hb)) (h3 _ (List.getElem_mem hc)).2) ?_))) <;> simp -dsimp (disch := first | exact D | fail) only [go_sem, ↓reduceIte, seval]) | ((with_reducible refine hK _ ?_); clear hK K) | refine Q1 ?_ | ((with_reducible refine qW (T := TT) (b := ?_) ?_ ?_); rotate_left; exact rfl) | ((with_reducible refine yS ?_ ?_) <;> (intro h; try simp only [NM] at h)) | fail)
    all_goals first
      | (refine ⟨⟨k + 1, by omega, take_eq_succ hc hb hi ‹_›⟩, by simp only; omega, ?_⟩
         refine St.le_mk ?_ ?_ ?_ <;> simp only [LE, EN, Nat.reduceEqDiff, reduceIte, Nat.reduceSub]
         done)
      | (have hn : ¬ a = b := fun e => ‹¬ _› (get_of_eq hc hb e)
         simp -dsimp (disch := first | exact D | fail) only [retQ, Tryz.results27, resVals, cellRV, resOf, St.rest, St.freeze, RT, go_sem, ↓reduceIte, seval]
         simp [hn])
  · have hk : a = b := by
      rw [List.take_of_length_le (by omega), List.take_of_length_le (by omega)] at hi
      exact hi
    repeat' (first | ((with_reducible refine qV tyOk fun K hK => ?_) <;> simp -dsimp (disch := first | exact D | fail) only [go_sem, ↓reduceIte, seval]) | ((with_reducible refine hK _ ?_); clear hK K) | refine Q1 ?_ | ((with_reducible refine qW (T := TT) (b := ?_) ?_ ?_); rotate_left; exact rfl) | fail)
    simp -dsimp (disch := first | exact D | fail) only [retQ, Tryz.results27, resVals, cellRV, resOf, St.rest, St.freeze, RT, go_sem, ↓reduceIte, seval]
    simp [hk]

set_option maxHeartbeats 8000000 in
theorem schEqual_sat (a b:Sch) (ha:a.Fits) (hb:b.Fits):Sat Tryz.prog 18 [.agg (eSch a),.agg (eSch b)] (.v (oB (decide (a=b)))):=by
 have sp:decide (a=b)=(decide (a.tables=b.tables)&&(decide (a.fks=b.fks)&&decide (a.cons=b.cons))):=by
  rw [Bool.eq_iff_iff]
  simp only [Bool.and_eq_true,decide_eq_true_eq]
  constructor
  ·rintro rfl;exact ⟨rfl,rfl,rfl⟩
  ·rintro ⟨h1,h2,h3⟩;cases a;cases b;simp_all
 rw [sp]
 refine sS tyOk Tryz.func18 fun w0 m0 F0=>?_
 simp only [Tryz.ntmps18,envOf,Nat.reduceAdd]
 repeat' (first|((first|with_reducible refine qV tyOk fun K hK=>?_|refine Q2 ?_|((with_reducible refine qS ?_ ?_)<;>(intro h;try simp only [NM] at h))|((with_reducible refine CallJ.is ?_);(first|refine CallJ.pure (equalFuncTbl_sat a.tables b.tables ha.tables hb.tables ha.table (fun t ht=>(hb.table t ht).1)) ?_|refine CallJ.pure (equalFuncFK_sat a.fks b.fks ha.fks hb.fks ha.fk) ?_|refine CallJ.pure (equalCons_sat a.cons b.cons ha.cons hb.cons) ?_)))<;>simp -dsimp (disch:=first|exact D|fail) only [go_sem,↓reduceIte,seval])|((with_reducible refine hK _ ?_);clear hK K)|refine Q1 ?_|fail)
 all_goals simp -dsimp (disch:=first|exact D|fail) only [retQ,Tryz.results18,resVals,cellRV,resOf,St.rest,St.freeze,RT,go_sem,↓reduceIte,seval]
 all_goals simp_all
set_option maxRecDepth 100000 in
set_option maxHeartbeats 16000000 in
theorem stpEqual_sat (a b:Stp) (ha:a.Fits) (hb:b.Fits):Sat Tryz.prog 93 [.agg (eStp a),.agg (eStp b)] (.v (oB (decide (a=b)))):=by
 have a1:=ha.cols
 have a2:=ha.ncols
 have a3:=ha.npk
 have a4:=ha.fk
 have b2:=hb.ncols
 have c1:=equalInts_sat a.cols b.cols (by omega)
 have c2:=equalTables_sat a.newTable b.newTable (by omega) (by omega) (by omega)
 have c3:=equalFKs2_sat a.fk b.fk (by omega)
 have c4:Sat Tryz.prog 28 [.agg (eTbl a.newTable),.agg (eTbl b.newTable)] (.v (oB (decide (a.newTable=b.newTable)))):=by
  refine sS tyOk Tryz.func28 fun w0 m0 F0=>?_
  simp only [Tryz.ntmps28,envOf,Nat.reduceAdd]
  repeat' (first|((first|with_reducible refine qV tyOk fun K hK=>?_|((with_reducible refine CallJ.is ?_);(refine CallJ.pure (c2) ?_)))<;>simp -dsimp (disch:=first|exact D|fail) only [go_sem,↓reduceIte,seval])|((with_reducible refine hK _ ?_);clear hK K)|refine Q1 ?_|fail)
  simp -dsimp (disch:=first|exact D|fail) only [retQ,Tryz.results28,resVals,cellRV,resOf,St.rest,St.freeze,RT,go_sem,↓reduceIte,seval]
 simp only [eTbl] at c4
 simp only [eFK] at c3
 refine sS tyOk Tryz.func93 fun w0 m0 F0=>?_
 simp only [Tryz.ntmps93,envOf,Nat.reduceAdd]
 refine qA ?_
 refine qV tyOk fun K hK=>?_
 simp -dsimp (disch:=first|exact D|fail) only [go_sem,↓reduceIte,seval,eStp]
 refine hK _ (qB ?_)
 clear hK K
 refine qA ?_
 refine qV tyOk fun K hK=>?_
 simp only [List.append_eq,List.cons_append,List.nil_append]
 simp -dsimp (disch:=first|exact D|fail) only [go_sem,↓reduceIte,seval,eStp]
 repeat' (first|((first|refine Q2 ?_|((with_reducible refine qS ?_ ?_)<;>(intro h;try simp only [NM] at h))|((with_reducible refine CallJ.is ?_);(first|refine CallJ.pure (c1) ?_|refine CallJ.pure (c4) ?_|refine CallJ.pure (c3) ?_)))<;>simp -dsimp (disch:=first|exact D|fail) only [go_sem,↓reduceIte,seval,eStp])|((with_reducible refine hK _ ?_);clear hK K)|refine Q1 ?_|fail)
 all_goals simp -dsimp (disch:=first|exact D|fail) only [retQ,Tryz.results93,resVals,cellRV,resOf,St.rest,St.freeze,RT,go_sem,↓reduceIte,seval]
 all_goals
  by_cases he:a=b
  ·have he':=stp_eq.1 he
   simp only [he,decide_true]
   all_goals simp_all
  ·have he':=fun q=>he (stp_eq.2 q)
   simp only [he,decide_false]
   all_goals simp_all
theorem Sch.Fits.sub {s:Sch} (h:s.Fits) {fks:List FK} {cons:List Con} (hf:fks.Sublist s.fks) (hc:cons.Sublist s.cons):(⟨s.tables,fks,cons⟩:Sch).Fits :=
 ⟨h.tables,h.table,Nat.le_trans hf.length_le h.fks,fun f hf'=>h.fk f (hf.subset hf'),Nat.le_trans hc.length_le h.cons⟩
theorem okRel_iff (t:Tbl) (rows:List Row):OkRel t rows↔rows.length≤24∧(∀x∈rows,rowE t x=0)∧SR t rows:=by
 constructor
 ·rintro ⟨h1,h2,h3⟩
  refine ⟨h1,fun x hx=>?_,sr_of h3⟩
  obtain ⟨j,hj,rfl⟩:=List.mem_iff_getElem.1 hx
  exact h2 j hj
 ·rintro ⟨h1,h2,h3⟩
  exact ⟨h1,fun j hj=>h2 _ (List.getElem_mem hj),fun j hj=>sr_get h3 j hj⟩
theorem OkRel.sub {t:Tbl} {l rows:List Row} (h:OkRel t rows) (hs:l.Sublist rows):OkRel t l:=by
 obtain ⟨h1,h2,h3⟩:=(okRel_iff _ _).1 h
 exact (okRel_iff _ _).2 ⟨Nat.le_trans hs.length_le h1,fun x hx=>h2 x (hs.subset hx),List.Pairwise.sublist hs h3⟩
section
abbrev IntOk (n:Int):Prop:=(Lit.int .i64 n).wf=true
structure Val.Ok (v:Val):Prop where
 kind:IntOk v.kind
 int:IntOk v.int
 text:v.text.size≤reachBytes
structure Col.Ok (c:Col):Prop where
 name:c.name.size≤reachBytes
 kind:IntOk c.kind
structure Tbl.Ok (t:Tbl):Prop where
 name:t.name.size≤reachBytes
 cols:t.cols.length * 32≤reachBytes∧∀c∈t.cols,c.Ok
 pk:t.pk.length * 8≤reachBytes∧∀n∈t.pk,IntOk n
structure FK.Ok (f:FK):Prop where
 table:f.table.size≤reachBytes
 cols:f.cols.length * 8≤reachBytes∧∀n∈f.cols,IntOk n
 ref:f.ref.size≤reachBytes
structure Con.Ok (c:Con):Prop where
 table:c.table.size≤reachBytes
 left:IntOk c.left
 op:c.op.size≤reachBytes
 right:IntOk c.right
 value:c.value.Ok
structure Sch.Ok (s:Sch):Prop where
 tables:s.tables.length * 64≤reachBytes∧∀t∈s.tables,t.Ok
 fks:s.fks.length * 56≤reachBytes∧∀f∈s.fks,f.Ok
 cons:s.cons.length * 80≤reachBytes∧∀c∈s.cons,c.Ok
def Row.Ok (r:Row):Prop:=r.length * 32≤reachBytes∧∀v∈r,v.Ok
def RowsOk (rs:List Row):Prop:=rs.length * 24≤reachBytes∧∀r∈rs,Row.Ok r
structure Rel.Ok (r:Rel):Prop where
 table:r.table.size≤reachBytes
 rows:RowsOk r.rows
def InstOk (i:Inst):Prop:=i.length * 40≤reachBytes∧∀r∈i,r.Ok
structure Chg.Ok (c:Chg):Prop where
 kind:IntOk c.kind
 table:c.table.size≤reachBytes
 key:Row.Ok c.key
 row:Row.Ok c.row
variable {w:World}
theorem rd_I:Rd Tryz.prog w 3 (fun n=>[.int .i64 n]) IntOk:=rd_int Tryz.underlying3
theorem rd_S:Rd Tryz.prog w 9 (fun s=>[.str s]) fun s=>s.size≤reachBytes:=rd_string Tryz.underlying9
theorem cells_int:Tryz.prog.cellsOf 3=1:=by kernel_rfl
theorem cells_string:Tryz.prog.cellsOf 9=1:=by kernel_rfl
theorem cells_bool:Tryz.prog.cellsOf 4=1:=by kernel_rfl
theorem cells_Value:Tryz.prog.cellsOf 90=3:=by kernel_rfl
theorem cells_s_Column:Tryz.prog.cellsOf 72=1:=by kernel_rfl
theorem cells_Column:Tryz.prog.cellsOf 114=3:=by kernel_rfl
theorem cells_s_int:Tryz.prog.cellsOf 61=1:=by kernel_rfl
theorem cells_Table:Tryz.prog.cellsOf 74=3:=by kernel_rfl
theorem cells_s_Table:Tryz.prog.cellsOf 22=1:=by kernel_rfl
theorem cells_ForeignKey:Tryz.prog.cellsOf 86=3:=by kernel_rfl
theorem cells_s_ForeignKey:Tryz.prog.cellsOf 23=1:=by kernel_rfl
theorem cells_Constraint:Tryz.prog.cellsOf 92=7:=by kernel_rfl
theorem cells_s_Constraint:Tryz.prog.cellsOf 24=1:=by kernel_rfl
theorem cells_Schema:Tryz.prog.cellsOf 26=3:=by kernel_rfl
theorem bytes_int:Tryz.prog.bytesOf 3=8:=by kernel_rfl
theorem bytes_Column:Tryz.prog.bytesOf 114=32:=by kernel_rfl
theorem bytes_Table:Tryz.prog.bytesOf 74=64:=by kernel_rfl
theorem bytes_ForeignKey:Tryz.prog.bytesOf 86=56:=by kernel_rfl
theorem bytes_Constraint:Tryz.prog.bytesOf 92=80:=by kernel_rfl
theorem rd_val:Rd Tryz.prog w 90 eVal Val.Ok :=
 (rd_struct3 Tryz.underlying90 ⟨rfl,rfl,rfl⟩ ⟨cells_int,cells_int,cells_string⟩ cells_Value rd_I rd_I rd_S).to (fun p=>⟨p.1,p.2.1,p.2.2.1⟩) (fun _=>by simp [eVal]) fun _ h=>⟨h.1,h.2.1,h.2.2.1⟩
theorem rd_col:Rd Tryz.prog w 114 eCol Col.Ok :=
 (rd_struct3 Tryz.underlying114 ⟨rfl,rfl,rfl⟩ ⟨cells_string,cells_int,cells_bool⟩ cells_Column rd_S rd_I (rd_bool Tryz.underlying4)).to (fun p=>⟨p.1,p.2.1,p.2.2.1⟩) (fun _=>by simp [eCol]) fun _ h=>⟨h.1,h.2.1⟩
theorem rd_cols:Rd Tryz.prog w 72 (fun l=>[eCols l]) fun l=>l.length * 32≤reachBytes∧∀c∈l,Col.Ok c :=
 rd_slice Tryz.underlying72 cells_Column bytes_Column (fun _=>rfl) rd_col
theorem rd_ints:Rd Tryz.prog w 61 (fun l=>[eInts l]) fun l=>l.length * 8≤reachBytes∧∀c∈l,IntOk c :=
 rd_slice Tryz.underlying61 cells_int bytes_int (fun _=>rfl) (eβ:=eInt1) rd_I
theorem rd_tbl:Rd Tryz.prog w 74 eTbl Tbl.Ok :=
 (rd_struct3 Tryz.underlying74 ⟨rfl,rfl,rfl⟩ ⟨cells_string,cells_s_Column,cells_s_int⟩ cells_Table rd_S rd_cols rd_ints).to (fun p=>⟨p.1,p.2.1,p.2.2.1⟩) (fun _=>by simp [eTbl]) fun _ h=>⟨h.1,h.2.1,h.2.2.1⟩
theorem rd_tbls:Rd Tryz.prog w 22 (fun l=>[eTbls l]) fun l=>l.length * 64≤reachBytes∧∀c∈l,Tbl.Ok c :=
 rd_slice Tryz.underlying22 cells_Table bytes_Table (fun _=>rfl) rd_tbl
theorem rd_fk:Rd Tryz.prog w 86 eFK FK.Ok :=
 (rd_struct3 Tryz.underlying86 ⟨rfl,rfl,rfl⟩ ⟨cells_string,cells_s_int,cells_string⟩ cells_ForeignKey rd_S rd_ints rd_S).to (fun p=>⟨p.1,p.2.1,p.2.2.1⟩) (fun _=>by simp [eFK]) fun _ h=>⟨h.1,h.2.1,h.2.2.1⟩
theorem rd_fks:Rd Tryz.prog w 23 (fun l=>[eFKs l]) fun l=>l.length * 56≤reachBytes∧∀c∈l,FK.Ok c :=
 rd_slice Tryz.underlying23 cells_ForeignKey bytes_ForeignKey (fun _=>rfl) rd_fk
theorem rd_con:Rd Tryz.prog w 92 eCon Con.Ok :=
 (rd_struct5 Tryz.underlying92 ⟨rfl,rfl,rfl,rfl,rfl⟩ ⟨cells_string,cells_int,cells_string,cells_int,cells_Value⟩ cells_Constraint rd_S rd_I rd_S rd_I rd_val).to (fun p=>⟨p.1,p.2.1,p.2.2.1,p.2.2.2.1,p.2.2.2.2.1⟩) (fun _=>by simp [eCon,eVal]) fun _ h=>⟨h.1,h.2.1,h.2.2.1,h.2.2.2.1,h.2.2.2.2.1⟩
theorem rd_cons:Rd Tryz.prog w 24 (fun l=>[eCons l]) fun l=>l.length * 80≤reachBytes∧∀c∈l,Con.Ok c :=
 rd_slice Tryz.underlying24 cells_Constraint bytes_Constraint (fun _=>rfl) rd_con
theorem rd_sch:Rd Tryz.prog w 26 eSch Sch.Ok :=
 (rd_struct3 Tryz.underlying26 ⟨rfl,rfl,rfl⟩ ⟨cells_s_Table,cells_s_ForeignKey,cells_s_Constraint⟩ cells_Schema rd_tbls rd_fks rd_cons).to (fun p=>⟨p.1,p.2.1,p.2.2.1⟩) (fun _=>by simp [eSch]) fun _ h=>⟨h.1,h.2.1,h.2.2.1⟩
theorem reachBytes_eq:reachBytes=140737488351232:=rfl
theorem Sch.Ok.fits {s:Sch} (h:s.Ok):s.Fits:=by
 obtain ⟨⟨a1,a2⟩,⟨b1,b2⟩,⟨c1,c2⟩⟩:=h
 rw [reachBytes_eq] at a1 b1 c1
 refine ⟨by omega,fun t ht=>?_,by omega,fun f hf=>?_,by omega⟩
 ·obtain ⟨_,⟨h1,_⟩,⟨h2,_⟩⟩:=a2 t ht
  rw [reachBytes_eq] at h1 h2
  exact ⟨by omega,by omega⟩
 ·obtain ⟨_,⟨h1,_⟩,_⟩:=b2 f hf
  rw [reachBytes_eq] at h1
  omega
end
section
variable {w:World}
def InstFits (i:Inst):Prop:=i.length≤140737488355328∧∀r∈i,r.rows.length≤140737488355328∧∀x∈r.rows,x.length≤140737488355328
theorem InstOk.fits {i:Inst} (h:InstOk i):InstFits i:=by
 obtain ⟨a1,a2⟩:=h
 rw [reachBytes_eq] at a1
 refine ⟨by omega,fun r hr=>?_⟩
 obtain ⟨_,b1,b2⟩:=a2 r hr
 rw [reachBytes_eq] at b1
 refine ⟨by omega,fun x hx=>?_⟩
 obtain ⟨c1,_⟩:=b2 x hx
 rw [reachBytes_eq] at c1
 omega
end
theorem joinTables_satM (s:Sch) (i:Nat) (name:ByteArray) (hi:i<s.tables.length) (sm:SmallS s) (hpk:∀t∈s.tables,PkOk t) :
  SatM Tryz.prog 100 [.one (.ptr 1000 0),oI i,oS name] (iB s) (iR s) (.v (oI (rE (joinT s i name)))) (oBE (joinT s i name)) (oRE (joinT s i name)):=by
 cases hE:joinT s i name with
 | error e=>exact join_err s i name e hi sm hpk hE
 | ok R=>exact join_ok s i name R hi sm hpk hE
set_option maxHeartbeats 16000000 in
theorem evValidate_sat (st:Stp) (h:st.Fits):Sat Tryz.prog 75 [.agg (eStp st)] (.v (oI (evValE st))):=by
 have c1:=normalized_sat st
 have c2:=stpEqual_sat st (evNorm st) h (evNorm_fits h)
 by_cases k1:st.kind<1
 ·have spec:evValE st=3:=by unfold evValE;rw [if_pos (.inl k1)]
  rw [spec]
  obtain ⟨bx,hbx⟩:∃bx,eStp st=.int .i64 st.kind::bx:=⟨_,rfl⟩
  rw [hbx]
  refine sS tyOk Tryz.func75 fun w0 m0 F0=>?_
  simp only [Tryz.ntmps75,envOf,Nat.reduceAdd]
  repeat' (first|((first|with_reducible refine qV tyOk fun K hK=>?_|refine Q2 ?_|((with_reducible first|refine qS ?_ ?_|refine qT ?_ ?_|refine qU ?_ ?_)<;>(intro h;try simp only [NM] at h))|with_reducible refine yD tyOk mixed 6 (by kernel_rfl) fun K hK=>?_|((with_reducible refine CallJ.is ?_);(first|refine CallJ.pure (c1) ?_|refine CallJ.pure (c2) ?_|((apply CallJ.lentI);(focus (simp -dsimp (disch:=first|exact D|fail) only [go_sem,↓reduceIte,seval];rfl));(focus (first|exact (c1)|exact (c2))))))|((with_reducible refine CallH.is ?_);(first|refine CallH.intro (c1) ?_|refine CallH.intro (c2) ?_)))<;>simp -dsimp (disch:=first|exact D|fail) only [go_sem,↓reduceIte,seval])|((with_reducible refine hK _ ?_);clear hK K)|refine Q1 ?_|((with_reducible refine qW (T:=TT) (b:=?_) ?_ ?_);rotate_left;exact rfl)|((with_reducible refine yS ?_ ?_)<;>(intro h;try simp only [NM] at h)))
  simp -dsimp (disch:=first|exact D|fail) only [retQ,Tryz.results75,resVals,cellRV,resOf,St.rest,St.freeze,RT,go_sem,↓reduceIte,seval]
 by_cases k2:16<st.kind
 ·have spec:evValE st=3:=by unfold evValE;rw [if_pos (.inr (.inl k2))]
  rw [spec]
  obtain ⟨bx,hbx⟩:∃bx,eStp st=.int .i64 st.kind::bx:=⟨_,rfl⟩
  rw [hbx]
  refine sS tyOk Tryz.func75 fun w0 m0 F0=>?_
  simp only [Tryz.ntmps75,envOf,Nat.reduceAdd]
  repeat' (first|((first|with_reducible refine qV tyOk fun K hK=>?_|refine Q2 ?_|((with_reducible first|refine qS ?_ ?_|refine qT ?_ ?_|refine qU ?_ ?_)<;>(intro h;try simp only [NM] at h))|with_reducible refine yD tyOk mixed 6 (by kernel_rfl) fun K hK=>?_|((with_reducible refine CallJ.is ?_);(first|refine CallJ.pure (c1) ?_|refine CallJ.pure (c2) ?_|((apply CallJ.lentI);(focus (simp -dsimp (disch:=first|exact D|fail) only [go_sem,↓reduceIte,seval];rfl));(focus (first|exact (c1)|exact (c2))))))|((with_reducible refine CallH.is ?_);(first|refine CallH.intro (c1) ?_|refine CallH.intro (c2) ?_)))<;>simp -dsimp (disch:=first|exact D|fail) only [go_sem,↓reduceIte,seval])|((with_reducible refine hK _ ?_);clear hK K)|refine Q1 ?_|((with_reducible refine qW (T:=TT) (b:=?_) ?_ ?_);rotate_left;exact rfl)|((with_reducible refine yS ?_ ?_)<;>(intro h;try simp only [NM] at h)))
  simp -dsimp (disch:=first|exact D|fail) only [retQ,Tryz.results75,resVals,cellRV,resOf,St.rest,St.freeze,RT,go_sem,↓reduceIte,seval]
 by_cases k3:st=evNorm st
 ·have spec:evValE st=0:=by unfold evValE;rw [if_neg (by rintro (q|q|q);exact k1 q;exact k2 q;exact q k3)]
  rw [spec]
  rw [decide_eq_true k3] at c2
  refine sS tyOk Tryz.func75 fun w0 m0 F0=>?_
  simp only [Tryz.ntmps75,envOf,Nat.reduceAdd]
  repeat' (first|((first|with_reducible refine qV tyOk fun K hK=>?_|refine Q2 ?_|((with_reducible first|refine qS ?_ ?_|refine qT ?_ ?_|refine qU ?_ ?_)<;>(intro h;try simp only [NM] at h))|with_reducible refine yD tyOk mixed 6 (by kernel_rfl) fun K hK=>?_|((with_reducible refine CallJ.is ?_);(first|refine CallJ.pure (c1) ?_|refine CallJ.pure (c2) ?_|((apply CallJ.lentI);(focus (simp -dsimp (disch:=first|exact D|fail) only [go_sem,↓reduceIte,seval,eStp];rfl));(focus (first|exact (c1)|exact (c2))))))|((with_reducible refine CallH.is ?_);(first|refine CallH.intro (c1) ?_|refine CallH.intro (c2) ?_)))<;>simp -dsimp (disch:=first|exact D|fail) only [go_sem,↓reduceIte,seval,eStp])|((with_reducible refine hK _ ?_);clear hK K)|refine Q1 ?_|((with_reducible refine qW (T:=TT) (b:=?_) ?_ ?_);rotate_left;exact rfl)|((with_reducible refine yS ?_ ?_)<;>(intro h;try simp only [NM] at h)))
  simp -dsimp (disch:=first|exact D|fail) only [retQ,Tryz.results75,resVals,cellRV,resOf,St.rest,St.freeze,RT,go_sem,↓reduceIte,seval]
 ·have spec:evValE st=3:=by unfold evValE;rw [if_pos (.inr (.inr k3))]
  rw [spec]
  rw [decide_eq_false k3] at c2
  refine sS tyOk Tryz.func75 fun w0 m0 F0=>?_
  simp only [Tryz.ntmps75,envOf,Nat.reduceAdd]
  repeat' (first|((first|with_reducible refine qV tyOk fun K hK=>?_|refine Q2 ?_|((with_reducible first|refine qS ?_ ?_|refine qT ?_ ?_|refine qU ?_ ?_)<;>(intro h;try simp only [NM] at h))|with_reducible refine yD tyOk mixed 6 (by kernel_rfl) fun K hK=>?_|((with_reducible refine CallJ.is ?_);(first|refine CallJ.pure (c1) ?_|refine CallJ.pure (c2) ?_|((apply CallJ.lentI);(focus (simp -dsimp (disch:=first|exact D|fail) only [go_sem,↓reduceIte,seval,eStp];rfl));(focus (first|exact (c1)|exact (c2))))))|((with_reducible refine CallH.is ?_);(first|refine CallH.intro (c1) ?_|refine CallH.intro (c2) ?_)))<;>simp -dsimp (disch:=first|exact D|fail) only [go_sem,↓reduceIte,seval,eStp])|((with_reducible refine hK _ ?_);clear hK K)|refine Q1 ?_|((with_reducible refine qW (T:=TT) (b:=?_) ?_ ?_);rotate_left;exact rfl)|((with_reducible refine yS ?_ ?_)<;>(intro h;try simp only [NM] at h)))
  simp -dsimp (disch:=first|exact D|fail) only [retQ,Tryz.results75,resVals,cellRV,resOf,St.rest,St.freeze,RT,go_sem,↓reduceIte,seval]
structure Sz (s:Sch) (a b:Nat):Prop where
 tables:s.tables.length≤a
 table:∀t∈s.tables,t.cols.length≤b∧t.pk.length≤b
 fks:s.fks.length≤a
 fk:∀f∈s.fks,f.cols.length≤b
 cons:s.cons.length≤a
theorem Sz.mono {s:Sch} {a b a' b':Nat} (h:Sz s a b) (ha:a≤a') (hb:b≤b'):Sz s a' b' :=
 ⟨Nat.le_trans h.tables ha,fun t ht=>⟨Nat.le_trans (h.table t ht).1 hb,Nat.le_trans (h.table t ht).2 hb⟩,Nat.le_trans h.fks ha,fun f hf=>Nat.le_trans (h.fk f hf) hb,Nat.le_trans h.cons ha⟩
theorem SmallS.sz {s:Sch} (h:SmallS s):Sz s 8 6 :=
 ⟨Nat.le_trans h.tables (by decide),fun t ht=>⟨(h.table t ht).1,(h.table t ht).2.1⟩,h.fks,fun f hf=>(h.fk f hf).1,h.cons⟩
theorem Sz.fits {s:Sch} {a b:Nat} (h:Sz s a b) (ha:a≤140737488355328) (hb:b≤140737488355328):s.Fits :=
 ⟨Nat.le_trans h.tables ha,fun t ht=>⟨Nat.le_trans (h.table t ht).1 hb,Nat.le_trans (h.table t ht).2 hb⟩,Nat.le_trans h.fks ha,fun f hf=>Nat.le_trans (h.fk f hf) hb,Nat.le_trans h.cons ha⟩
theorem Sz.tAt {s:Sch} {a b:Nat} (h:Sz s a b) (i:Nat):(tAt s i).cols.length≤b∧(tAt s i).pk.length≤b:=by
 unfold Go.Bw.tAt
 rw [List.getD_eq_getElem?_getD]
 cases hx:s.tables[i]? with
 | none=>exact ⟨Nat.zero_le _,Nat.zero_le _⟩
 | some t=>exact h.table t (List.mem_of_getElem? hx)
theorem Sz.setT {s:Sch} {a b:Nat} (h:Sz s a b) (i:Nat) {t:Tbl} (ht:t.cols.length≤b∧t.pk.length≤b):Sz (setT s i t) a b :=
 ⟨by show (s.tables.set i t).length≤a;rw [List.length_set];exact h.tables,fun x hx=>by
  rcases List.mem_or_eq_of_mem_set (show x∈s.tables.set i t from hx) with hx|rfl
  ·exact h.table x hx
  ·exact ht,h.fks,h.fk,h.cons⟩
theorem Sz.remap {s:Sch} {a b:Nat} (h:Sz s a b) (n:ByteArray) (g:Int→Int):Sz (remapS s n g) a b :=
 ⟨h.tables,h.table,by show (s.fks.map _).length≤a;rw [List.length_map];exact h.fks,fun f hf=>by
  obtain ⟨x,hx,rfl⟩:=List.mem_map.1 (show f∈s.fks.map (remapFK n g) from hf)
  have:=h.fk x hx
  unfold remapFK
  split
  ·simpa using this
  ·exact this,by show (s.cons.map _).length≤a;rw [List.length_map];exact h.cons⟩
theorem Sz.removeC {s:Sch} {a b:Nat} (h:Sz s a b) (i:Nat) (r:List Int):Sz (removeC s i r) a b:=by
 unfold Go.Bw.removeC
 refine (h.setT i ?_).remap _ _
 have:=h.tAt i
 exact ⟨Nat.le_trans (dropAt_len r _ 0) this.1,by simpa using this.2⟩
theorem Sz.insertT {s:Sch} {a b:Nat} (h:Sz s a b) {t:Tbl} (ht:t.cols.length≤b∧t.pk.length≤b):Sz (insertT s t) (a+1) b:=by
 have hp:=ginsS_perm cmpT 0 (s.tables.length+1) (s.tables++[t])
 refine ⟨?_,fun x hx=>?_,Nat.le_succ_of_le h.fks,h.fk,Nat.le_succ_of_le h.cons⟩
 ·show (ginsS cmpT 0 (s.tables.length+1) (s.tables++[t])).length≤a+1
  rw [hp.length_eq,List.length_append,List.length_singleton]
  exact Nat.succ_le_succ h.tables
 ·have:=hp.mem_iff.1 (show x∈ginsS cmpT 0 (s.tables.length+1) (s.tables++[t]) from hx)
  rcases List.mem_append.1 this with hx|hx
  ·exact h.table x hx
  ·rw [List.mem_singleton.1 hx];exact ht
theorem Sz.removeT {s:Sch} {a b:Nat} (h:Sz s a b) (n:ByteArray):Sz (removeT s n) a b :=
 ⟨Nat.le_trans (List.length_filter_le _ _) h.tables,fun t ht=>h.table t (List.mem_filter.1 (show t∈s.tables.filter _ from ht)).1,Nat.le_trans (List.length_filter_le _ _) h.fks,fun f hf=>h.fk f (List.mem_filter.1 (show f∈s.fks.filter _ from hf)).1,Nat.le_trans (List.length_filter_le _ _) h.cons⟩
theorem mem_cut {α:Type} {l:List α} {k:Nat} {x:α} (h:x∈l.take k++l.drop (k+1)):x∈l:=by
 rcases List.mem_append.1 h with h|h
 ·exact List.mem_of_mem_take h
 ·exact List.mem_of_mem_drop h
theorem len_cut {α:Type} (l:List α) (k:Nat):(l.take k++l.drop (k+1)).length≤l.length:=by simp;omega
theorem Sz.mapFK {s:Sch} {a b:Nat} (h:Sz s a b) (g:FK→FK) (g':Con→Con) (hg:∀f,(g f).cols.length=f.cols.length):Sz ⟨s.tables,s.fks.map g,s.cons.map g'⟩ a b :=
 ⟨h.tables,h.table,by simpa using h.fks,fun f hf=>by
  obtain ⟨x,hx,rfl⟩:=List.mem_map.1 hf
  rw [hg]
  exact h.fk x hx,by simpa using h.cons⟩
theorem Sz.tbls {s:Sch} {a b:Nat} (h:Sz s a b) {ts:List Tbl} (h1:ts.length≤a) (h2:∀t∈ts,t.cols.length≤b∧t.pk.length≤b):Sz ⟨ts,s.fks,s.cons⟩ a b:=⟨h1,h2,h.fks,h.fk,h.cons⟩
theorem Sz.addFK {s:Sch} {a b:Nat} (h:Sz s a b) {l:List FK} {l':List Con} (h1:l.length≤8) (h2:∀f∈l,f.cols.length≤b) (h3:l'.length≤8):Sz ⟨s.tables,s.fks++l,s.cons++l'⟩ (a+8) b:=by
 have:=h.tables
 have:=h.fks
 have:=h.cons
 refine ⟨by simp only;omega,h.table,by simp only [List.length_append];omega,fun f hf=>?_,by simp only [List.length_append];omega⟩
 rcases List.mem_append.1 hf with hf|hf
 ·exact h.fk f hf
 ·exact h2 f hf
theorem evApply_sz {s:Sch} {st:Stp} {R:Sch} (sm:SmallS s) (h1:st.cols.length≤17592186044416) (h2:st.newTable.cols.length≤17592186044416) (h3:st.newTable.pk.length≤17592186044416) (h4:st.fk.cols.length≤17592186044416) (h:evApply s st=.ok R):Sz R 32 17592186044448:=by
 have z:=sm.sz
 have z0:Sz s 8 17592186044448:=z.mono (Nat.le_refl _) (by decide)
 unfold evApply at h
 by_cases k0:st.kind=13
 ·rw [if_pos k0] at h
  injection h with h;subst h
  have:=z0.addFK (l:=[]) (l':=[st.con]) (by simp) (fun f hf=>by cases hf) (by simp)
  rw [List.append_nil] at this
  exact this.mono (by decide) (Nat.le_refl _)
 rw [if_neg k0] at h
 by_cases k1:st.kind=14
 ·rw [if_pos k1] at h
  unfold dropCon at h
  simp only at h
  split at h
  ·cases h
  injection h with h;subst h
  exact ⟨Nat.le_trans z0.tables (by decide),z0.table,Nat.le_trans z0.fks (by decide),z0.fk,Nat.le_trans (len_cut _ _) (Nat.le_trans z0.cons (by decide))⟩
 rw [if_neg k1] at h
 by_cases k2:st.kind=15
 ·rw [if_pos k2] at h
  injection h with h;subst h
  have:=z0.addFK (l:=[st.fk]) (l':=[]) (by simp) (fun f hf=>by rw [List.mem_singleton.1 hf];omega) (by simp)
  rw [List.append_nil] at this
  exact this.mono (by decide) (Nat.le_refl _)
 rw [if_neg k2] at h
 by_cases k3:st.kind=16
 ·rw [if_pos k3] at h
  unfold dropFK at h
  simp only at h
  split at h
  ·cases h
  injection h with h;subst h
  exact ⟨Nat.le_trans z0.tables (by decide),z0.table,Nat.le_trans (len_cut _ _) (Nat.le_trans z0.fks (by decide)),fun f hf=>z0.fk f (mem_cut hf),Nat.le_trans z0.cons (by decide)⟩
 rw [if_neg k3] at h
 by_cases k4:st.kind=10
 ·rw [if_pos k4] at h
  unfold createT at h
  split at h
  ·cases h
  injection h with h;subst h
  exact (z0.insertT ⟨by omega,by omega⟩).mono (by decide) (Nat.le_refl _)
 rw [if_neg k4] at h
 simp only at h
 by_cases k5:tblAt s.tables st.table<0
 ·rw [if_pos k5] at h
  cases h
 rw [if_neg k5] at h
 generalize (tblAt s.tables st.table).toNat=i at h
 have ta:=z.tAt i
 by_cases k6:st.kind=4
 ·rw [if_pos k6] at h
  unfold renameT at h
  simp only at h
  split at h
  ·cases h
  injection h with h;subst h
  have:=(((z0.tbls (ts:=s.tables.take i++s.tables.drop (i+1)) (Nat.le_trans (len_cut _ _) z0.tables) (fun t ht=>z0.table t (mem_cut ht))).insertT (t:={tAt s i with name:=st.newName}) ⟨by simp only;omega,by simp only;omega⟩).mapFK (fun f=>{f with table:=ren (tAt s i).name st.newName f.table,ref:=ren (tAt s i).name st.newName f.ref}) (fun c=>{c with table:=ren (tAt s i).name st.newName c.table}) fun f=>rfl)
  exact this.mono (by decide) (Nat.le_refl _)
 rw [if_neg k6] at h
 by_cases k7:st.kind=6
 ·rw [if_pos k7] at h
  unfold splitT at h
  simp only at h
  split at h
  ·cases h
  split at h
  ·cases h
  split at h
  ·cases h
  injection h with h;subst h
  have a1:=(z0.mapFK (splitFK (tAt s i) st) (splitCon (tAt s i) st) (fun f=>by unfold splitFK;split<;>simp)).removeC i st.cols
  have a2:=a1.insertT (t:=⟨st.other,((tAt s i).pk++st.cols).map fun c=>(tAt s i).cols.getD c.toNat zCol,seqI (tAt s i).pk.length⟩) ⟨by simp only [List.length_map,List.length_append];omega,by simp only [seqI_len];omega⟩
  have a3:=a2.addFK (l:=[⟨st.other,seqI (tAt s i).pk.length,(tAt s i).name⟩]) (l':=[]) (by simp) (fun f hf=>by rw [List.mem_singleton.1 hf];simp only [seqI_len];omega) (by simp)
  rw [List.append_nil] at a3
  exact a3.mono (by decide) (Nat.le_refl _)
 rw [if_neg k7] at h
 by_cases k8:st.kind=7
 ·rw [if_pos k8] at h
  unfold joinT at h
  simp only at h
  split at h
  ·cases h
  split at h
  ·cases h
  split at h
  ·cases h
  split at h
  ·cases h
  rename_i s1 hd
  split at h
  ·cases h
  injection h with h;subst h
  have zd:Sz s1 8 17592186044448:=by
   unfold dropFK at hd
   simp only at hd
   split at hd
   ·cases hd
   injection hd with hd;subst hd
   exact ⟨z0.tables,z0.table,Nat.le_trans (len_cut _ _) z0.fks,fun f hf=>z0.fk f (mem_cut hf),z0.cons⟩
  have tb:=z.tAt (tblAt s.tables st.other).toNat
  have a1:=zd.remap st.other (joinG (tAt s i))
  have a2:=a1.setT i (t:={tAt s i with cols:=(tAt s i).cols++(tAt s (tblAt s.tables st.other).toNat).cols.drop (tAt s i).pk.length}) ⟨by simp only [List.length_append,List.length_drop];omega,by simp only;omega⟩
  have a3:=(a2.tbls (Nat.le_trans (len_cut _ (tblAt s.tables st.other).toNat) a2.tables) (fun t ht=>a2.table t (mem_cut ht))).mapFK (fun f=>{f with table:=ren st.other (tAt s i).name f.table}) (fun c=>{c with table:=ren st.other (tAt s i).name c.table}) fun f=>rfl
  exact a3.mono (by decide) (Nat.le_refl _)
 rw [if_neg k8] at h
 by_cases k9:st.kind=8
 ·rw [if_pos k9] at h
  unfold partT at h
  simp only at h
  split at h
  ·cases h
  split at h
  ·cases h
  split at h
  ·cases h
  split at h
  ·cases h
  split at h
  ·cases h
  split at h
  ·cases h
  injection h with h;subst h
  have f1:((s.fks.filter fun f=>sEq f.table (tAt s i).name).map fun f=>{f with table:=st.other}).length≤8:=by rw [List.length_map];exact Nat.le_trans (List.length_filter_le _ _) z0.fks
  have f2:((s.cons.filter fun c=>sEq c.table (tAt s i).name).map fun c=>{c with table:=st.other}).length≤8:=by rw [List.length_map];exact Nat.le_trans (List.length_filter_le _ _) z0.cons
  have a1:=z0.addFK f1 (fun f hf=>by
   obtain ⟨x,hx,rfl⟩:=List.mem_map.1 hf
   exact z0.fk x (List.mem_filter.1 hx).1) f2
  exact (a1.insertT (t:={tAt s i with name:=st.other}) ⟨by simp only;omega,by simp only;omega⟩).mono (by decide) (Nat.le_refl _)
 rw [if_neg k9] at h
 by_cases k10:st.kind=9
 ·rw [if_pos k10] at h
  unfold mergeT at h
  simp only at h
  split at h
  ·cases h
  split at h
  ·cases h
  split at h
  ·cases h
  injection h with h;subst h
  exact ((z0.setT i ⟨by simp only [List.length_append,List.length_cons,List.length_nil];omega,by simp only [List.length_append,List.length_cons,List.length_nil];omega⟩).removeT _).mono (by decide) (Nat.le_refl _)
 rw [if_neg k10] at h
 by_cases k11:st.kind=11
 ·rw [if_pos k11] at h
  unfold dropT at h
  split at h
  ·cases h
  injection h with h;subst h
  exact (z0.removeT _).mono (by decide) (Nat.le_refl _)
 rw [if_neg k11] at h
 by_cases k12:st.kind=12
 ·rw [if_pos k12] at h
  unfold concatC at h
  split at h
  ·simp only at h
   split at h
   ·cases h
   split at h
   ·cases h
   split at h
   ·cases h
   split at h
   ·cases h
   injection h with h;subst h
   rename_i x y _ _ _ _ _
   have a1:=z.removeC i [x,y]
   have ta1:=a1.tAt i
   exact ((a1.mono (Nat.le_refl _) (by decide:6≤17592186044448)).setT i ⟨by simp only [List.length_append,List.length_cons,List.length_nil];omega,by simp only;omega⟩).mono (by decide) (Nat.le_refl _)
  ·cases h
 rw [if_neg k12] at h
 by_cases k13:st.kind=1
 ·rw [if_pos k13] at h
  unfold addC at h
  simp only at h
  split at h
  ·cases h
  injection h with h;subst h
  exact (z0.setT i ⟨by simp only [List.length_append,List.length_cons,List.length_nil];omega,by simp only;omega⟩).mono (by decide) (Nat.le_refl _)
 ·rw [if_neg k13] at h
  unfold alterC at h
  simp only at h
  split at h
  ·cases h
  split at h
  ·split at h
   ·cases h
   injection h with h;subst h
   exact (z0.setT i ⟨by simp only [setC,List.length_set];omega,by simp only [setC];omega⟩).mono (by decide) (Nat.le_refl _)
  split at h
  ·cases h
  split at h
  ·injection h with h;subst h
   exact (z0.setT i ⟨by simp only [setC,List.length_set];omega,by simp only [setC];omega⟩).mono (by decide) (Nat.le_refl _)
  split at h
  ·cases h
  injection h with h;subst h
  exact (z0.removeC i _).mono (by decide) (Nat.le_refl _)
theorem join_scan {t o:Tbl} {e:Int}:∀{l:List Int} {k:Nat},scan (fun j c=>if (t.cols.getD c.toNat zCol).kind≠(o.cols.getD j zCol).kind then some 9 else none) l k=some e→e≠0:=by
 intro l k h
 exact scan_ne (fun k x e he=>by
  split at he
  ·injection he with he;omega
  ·cases he) h
theorem evApply_ne {s:Sch} {st:Stp} {e:Int} (h:evApply s st=.error e):e≠0:=by
 unfold evApply at h
 by_cases k0:st.kind=13
 ·rw [if_pos k0] at h;cases h
 rw [if_neg k0] at h
 by_cases k1:st.kind=14
 ·rw [if_pos k1] at h
  unfold dropCon at h
  simp only at h
  split at h
  ·injection h with h;omega
  ·cases h
 rw [if_neg k1] at h
 by_cases k2:st.kind=15
 ·rw [if_pos k2] at h;cases h
 rw [if_neg k2] at h
 by_cases k3:st.kind=16
 ·rw [if_pos k3] at h
  unfold dropFK at h
  simp only at h
  split at h
  ·injection h with h;omega
  ·cases h
 rw [if_neg k3] at h
 by_cases k4:st.kind=10
 ·rw [if_pos k4] at h
  unfold createT at h
  split at h
  ·injection h with h;omega
  ·cases h
 rw [if_neg k4] at h
 simp only at h
 by_cases k5:tblAt s.tables st.table<0
 ·rw [if_pos k5] at h;injection h with h;omega
 rw [if_neg k5] at h
 generalize (tblAt s.tables st.table).toNat=i at h
 by_cases k6:st.kind=4
 ·rw [if_pos k6] at h
  unfold renameT at h
  simp only at h
  split at h
  ·injection h with h;omega
  ·cases h
 rw [if_neg k6] at h
 by_cases k7:st.kind=6
 ·rw [if_pos k7] at h
  unfold splitT at h
  simp only at h
  split at h
  ·rename_i q;injection h with h;omega
  split at h
  ·injection h with h;omega
  split at h
  ·injection h with h;omega
  ·cases h
 rw [if_neg k7] at h
 by_cases k8:st.kind=7
 ·rw [if_pos k8] at h
  unfold joinT at h
  simp only at h
  split at h
  ·injection h with h;omega
  split at h
  ·injection h with h;omega
  split at h
  ·rename_i q;injection h with h;subst h;exact join_scan q
  split at h
  ·injection h with h;omega
  split at h
  ·injection h with h;omega
  ·cases h
 rw [if_neg k8] at h
 by_cases k9:st.kind=8
 ·rw [if_pos k9] at h
  unfold partT at h
  simp only at h
  split at h
  ·injection h with h;omega
  split at h
  ·rename_i q;injection h with h;omega
  split at h
  ·rename_i q;injection h with h;omega
  split at h
  ·injection h with h;omega
  split at h
  ·injection h with h;omega
  split at h
  ·injection h with h;omega
  ·cases h
 rw [if_neg k9] at h
 by_cases k10:st.kind=9
 ·rw [if_pos k10] at h
  unfold mergeT at h
  simp only at h
  split at h
  ·injection h with h;omega
  split at h
  ·injection h with h;omega
  split at h
  ·rename_i q;injection h with h;omega
  ·cases h
 rw [if_neg k10] at h
 by_cases k11:st.kind=11
 ·rw [if_pos k11] at h
  unfold dropT at h
  split at h
  ·injection h with h;omega
  ·cases h
 rw [if_neg k11] at h
 by_cases k12:st.kind=12
 ·rw [if_pos k12] at h
  unfold concatC at h
  split at h
  ·simp only at h
   split at h
   ·injection h with h;omega
   split at h
   ·injection h with h;omega
   split at h
   ·rename_i q;injection h with h;omega
   split at h
   ·rename_i q;injection h with h;omega
   ·cases h
  ·injection h with h;omega
 rw [if_neg k12] at h
 by_cases k13:st.kind=1
 ·rw [if_pos k13] at h
  unfold addC at h
  simp only at h
  split at h
  ·rename_i q;injection h with h;omega
  ·cases h
 rw [if_neg k13] at h
 unfold alterC at h
 simp only at h
 split at h
 ·injection h with h;omega
 split at h
 ·split at h
  ·injection h with h;omega
  ·cases h
 split at h
 ·rename_i q;injection h with h;omega
 split at h
 ·cases h
 split at h
 ·rename_i q;injection h with h;omega
 ·cases h
def sOut:Res→Sch
 | .error _=>⟨[],[],[]⟩
 | .ok t=>t
theorem evoE_ne {s:Sch} {st:Stp} {e:Int} (h:evoE s st=.error e):e≠0:=by
 unfold evoE at h
 split at h
 ·rename_i q;injection h with h;rw [←h];exact q
 split at h
 ·rename_i q;injection h with h;rw [←h];exact q
 split at h
 ·rename_i q;injection h with h;rw [←h];exact evApply_ne q
 split at h
 ·rename_i q;injection h with h;rw [←h];exact q
 ·cases h
theorem Small.fits {s:Sch} (h:Small s):s.Fits :=
 ⟨by have:=h.tables;omega,fun t ht=>by have:=h.table t ht;omega,by have:=h.fks;omega,fun f hf=>by have:=h.fk f hf;omega,by have:=h.cons;omega⟩
theorem goS_ne:∀{l:List Stp} {acc:List Sch} {e:Int},goS acc l=.error e→e≠0
 | [],acc,e,h=>by cases h
 | st::r,acc,e,h=>by
  rw [goS] at h
  split at h
  ·rename_i q;injection h with h;rw [←h];exact evoE_ne q
  ·exact goS_ne h
theorem scrSchemas_ne {s:Sch} {l:List Stp} {e:Int} (h:scrSchemas s l=.error e):e≠0:=by
 unfold scrSchemas at h
 split at h
 ·injection h with h;omega
 split at h
 ·rename_i q;injection h with h;rw [←h];exact q
 ·exact goS_ne h
theorem scrApply_ne {s:Sch} {l:List Stp} {e:Int} (h:scrApply s l=.error e):e≠0:=by
 unfold scrApply at h
 split at h
 ·rename_i q;injection h with h;rw [←h];exact scrSchemas_ne q
 ·cases h
structure Edg.Fits (e:Edg):Prop where
 len:e.steps.length≤140737488355328
 step:∀st∈e.steps,st.Fits
structure Gr.Fits (g:Gr):Prop where
 base:g.base.Fits
 len:g.edges.length≤140737488355328
 edge:∀e∈g.edges,e.Fits
theorem goG_ne:∀{l:List Edg} {acc:List Sch} {e:Int},goG acc l=.error e→e≠0
 | [],acc,e,h=>by cases h
 | st::r,acc,e,h=>by
  rw [goG] at h
  split at h
  ·injection h with h;omega
  split at h
  ·rename_i q;injection h with h;rw [←h];exact scrApply_ne q
  ·exact goG_ne h
theorem verSchemas_ne {g:Gr} {e:Int} (h:verSchemas g=.error e):e≠0:=by
 unfold verSchemas at h
 split at h
 ·injection h with h;omega
 split at h
 ·rename_i q;injection h with h;rw [←h];exact q
 ·exact goG_ne h
theorem verSchema_ne {g:Gr} {v:Int} {e:Int} (h:verSchema g v=.error e):e≠0:=by
 unfold verSchema at h
 split at h
 ·rename_i q;injection h with h;rw [←h];exact verSchemas_ne q
 ·split at h
  ·injection h with h;omega
  ·cases h
theorem gr0_fits:gr0.Fits:=by
 refine ⟨(small_of sch0).fits,by simp [gr0],fun e he=>?_⟩
 have:e=zEdg:=by simpa [gr0] using he
 subst this
 exact ⟨by simp [zEdg],fun s hs=>by cases hs⟩
set_option maxHeartbeats 8000000 in
theorem equalFuncSchs_sat (a b:List Sch) (h1:a.length≤140737488355328) (h2:b.length≤140737488355328) (h3:∀s∈a,s.Fits) (h4:∀s∈b,s.Fits) :
  Sat Tryz.prog 17 [.one (eSchs a),.one (eSchs b),.one (.clo 18 [])] (.v (oB (decide (a=b)))):=by
 unfold eSchs
 refine sS tyOk Tryz.func17 fun w0 m0 F0=>?_
 simp only [Tryz.ntmps17,envOf,Nat.reduceAdd]
 repeat' (first|((with_reducible refine qV tyOk fun K hK=>?_)<;>simp -dsimp (disch:=first|exact D|fail) only [go_sem,↓reduceIte,seval])|((with_reducible refine hK _ ?_);clear hK K)|refine Q1 ?_|((with_reducible refine qW (T:=TT) (b:=?_) ?_ ?_);rotate_left;exact rfl)|((with_reducible refine yS ?_ ?_)<;>(intro h;try simp only [NM] at h))|fail)
 rotate_left
 ·simp -dsimp (disch:=first|exact D|fail) only [retQ,Tryz.results17,resVals,cellRV,resOf,St.rest,St.freeze,RT,go_sem,↓reduceIte,seval]
  have hn:¬ a=b:=fun e=>by rw [e] at h;exact h rfl
  simp [hn]
 have hl:a.length=b.length:=by omega
 refine AWP.loop (ι:={k:Nat // k≤a.length∧a.take k=b.take k}) (fun k=>⟨32,[(1,.v (.one (.sl 3 (b.map eSch)))),(2,.v (.one (.clo 18 []))),(15,.v (.one (.sl 3 (a.map eSch)))),(16,.v (oI a.length)),(17,.v (oI k.1))],[],[]⟩) (fun k=>a.length - k.1) ⟨0,Nat.zero_le _,rfl⟩ ?_ fun ⟨k,hkl,hi⟩=>?_
 ·refine St.le_mk ?_ ?_ ?_<;>simp only [LE,EN,Nat.reduceEqDiff,reduceIte,Nat.reduceSub]
 simp only at hkl hi ⊢
 rcases Nat.lt_or_ge k a.length with hc|hc
 ·have hb:k<b.length:=by omega
  have g1:(a.map eSch).getD k []=eSch a[k]:=getD_map_lt _ _ _ hc
  have g2:(b.map eSch).getD k []=eSch b[k]:=getD_map_lt _ _ _ hb
  have c:=schEqual_sat a[k] b[k] (h3 _ (List.getElem_mem hc)) (h4 _ (List.getElem_mem hb))
  by_cases he:a[k]=b[k]
  ·rw [decide_eq_true he] at c
   repeat' (first|((first|with_reducible refine qV tyOk fun K hK=>?_|((with_reducible refine CallJ.is ?_);(refine CallJ.pure (c) ?_)))<;>simp -dsimp (disch:=first|exact D|fail) only [go_sem,↓reduceIte,seval,g1,g2,eSch,Option.getD_none])|((with_reducible refine hK _ ?_);clear hK K)|refine Q1 ?_|((with_reducible refine qW (T:=TT) (b:=?_) ?_ ?_);rotate_left;exact rfl)|fail)
   refine ⟨⟨k+1,by omega,take_eq_succ hc hb hi he⟩,by simp only;omega,?_⟩
   refine St.le_mk ?_ ?_ ?_<;>simp only [LE,EN,Nat.reduceEqDiff,reduceIte,Nat.reduceSub]
  ·rw [decide_eq_false he] at c
   have hn:¬ a=b:=fun e=>he (get_of_eq hc hb e)
   rw [decide_eq_false hn]
   repeat' (first|((first|with_reducible refine qV tyOk fun K hK=>?_|((with_reducible refine CallJ.is ?_);(refine CallJ.pure (c) ?_)))<;>simp -dsimp (disch:=first|exact D|fail) only [go_sem,↓reduceIte,seval,g1,g2,eSch,Option.getD_none])|((with_reducible refine hK _ ?_);clear hK K)|refine Q1 ?_|((with_reducible refine qW (T:=TT) (b:=?_) ?_ ?_);rotate_left;exact rfl)|fail)
   simp -dsimp (disch:=first|exact D|fail) only [retQ,Tryz.results17,resVals,cellRV,resOf,St.rest,St.freeze,RT,go_sem,↓reduceIte,seval]
 ·have hk:a=b:=by
   rw [List.take_of_length_le (by omega),List.take_of_length_le (by omega)] at hi
   exact hi
  repeat' (first|((with_reducible refine qV tyOk fun K hK=>?_)<;>simp -dsimp (disch:=first|exact D|fail) only [go_sem,↓reduceIte,seval])|((with_reducible refine hK _ ?_);clear hK K)|refine Q1 ?_|((with_reducible refine qW (T:=TT) (b:=?_) ?_ ?_);rotate_left;exact rfl)|fail)
  simp -dsimp (disch:=first|exact D|fail) only [retQ,Tryz.results17,resVals,cellRV,resOf,St.rest,St.freeze,RT,go_sem,↓reduceIte,seval]
  simp [hk]
section
structure Stp.Ok (s:Stp):Prop where
 cols:s.cols.length * 8≤reachBytes
 ncols:s.newTable.cols.length * 32≤reachBytes
 npk:s.newTable.pk.length * 8≤reachBytes
 fk:s.fk.cols.length * 8≤reachBytes
theorem Stp.Ok.fits {s:Stp} (h:s.Ok):s.Fits:=by
 obtain ⟨h1,h2,h3,h4⟩:=h
 rw [reachBytes_eq] at h1 h2 h3 h4
 exact ⟨by omega,by omega,by omega,by omega⟩
variable {w:World}
theorem cells_Step:Tryz.prog.cellsOf 117=24:=by kernel_rfl
theorem cells_s_Step:Tryz.prog.cellsOf 43=1:=by kernel_rfl
theorem bytes_Step:Tryz.prog.bytesOf 117=352:=by kernel_rfl
theorem rd_stp:Rd Tryz.prog w 117 eStp Stp.Ok :=
 (rd_struct Tryz.underlying117 (by kernel_rfl) (rdF_cons rfl cells_int rd_I (rdF_cons rfl cells_string rd_S (rdF_cons rfl cells_string rd_S (rdF_cons rfl cells_string rd_S (rdF_cons rfl cells_string rd_S (rdF_cons rfl cells_int rd_I
  (rdF_cons rfl cells_s_int rd_ints (rdF_cons rfl cells_string rd_S (rdF_cons rfl cells_Value rd_val (rdF_cons rfl cells_Table rd_tbl (rdF_cons rfl cells_Constraint rd_con (rdF_cons rfl cells_ForeignKey rd_fk rdF_nil))))))))))))).to
  (fun p=>⟨p.1,p.2.1,p.2.2.1,p.2.2.2.1,p.2.2.2.2.1,p.2.2.2.2.2.1,p.2.2.2.2.2.2.1,p.2.2.2.2.2.2.2.1,p.2.2.2.2.2.2.2.2.1,p.2.2.2.2.2.2.2.2.2.1,p.2.2.2.2.2.2.2.2.2.2.1,p.2.2.2.2.2.2.2.2.2.2.2.1⟩)
  (fun _=>by simp [eStp,eVal,eTbl,eCon,eFK,eInts,eCols]) fun _ h=>by
   obtain ⟨_,_,_,_,_,_,⟨h1,_⟩,_,_,h2,_,h3,_⟩:=h
   obtain ⟨_,⟨k1,_⟩,⟨k2,_⟩⟩:=h2
   obtain ⟨_,⟨k3,_⟩,_⟩:=h3
   exact ⟨h1,k1,k2,k3⟩
theorem rd_scr:Rd Tryz.prog w 43 (fun l=>[eScr l]) fun l=>l.length * 352≤reachBytes∧∀c∈l,Stp.Ok c :=
 rd_slice Tryz.underlying43 cells_Step bytes_Step (fun _=>rfl) rd_stp
structure Edg.Ok (e:Edg):Prop where
 steps:e.steps.length * 352≤reachBytes∧∀c∈e.steps,Stp.Ok c
theorem Edg.Ok.fits {e:Edg} (h:e.Ok):e.Fits:=by
 have h1:=h.steps.1
 rw [reachBytes_eq] at h1
 exact ⟨by omega,fun st hs=>(h.steps.2 st hs).fits⟩
theorem cells_Edge:Tryz.prog.cellsOf 49=2:=by kernel_rfl
theorem cells_s_Edge:Tryz.prog.cellsOf 27=1:=by kernel_rfl
theorem bytes_Edge:Tryz.prog.bytesOf 49=32:=by kernel_rfl
theorem rd_edg:Rd Tryz.prog w 49 eEdg Edg.Ok :=
 (rd_struct2 Tryz.underlying49 ⟨rfl,rfl⟩ ⟨cells_int,cells_s_Step⟩ cells_Edge rd_I rd_scr).to (fun p=>⟨p.1,p.2.1⟩) (fun _=>by simp [eEdg]) fun _ h=>⟨h.2.1⟩
theorem rd_edgs:Rd Tryz.prog w 27 (fun l=>[eEdgs l]) fun l=>l.length * 32≤reachBytes∧∀c∈l,Edg.Ok c :=
 rd_slice Tryz.underlying27 cells_Edge bytes_Edge (fun _=>rfl) rd_edg
structure Gr.Ok (g:Gr):Prop where
 base:g.base.Ok
 edges:g.edges.length * 32≤reachBytes∧∀c∈g.edges,Edg.Ok c
theorem Gr.Ok.fits {g:Gr} (h:g.Ok):g.Fits:=by
 have h1:=h.edges.1
 rw [reachBytes_eq] at h1
 exact ⟨h.base.fits,by omega,fun e he=>(h.edges.2 e he).fits⟩
theorem cells_Graph:Tryz.prog.cellsOf 29=4:=by kernel_rfl
theorem rd_gr:Rd Tryz.prog w 29 eGr Gr.Ok :=
 (rd_struct2 Tryz.underlying29 ⟨rfl,rfl⟩ ⟨cells_Schema,cells_s_Edge⟩ cells_Graph rd_sch rd_edgs).to (fun p=>⟨p.1,p.2.1⟩) (fun _=>by simp [eGr,eSch]) fun _ h=>⟨h.1,h.2.1⟩
end
end Go.Bw
