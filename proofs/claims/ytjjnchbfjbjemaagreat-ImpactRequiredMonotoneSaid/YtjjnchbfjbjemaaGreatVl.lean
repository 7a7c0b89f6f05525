/-
  WHAT IS PROVED HERE, of this translation: validateTable_sat, validateFK_sat, default_sat, same_satX.
  A theorem that ends in sat says what the function it names returns, whatever the state it is called in; the bounds on its arguments stand ahead of it.
-/
import Derived.Test.YtjjnchbfjbjemaaGreatVi
set_option linter.unusedSimpArgs false
set_option linter.unusedVariables false
namespace Go.Bw
open Go.Proofs
attribute [local go_sem ↓] VOps_nil VOps_cons VOp_callJ VVal_callH VOps_guard GOn_tt GOn_ff GOn_tf GOn_ft GOn_not GOn_none HOn_none HOn_tt HOn_ff HOn_tf HOn_ft HOn_not VHead_nil VHead_cons VHead_guard VVal_move VVal_assign VVal_pickE pickK_true pickK_false VVal_not VVal_neg negK_int VVal_load loadK_fz loadK_ptr loadK_eptr VVal_fieldAddr VVal_field VVal_indexAddr idxK_sl idxK_ref VVal_index indexK_str VVal_extract VVal_binOp binK_one binK_agg VVal_build VVal_buildSlice VVal_makeFunc VVal_slice sliceK_str sliceK_sl sliceK_nil sliceK_ref VVal_slice3 VVal_nilCheck VVal_convert convKk_int convKk_str VVal_len VVal_max VVal_min VOp_assign assignK_int assignK_bool assignK_str assignK_clo assignK_sl assignK_nil assignK_ref assignK_agg assignK_fz assignK_ptr assignK_eptr assignK_any VOp_box VOp_alloc VOp_store storeK_ptr storeK_eptr VOp_buildSlice VOp_append appK_rr appK_rs appK_rn appK_ri appK_nr appK_ns appK_nn appK_ni appStd_eq VOp_copy copyK_ref VOp_clear clearK_ref VOp_cap VOp_eqNil VOp_move VOp_pick VOp_not VOp_neg VOp_load VOp_fieldAddr VOp_field VOp_indexAddr VOp_index VOp_extract VOp_binTmp VOp_binInt VOp_binStr VOp_binPtr VOp_build VOp_makeFunc VOp_slice VOp_nilCheck VOp_convert VOp_len VOp_max VOp_min mO_some mT_some pk_some pk_none look_cons del_cons
attribute [local go_sem] guardB gOf int_bne beq_true beq_false Bool.not_not gSlot pickK_true pickK_false negK_int loadK_fz loadK_ptr loadK_eptr idxK_sl idxK_ref indexK_str binK_one binK_agg sliceK_str sliceK_sl sliceK_nil sliceK_ref convKk_int convKk_str maxL minL assignK_int assignK_bool assignK_str assignK_clo assignK_sl assignK_nil assignK_ref assignK_agg assignK_fz assignK_ptr assignK_eptr assignK_any nilRow_eq takeRow_eq appended_eq storeK_ptr storeK_eptr store_mk appIn_eq appMk_eq marked_eq ovOut_nil ovOut_cons ovIn_nil ovIn_cons padRow_eq ysC capK_nil capK_ref ioSt_mk outB_nil outR_nil outB outR inB_nil inB_cons inR_nil inR_cons L.kl L.kl0 L.ids L.ids0 Option.getD_some evalO constA mO_some mT_some put_mk putO_some putO_none okD_some okD_none pk_some pk_none look_nil del_nil sput noBox_mk noRow_mk newBox_eq newRow0_eq St.killRow RowC.kill rowMap_mk rowOf ovAll ovAdd ovDel ovGet ovShift dstOf ysOf overlay_nil overlay_nil' overlay A.map V.map L.noPtr L.noPtr0 L.noRow L.noRow0 L.peek L.norm L.flat clos_int clos_bool clos_str clos_sl clos_nil clos_any clos_fz L.clos L.isFz L.kd moveL fieldOff eqCells eqCell eqOp oneOf boolOf intOfA tupOf vOf aggOf isPtrLike isSlice lenKind lenL nL elemTI loadV asV binL intBin intDivL shrL boolBin strBin strAdd ptrNil boundN partCells fillL placesOf setL chunks repL capsOf capL callOf argsOf frzV_int frzV_bool frzV_str frzV_sl frzV_nil frzV_fz frzV_any frzV_own frzV_clo frzV_ref frzV_eptr frzV_ptr frzRow_nil frzRow_ov frzRs_nil frzRs_cons frzCs_nil frzCs_cons frzO_some frzO_none frzN_int frzN_bool frzN_str frzN_sl frzN_nil frzN_any frzN_own List.map_cons List.map_nil List.cons_append List.nil_append List.append_nil List.length_cons List.length_nil List.length_map List.length_append List.headD_cons List.tail_cons List.getElem?_cons_zero List.getElem?_cons_succ List.drop_zero List.drop_succ_cons List.drop_nil List.take_succ_cons List.take_zero List.take_nil List.take_length List.filter_cons List.filter_nil List.elem_cons List.elem_nil List.all_cons List.all_nil Option.bind_some Option.map_some Option.some.injEq bne_self_eq_false beq_self_eq_true if_true if_false Bool.false_eq_true true_and and_true and_self Nat.zero_add Nat.add_zero Nat.zero_le Int.toNat_natCast Int.toNat_zero Option.isSome_some List.getElem?_toArray decide_true decide_false ge_iff_le gt_iff_lt Bool.not_true Bool.not_false Nat.le_refl Bool.and_true Bool.true_and Bool.and_false Bool.false_and eVal eRow eRow1 eRows eInt1 eInts eCol eCols eTbl eTbls eFK eFKs eCon eCons eSch eRel eInst eChg eChgs szOf getD_map_lt wrap_nat wrap_in List.take_of_length_le frz_eVal frz_eRow1 frz_eInt1 frz_eCol frz_eTbl frz_eFK frz_eCon frz_eRel frz_eChg noOwn_nil noOwn_cons noOwn_append L.isOwn noOwn_eVal noOwn_eRow1 noOwn_eInt1 noOwn_eCol noOwn_eTbl noOwn_eFK noOwn_eCon noOwn_eRel noOwn_eChg convK_2 convK_3 convK_5 convK_12 convK_21 convK_32 convK_95 convK_119 convK_122 convK_152 convK_169 TT_2 TT_3 TT_4 TT_5 TT_9 TT_12 TT_13 TT_21 TT_22 TT_23 TT_24 TT_25 TT_26 TT_27 TT_28 TT_29 TT_31 TT_32 TT_36 TT_37 TT_42 TT_43 TT_44 TT_48 TT_49 TT_56 TT_61 TT_72 TT_73 TT_74 TT_85 TT_86 TT_89 TT_90 TT_91 TT_92 TT_95 TT_98 TT_113 TT_114 TT_116 TT_117 TT_119 TT_122 TT_145 TT_152 TT_169 boolTy_4 eqK_37 eqK_90 eqK_92 eqK_114
attribute [local congr] VOps.congr VHead.congr VOp.congr VVal.congr pk.congr assignK.congr appK.congr appStd.congr copyK.congr clearK.congr storeK.congr loadK.congr idxK.congr sliceK.congr indexK.congr binK.congr convKk.congr
set_option maxHeartbeats 8000000 in
theorem validateTable_sat (t : Tbl) (h1 : t.cols.length ≤ 140737488355328) (h2 : t.pk.length ≤ 140737488355328) : Sat Tryz.prog 46 [.agg (eTbl t)] (.v (oI (tblE t))) := by
  refine sS tyOk Tryz.func46 fun w0 m0 F0 => ?_
  simp only [Tryz.ntmps46, envOf, Nat.reduceAdd]
  repeat' (first | ((first | with_reducible refine qV tyOk fun K hK => ?_ | ((with_reducible refine CallJ.is ?_); (refine CallJ.pure (validName_sat _) ?_))) <;> simp -dsimp (disch := first | exact D | fail) only [go_sem, ↓reduceIte, seval]) | ((with_reducible refine hK _ ?_); clear hK K) | refine Q1 ?_ | ((with_reducible refine qW (T := TT) (b := ?_) ?_ ?_); rotate_left; exact rfl) | ((with_reducible refine yS ?_ ?_) <;> (intro h; try simp only [NM] at h)) | fail)
  all_goals first
    | (
       simp -dsimp (disch := first | exact D | fail) only [retQ, Tryz.results46, resVals, cellRV, resOf, St.rest, St.freeze, RT, go_sem, ↓reduceIte, seval]
       simp [tblE, *]
       done)
    | (
       simp -dsimp (disch := first | exact D | fail) only [retQ, Tryz.results46, resVals, cellRV, resOf, St.rest, St.freeze, RT, go_sem, ↓reduceIte, seval]
       first
         | (have : t.cols.length = 0 := by omega
            simp [tblE, *]
            done)
         | (have h0 : t.cols.length ≠ 0 := by omega
            have : 6 < t.cols.length := by omega
            simp [tblE, *]
            done))
    | skip
  have h0 : t.cols.length ≠ 0 := by omega
  have h6 : ¬ 6 < t.cols.length := by omega
  have spec : tblE t = match scan (colE t) t.cols 0 with
    | some e => e
    | none => match scan (pkE t) t.pk 0 with
      | some e => e
      | none => if t.pk.length = 0 then 9 else 0 := by simp [tblE, *] <;> rfl
  rw [spec]
  refine AWP.loop (ι := {k : Nat // k ≤ t.cols.length ∧ scan (colE t) (t.cols.drop k) k = scan (colE t) t.cols 0}) (fun k => ⟨96, [(1, .v (.one (.ptr 1 0))), (22, .v (.one (eCols t.cols))), (23, .v (oI t.cols.length)), (24, .v (oI k.1))], [(1, eTbl t)], []⟩) (fun k => t.cols.length - k.1) ⟨0, Nat.zero_le _, rfl⟩ ?_ fun ⟨k, hkl, hi⟩ => ?_
  · refine St.le_mk ?_ ?_ ?_ <;> simp only [LE, EN, Nat.reduceEqDiff, reduceIte, Nat.reduceSub]
  repeat' (first | ((first | with_reducible refine qV tyOk fun K hK => ?_ | refine Q2 ?_ | ((with_reducible refine qS ?_ ?_) <;> (intro h; try simp only [NM] at h)) | ((with_reducible refine CallJ.is ?_); (first | refine CallJ.pure (validName_sat _) ?_ | refine CallJ.pure (findColumn_sat t _ h1) ?_))) <;> simp -dsimp (disch := first | exact D | fail) only [go_sem, ↓reduceIte, seval]) | ((with_reducible refine hK _ ?_); clear hK K) | refine Q1 ?_ | ((with_reducible refine qW (T := TT) (b := ?_) ?_ ?_); rotate_left; exact rfl) | ((with_reducible refine yS ?_ ?_) <;> (intro h; try simp only [NM] at h)) | fail)
  all_goals try (
    first
      | (have hs : (colE t) k t.cols[k] = none := by
           (simp (disch := omega) only [colE, getD_lt]; (repeat' split) <;> first | rfl | with_reducible assumption | omega | (exfalso; omega) | (simp_all; done) | (simp_all; omega))
         refine ⟨⟨k + 1, by omega, by rw [scan_step (by omega) hs, hi]⟩, by simp only; omega, ?_⟩
         refine St.le_mk ?_ ?_ ?_ <;> simp only [LE, EN, Nat.reduceEqDiff, reduceIte, Nat.reduceSub, eTbl]
         done)
      | (simp -dsimp (disch := first | exact D | fail) only [retQ, Tryz.results46, resVals, cellRV, resOf, St.rest, St.freeze, RT, go_sem, ↓reduceIte, seval]
         rw [scan_leaf (by omega) ?_ hi]
         all_goals first | with_reducible rfl | ((simp (disch := omega) only [colE, getD_lt]; (repeat' split) <;> first | rfl | with_reducible assumption | omega | (exfalso; omega) | (simp_all; done) | (simp_all; omega)); done) | rfl
         done)
    )
  have hi0 : scan (colE t) t.cols 0 = none := by rw [← hi, scan_end (by omega)]
  refine AWP.loop (ι := {k : Nat // k ≤ t.pk.length ∧ scan (pkE t) (t.pk.drop k) k = scan (pkE t) t.pk 0}) (fun k => ⟨96, [(1, .v (.one (.ptr 1 0))), (53, .v (.one (eInts t.pk))), (54, .v (oI t.pk.length)), (55, .v (oI k.1))], [(1, eTbl t)], []⟩) (fun k => t.pk.length - k.1) ⟨0, Nat.zero_le _, rfl⟩ ?_ fun ⟨k, hkl, hi⟩ => ?_
  · refine St.le_mk ?_ ?_ ?_ <;> simp only [LE, EN, Nat.reduceEqDiff, reduceIte, Nat.reduceSub, eTbl]
  repeat' (first | ((first | with_reducible refine qV tyOk fun K hK => ?_ | refine Q2 ?_ | ((with_reducible refine qS ?_ ?_) <;> (intro h; try simp only [NM] at h))) <;> simp -dsimp (disch := first | exact D | fail) only [go_sem, ↓reduceIte, seval]) | ((with_reducible refine hK _ ?_); clear hK K) | refine Q1 ?_ | ((with_reducible refine qW (T := TT) (b := ?_) ?_ ?_); rotate_left; exact rfl) | ((with_reducible refine yS ?_ ?_) <;> (intro h; try simp only [NM] at h)) | fail)
  all_goals try rw [hi0]
  all_goals simp only
  all_goals try (
    first
      | (have hs : (pkE t) k t.pk[k] = none := by
           (simp (disch := omega) only [pkE, getD_lt]; (repeat' split) <;> first | rfl | with_reducible assumption | omega | (exfalso; omega) | (simp_all; done) | (simp_all; omega))
         refine ⟨⟨k + 1, by omega, by rw [scan_step (by omega) hs, hi]⟩, by simp only; omega, ?_⟩
         refine St.le_mk ?_ ?_ ?_ <;> simp only [LE, EN, Nat.reduceEqDiff, reduceIte, Nat.reduceSub, eTbl]
         done)
      | (simp -dsimp (disch := first | exact D | fail) only [retQ, Tryz.results46, resVals, cellRV, resOf, St.rest, St.freeze, RT, go_sem, ↓reduceIte, seval]
         rw [scan_leaf (by omega) ?_ hi]
         all_goals first | with_reducible rfl | ((simp (disch := omega) only [pkE, getD_lt]; (repeat' split) <;> first | rfl | with_reducible assumption | omega | (exfalso; omega) | (simp_all; done) | (simp_all; omega)); done) | rfl
         done)
    )
  all_goals
    have hi1 : scan (pkE t) t.pk 0 = none := by rw [← hi, scan_end (by omega)]
    rw [hi1]
    simp -dsimp (disch := first | exact D | fail) only [retQ, Tryz.results46, resVals, cellRV, resOf, St.rest, St.freeze, RT, go_sem, ↓reduceIte, seval]
    first
      | (rw [if_pos (by omega)])
      | (rw [if_neg (by omega)])

set_option maxHeartbeats 8000000 in
theorem validateFK_sat (s : Sch) (fk : FK) (h1 : s.tables.length ≤ 140737488355328) (h2 : fk.cols.length ≤ 140737488355328) (hok : ∀ t ∈ s.tables, OkTbl t) :
    Sat Tryz.prog 47 [.agg (eSch s), .agg (eFK fk)] (.v (oI (fkE s fk))) := by
  rcases idx_cases (fun t => sEq t.name fk.table) s.tables 0 with ⟨e1, _⟩ | ⟨i, hi, e1, _⟩
  · have e1 : tblAt s.tables fk.table = -1 := e1
    refine sS tyOk Tryz.func47 fun w0 m0 F0 => ?_
    simp only [Tryz.ntmps47, envOf, Nat.reduceAdd]
    repeat' (first | ((first | with_reducible refine qV tyOk fun K hK => ?_ | ((with_reducible refine CallJ.is ?_); (refine CallJ.pure (findTable_sat _ _ h1) ?_))) <;> simp -dsimp (disch := first | exact D | fail) only [go_sem, ↓reduceIte, seval, e1, mx0_neg]) | ((with_reducible refine hK _ ?_); clear hK K) | refine Q1 ?_ | ((with_reducible refine qW (T := TT) (b := ?_) ?_ ?_); rotate_left; exact rfl) | fail)
    simp -dsimp (disch := first | exact D | fail) only [retQ, Tryz.results47, resVals, cellRV, resOf, St.rest, St.freeze, RT, go_sem, ↓reduceIte, seval]
    simp [fkE, e1]
  have e1 : tblAt s.tables fk.table = (i : Int) := by unfold tblAt; simpa using e1
  rcases idx_cases (fun t => sEq t.name fk.ref) s.tables 0 with ⟨e2, _⟩ | ⟨q, hq, e2, _⟩
  · have e2 : tblAt s.tables fk.ref = -1 := e2
    refine sS tyOk Tryz.func47 fun w0 m0 F0 => ?_
    simp only [Tryz.ntmps47, envOf, Nat.reduceAdd]
    repeat' (first | ((first | with_reducible refine qV tyOk fun K hK => ?_ | refine Q2 ?_ | ((with_reducible refine CallJ.is ?_); (refine CallJ.pure (findTable_sat _ _ h1) ?_))) <;> simp -dsimp (disch := first | exact D | fail) only [go_sem, ↓reduceIte, seval, e1, e2, mx0_neg, mx0_nat]) | ((with_reducible refine hK _ ?_); clear hK K) | refine Q1 ?_ | ((with_reducible refine qW (T := TT) (b := ?_) ?_ ?_); rotate_left; exact rfl) | fail)
    simp -dsimp (disch := first | exact D | fail) only [retQ, Tryz.results47, resVals, cellRV, resOf, St.rest, St.freeze, RT, go_sem, ↓reduceIte, seval]
    simp [fkE, e2]
  have e2 : tblAt s.tables fk.ref = (q : Int) := by unfold tblAt; simpa using e2
  have g1 : s.tables.getD i zTbl = s.tables[i] := by simp [List.getD, hi]
  have g2 : s.tables.getD q zTbl = s.tables[q] := by simp [List.getD, hq]
  have spec : fkE s fk = fkTE fk s.tables[i] s.tables[q] := by
    simp only [fkE, e1, e2, Int.toNat_natCast, g1, g2]
    rw [if_neg (by omega)]
  have okr := hok _ (List.getElem_mem hq)
  rw [spec]
  refine sS tyOk Tryz.func47 fun w0 m0 F0 => ?_
  simp only [Tryz.ntmps47, envOf, Nat.reduceAdd]
  repeat' (first | ((first | ((fail_if_success (refine AWP.isRegion 5 ?_)); (with_reducible refine qV tyOk fun K hK => ?_)) | refine Q2 ?_ | ((with_reducible refine CallJ.is ?_); (refine CallJ.pure (findTable_sat _ _ h1) ?_))) <;> simp -dsimp (disch := first | exact D | fail) only [go_sem, ↓reduceIte, seval, e1, e2, mx0_neg, mx0_nat]) | ((with_reducible refine hK _ ?_); clear hK K) | refine Q1 ?_ | ((with_reducible refine qW (T := TT) (b := ?_) ?_ ?_); rotate_left; exact rfl) | fail)
  refine AWP.mid ⟨85, [(3, .v (.one (.ptr 3 0))), (9, .v (.one (.ptr 9 0))), (10, .v (.one (.ptr 10 0)))], [(3, eFK fk), (9, eTbl s.tables[i]), (10, eTbl s.tables[q])], []⟩ ?_ ?_
  · refine dY tyOk mixed [(0, 10)] (.cons 10 [] [(0, 10)] (.cons 11 [] [(0, 10)] (.cons 12 [] [(5, 5)] (.cons 13 [] [] .leaf .none) .none) .none) (.cons 11 [] [(0, 10)] (.cons 10 [] [(0, 10)] (.cons 12 [] [(5, 5)] (.cons 13 [] [] .leaf .none) .none) .none) .none)) [10, 11, 12, 13] 8 fun K hK => ?_
    simp only [segt_leaf, segt_none, segt_cons, segs, List.drop_succ_cons, List.drop_zero, List.take_succ_cons, List.take_zero, List.getElem?_cons_zero, List.getElem?_cons_succ, List.cons_append, List.nil_append, List.append_nil] at hK ⊢
    simp -dsimp (disch := first | exact D | fail) only [go_sem, ↓reduceIte, seval, eTbl, eFK]
    repeat' (first | (((with_reducible refine VCt.step fun K hK => ?_)) <;> simp -dsimp (disch := first | exact D | fail) only [go_sem, ↓reduceIte, seval, eTbl, eFK]) | ((with_reducible refine hK _ ?_); clear hK K) | (with_reducible refine VCt.intro fun K0 hK0 => ?_) | ((with_reducible refine VCt.fin ?_); (refine hK0 _ ?_); clear hK0 K0) | (with_reducible first | refine VCy.quiet ?_ | refine VCt.none ?_) | ((with_reducible refine VCy.keep ?_ ?_); focus ((simp -dsimp (disch := first | exact D | fail) only [go_sem, ↓reduceIte, seval, Stable_cons, Stable_nil, sameA_some, sameA_none, eTbl, eFK]); first | done | exact E | fail)) | ((with_reducible refine VCt.fork (fun K hK => ?_) ?_); (focus (simp -dsimp (disch := first | exact D | fail) only [go_sem, ↓reduceIte, seval, eTbl, eFK]))) | refine Q1 ?_ | fail)
    all_goals refine Gq.done ⟨rfl, ?_⟩
    all_goals refine St.le_mk ?_ ?_ ?_ <;> simp only [LE, EN, Nat.reduceEqDiff, reduceIte, Nat.reduceSub, eTbl, eFK]
  repeat' (first | ((with_reducible refine qV tyOk fun K hK => ?_) <;> simp -dsimp (disch := first | exact D | fail) only [go_sem, ↓reduceIte, seval, eTbl, eFK]) | ((with_reducible refine hK _ ?_); clear hK K) | refine Q1 ?_ | ((with_reducible refine qW (T := TT) (b := ?_) ?_ ?_); rotate_left; exact rfl) | ((with_reducible refine yS ?_ ?_) <;> (intro h; try simp only [NM] at h)) | fail)
  rotate_left
  · simp -dsimp (disch := first | exact D | fail) only [retQ, Tryz.results47, resVals, cellRV, resOf, St.rest, St.freeze, RT, go_sem, ↓reduceIte, seval]
    rename_i hl
    have hl' : ¬ fk.cols.length = s.tables[q].pk.length := by omega
    simp [fkTE, hl']
  have hl : fk.cols.length = s.tables[q].pk.length := by omega
  have spec : fkTE fk s.tables[i] s.tables[q] = match scan (fkColE s.tables[i] s.tables[q]) fk.cols 0 with | some e => e | none => 0 := by simp [fkTE, hl] <;> rfl
  rw [spec]
  refine AWP.loop (ι := {k : Nat // k ≤ fk.cols.length ∧ scan (fkColE s.tables[i] s.tables[q]) (fk.cols.drop k) k = scan (fkColE s.tables[i] s.tables[q]) fk.cols 0}) (fun k => ⟨85, [(9, .v (.one (.ptr 9 0))), (10, .v (.one (.ptr 10 0))), (51, .v (.one (eInts fk.cols))), (52, .v (oI fk.cols.length)), (53, .v (oI k.1))], [(9, eTbl s.tables[i]), (10, eTbl s.tables[q])], []⟩) (fun k => fk.cols.length - k.1) ⟨0, Nat.zero_le _, rfl⟩ ?_ fun ⟨k, hkl, hj⟩ => ?_
  · refine St.le_mk ?_ ?_ ?_ <;> simp only [LE, EN, Nat.reduceEqDiff, reduceIte, Nat.reduceSub, eTbl]
  rcases Nat.lt_or_ge k fk.cols.length with hc | hc
  · have hcp : k < s.tables[q].pk.length := by omega
    obtain ⟨p1, p2, -, -⟩ := okr.key k hcp
    repeat' (first | ((first | with_reducible refine qV tyOk fun K hK => ?_ | refine Q2 ?_ | ((with_reducible refine qS ?_ ?_) <;> (intro h; try simp only [NM] at h)) | with_reducible refine yD tyOk mixed 6 (by kernel_rfl) fun K hK => ?_) <;> simp -dsimp (disch := first | exact D | fail) only [go_sem, ↓reduceIte, seval]) | ((with_reducible refine hK _ ?_); clear hK K) | refine Q1 ?_ | ((with_reducible refine qW (T := TT) (b := ?_) ?_ ?_); rotate_left; exact rfl) | ((with_reducible refine yS ?_ ?_) <;> (intro h; try simp only [NM] at h)) | fail)
    all_goals
      first
        | (have hs : (fkColE s.tables[i] s.tables[q]) k fk.cols[k] = none := by
             (simp (disch := omega) only [fkColE, getD_lt]; (repeat' split) <;> first | rfl | with_reducible assumption | omega | (exfalso; omega) | (simp_all; done) | (simp_all; omega))
           refine ⟨⟨k + 1, by omega, by rw [scan_step (by omega) hs, hj]⟩, by simp only; omega, ?_⟩
           refine St.le_mk ?_ ?_ ?_ <;> simp only [LE, EN, Nat.reduceEqDiff, reduceIte, Nat.reduceSub, eTbl]
           done)
        | (simp -dsimp (disch := first | exact D | fail) only [retQ, Tryz.results47, resVals, cellRV, resOf, St.rest, St.freeze, RT, go_sem, ↓reduceIte, seval]
           rw [scan_leaf (by omega) ?_ hj]
           all_goals first | with_reducible rfl | ((simp (disch := omega) only [fkColE, getD_lt]; (repeat' split) <;> first | rfl | with_reducible assumption | omega | (exfalso; omega) | (simp_all; done) | (simp_all; omega)); done) | rfl
           done)
  · rw [scan_end (by omega)] at hj
    repeat' (first | ((with_reducible refine qV tyOk fun K hK => ?_) <;> simp -dsimp (disch := first | exact D | fail) only [go_sem, ↓reduceIte, seval]) | ((with_reducible refine hK _ ?_); clear hK K) | refine Q1 ?_ | ((with_reducible refine qW (T := TT) (b := ?_) ?_ ?_); rotate_left; exact rfl) | fail)
    simp -dsimp (disch := first | exact D | fail) only [retQ, Tryz.results47, resVals, cellRV, resOf, St.rest, St.freeze, RT, go_sem, ↓reduceIte, seval]
    rw [← hj]

set_option maxHeartbeats 8000000 in
theorem default_sat (v:Val) (c:Col):Sat Tryz.prog 134 [.agg (eVal v),.agg (eCol c)] (.v (oI (defaultE v c))):=by
 refine sS tyOk Tryz.func134 fun w0 m0 F0=>?_
 simp only [Tryz.ntmps134,envOf,Nat.reduceAdd]
 repeat' (first|((first|with_reducible refine qV tyOk fun K hK=>?_|refine Q2 ?_|((with_reducible refine qS ?_ ?_)<;>(intro h;try simp only [NM] at h))|((with_reducible refine CallJ.is ?_);(refine CallJ.pure (validate_sat v) ?_)))<;>simp -dsimp (disch:=first|exact D|fail) only [go_sem,↓reduceIte,seval])|((with_reducible refine hK _ ?_);clear hK K)|refine Q1 ?_|((with_reducible refine qW (T:=TT) (b:=?_) ?_ ?_);rotate_left;exact rfl)|((with_reducible refine yS ?_ ?_)<;>(intro h;try simp only [NM] at h))|fail)
 all_goals simp -dsimp (disch:=first|exact D|fail) only [retQ,Tryz.results134,resVals,cellRV,resOf,St.rest,St.freeze,RT,go_sem,↓reduceIte,seval]
 all_goals simp_all [defaultE]
set_option maxHeartbeats 32000000 in
theorem same_satX (X:List (List L)) (s:Sch) (table other:ByteArray) (h2:s.fks.length≤1048576) (h3:∀f∈s.fks,f.cols.length≤1048576) (h4:s.cons.length≤1048576) :
  Sat Tryz.prog 130 [.agg [.sl 3 X,eFKs s.fks,eCons s.cons],oS table,oS other] (.v (oI (sameE s table other))):=by
 have spec0:sameE s table other=if s.fks.any fun f=>sEq f.ref table||sEq f.ref other then 10
   else if (s.fks.filter fun f=>sEq f.table table)≠((s.fks.filter fun f=>!sEq f.table table&&sEq f.table other).map (updT table)) then 10
   else if (s.cons.filter fun c=>sEq c.table table)≠((s.cons.filter fun c=>!sEq c.table table&&sEq c.table other).map (updC table)) then 11
   else 0:=rfl
 rw [spec0]
 clear spec0
 refine sS tyOk Tryz.func130 fun w0 m0 F0=>?_
 simp only [Tryz.ntmps130,envOf,Nat.reduceAdd]
 repeat' (first|((with_reducible refine qV tyOk fun K hK=>?_)<;>simp -dsimp (disch:=first|exact D|fail) only [go_sem,↓reduceIte,seval])|((with_reducible refine hK _ ?_);clear hK K)|refine Q1 ?_|fail)
 refine AWP.loop (ι:={k:Nat // k≤s.fks.length∧∀f∈s.fks.take k,(sEq f.ref table||sEq f.ref other)=false}) (fun k=>⟨85,[(1,.v (oS table)),(2,.v (oS other)),(3,.v (.one (.ptr 3 0))),(7,.v (.one (.ref 7 0 ((s.fks.take k.1).filter fun f=>sEq f.table table).length))),(8,.v (.one (.ref 8 0 ((s.fks.take k.1).filter fun f=>!sEq f.table table&&sEq f.table other).length))),(16,.v (.one (eFKs s.fks))),(17,.v (oI s.fks.length)),(18,.v (oI k.1))],[(3,[.sl 3 X,eFKs s.fks,eCons s.cons])],[(7,⟨3,((s.fks.take k.1).filter fun f=>sEq f.table table).map eFK,[]⟩),(8,⟨3,(((s.fks.take k.1).filter fun f=>!sEq f.table table&&sEq f.table other).map (updT table)).map eFK,[]⟩)]⟩) (fun k=>s.fks.length - k.1) ⟨0,Nat.zero_le _,by simp⟩ ?_ fun ⟨k,hkl,hr⟩=>?_
 ·refine St.le_mk ?_ ?_ ?_<;>simp only [LE,EN,Nat.reduceEqDiff,reduceIte,Nat.reduceSub,List.take_zero,List.filter_nil,List.map_nil,List.length_nil]
 simp only at hkl hr ⊢
 rcases Nat.lt_or_ge k s.fks.length with hk|hk
 ·have f1:=filter_take_succ (fun f=>sEq f.table table) s.fks k hk
  have f2:=filter_take_succ (fun f=>!sEq f.table table&&sEq f.table other) s.fks k hk
  have l1:=filter_take_len (fun f=>sEq f.table table) s.fks k
  have l2:=filter_take_len (fun f=>!sEq f.table table&&sEq f.table other) s.fks k
  cases hq:sEq s.fks[k].ref table||sEq s.fks[k].ref other with
  | true =>
   have hany:(s.fks.any fun f=>sEq f.ref table||sEq f.ref other)=true:=List.any_eq_true.2 ⟨_,List.getElem_mem hk,hq⟩
   rw [if_pos hany]
   rcases Bool.or_eq_true _ _▸hq with hq|hq
   ·have hq':s.fks[k].ref.toList=table.toList:=by simpa [sEq] using hq
    repeat' (first|((with_reducible refine qV tyOk fun K hK=>?_)<;>simp -dsimp (disch:=first|exact D|fail) only [go_sem,↓reduceIte,seval,hq',Option.getD_none])|((with_reducible refine hK _ ?_);clear hK K)|refine Q1 ?_|((with_reducible refine qW (T:=TT) (b:=?_) ?_ ?_);rotate_left;exact rfl)|fail)
    simp -dsimp (disch:=first|exact D|fail) only [retQ,Tryz.results130,resVals,cellRV,resOf,St.rest,St.freeze,RT,go_sem,↓reduceIte,seval]
   ·have hq':s.fks[k].ref.toList=other.toList:=by simpa [sEq] using hq
    repeat' (first|((first|with_reducible refine qV tyOk fun K hK=>?_|refine Q2 ?_|((with_reducible refine qS ?_ ?_)<;>(intro h;try simp only [NM] at h)))<;>simp -dsimp (disch:=first|exact D|fail) only [go_sem,↓reduceIte,seval,hq',Option.getD_none])|((with_reducible refine hK _ ?_);clear hK K)|refine Q1 ?_|((with_reducible refine qW (T:=TT) (b:=?_) ?_ ?_);rotate_left;exact rfl)|fail)
    all_goals simp -dsimp (disch:=first|exact D|fail) only [retQ,Tryz.results130,resVals,cellRV,resOf,St.rest,St.freeze,RT,go_sem,↓reduceIte,seval]
  | false =>
   obtain ⟨q1,q2⟩:=Bool.or_eq_false_iff.1 hq
   have q1':¬ s.fks[k].ref.toList=table.toList:=by simpa [sEq] using q1
   have q2':¬ s.fks[k].ref.toList=other.toList:=by simpa [sEq] using q2
   have hr':=take_ext hk hr hq
   cases hT:sEq s.fks[k].table table with
   | true =>
    have hT':s.fks[k].table.toList=table.toList:=by simpa [sEq] using hT
    simp only [hT,if_true,Bool.not_true,Bool.false_and,Bool.false_eq_true,if_false,List.append_nil] at f1 f2
    repeat' (first|((first|with_reducible refine qV tyOk fun K hK=>?_|refine Q2 ?_)<;>simp -dsimp (disch:=first|exact D|fail) only [go_sem,↓reduceIte,seval,q1',q2',hT',Option.getD_none])|((with_reducible refine hK _ ?_);clear hK K)|refine Q1 ?_|((with_reducible refine qW (T:=TT) (b:=?_) ?_ ?_);rotate_left;exact rfl)|fail)
    refine ⟨⟨k+1,by omega,hr'⟩,by simp only;omega,?_⟩
    refine St.le_mk ?_ ?_ ?_<;>simp only [LE,EN,Nat.reduceEqDiff,reduceIte,Nat.reduceSub,f1,f2,eFK,List.map_append,List.map_cons,List.map_nil,List.length_append,List.length_cons,List.length_nil]
   | false =>
    have hT':¬ s.fks[k].table.toList=table.toList:=by simpa [sEq] using hT
    cases hO:sEq s.fks[k].table other with
    | true =>
     have hO':s.fks[k].table.toList=other.toList:=by simpa [sEq] using hO
     have hot:¬ other.toList=table.toList:=fun q=>hT' (hO'.trans q)
     simp only [hT,hO,if_true,Bool.not_false,Bool.and_self,Bool.false_eq_true,if_false,List.append_nil] at f1 f2
     repeat' (first|((first|with_reducible refine qV tyOk fun K hK=>?_|refine Q2 ?_)<;>simp -dsimp (disch:=first|exact D|fail) only [go_sem,↓reduceIte,seval,q1',q2',hT',hO',hot,Option.getD_none])|((with_reducible refine hK _ ?_);clear hK K)|refine Q1 ?_|((with_reducible refine qW (T:=TT) (b:=?_) ?_ ?_);rotate_left;exact rfl)|fail)
     refine ⟨⟨k+1,by omega,hr'⟩,by simp only;omega,?_⟩
     refine St.le_mk ?_ ?_ ?_<;>simp only [LE,EN,Nat.reduceEqDiff,reduceIte,Nat.reduceSub,f1,f2,eFK,updT,List.map_append,List.map_cons,List.map_nil,List.length_append,List.length_cons,List.length_nil]
    | false =>
     have hO':¬ s.fks[k].table.toList=other.toList:=by simpa [sEq] using hO
     simp only [hT,hO,Bool.not_false,Bool.and_false,Bool.false_eq_true,if_false,List.append_nil] at f1 f2
     repeat' (first|((first|with_reducible refine qV tyOk fun K hK=>?_|refine Q2 ?_)<;>simp -dsimp (disch:=first|exact D|fail) only [go_sem,↓reduceIte,seval,q1',q2',hT',hO',Option.getD_none])|((with_reducible refine hK _ ?_);clear hK K)|refine Q1 ?_|((with_reducible refine qW (T:=TT) (b:=?_) ?_ ?_);rotate_left;exact rfl)|fail)
     refine ⟨⟨k+1,by omega,hr'⟩,by simp only;omega,?_⟩
     refine St.le_mk ?_ ?_ ?_<;>simp only [LE,EN,Nat.reduceEqDiff,reduceIte,Nat.reduceSub,f1,f2]
 rw [List.take_of_length_le hk] at hr ⊢
 have hany:(s.fks.any fun f=>sEq f.ref table||sEq f.ref other)=false:=by
  rw [List.any_eq_false]
  intro f hf
  simp [hr f hf]
 rw [hany]
 simp only [Bool.false_eq_true,if_false]
 have lA:(s.fks.filter fun f=>sEq f.table table).length≤s.fks.length:=List.length_filter_le _ _
 have lB:(s.fks.filter fun f=>!sEq f.table table&&sEq f.table other).length≤s.fks.length:=List.length_filter_le _ _
 have mA:∀f∈s.fks.filter (fun f=>sEq f.table table),f.cols.length≤140737488355328:=fun f hf=>by have:=h3 f (List.mem_filter.1 hf).1;omega
 have eqf:=equalFuncFK_sat (s.fks.filter fun f=>sEq f.table table) ((s.fks.filter fun f=>!sEq f.table table&&sEq f.table other).map (updT table)) (by omega) (by rw [List.length_map];omega) mA
 obtain ⟨A,hA⟩:∃A,(s.fks.filter fun f=>sEq f.table table)=A:=⟨_,rfl⟩
 obtain ⟨B,hB⟩:∃B,((s.fks.filter fun f=>!sEq f.table table&&sEq f.table other).map (updT table))=B:=⟨_,rfl⟩
 have hBl:(s.fks.filter fun f=>!sEq f.table table&&sEq f.table other).length=B.length:=by rw [←hB,List.length_map]
 rw [hBl] at lB ⊢
 rw [hA] at eqf lA ⊢
 rw [hB] at eqf ⊢
 by_cases hAB:A=B
 case neg =>
  simp only [hAB,decide_false] at eqf
  rw [if_pos hAB]
  repeat' (first|((first|with_reducible refine qV tyOk fun K hK=>?_|((with_reducible refine CallJ.is ?_);(((apply CallJ.lentI);(focus (simp -dsimp (disch:=first|exact D|fail) only [go_sem,↓reduceIte,seval];rfl));(focus (first|exact (eqf)))))))<;>simp -dsimp (disch:=first|exact D|fail) only [go_sem,↓reduceIte,seval])|((with_reducible refine hK _ ?_);clear hK K)|refine Q1 ?_|((with_reducible refine qW (T:=TT) (b:=?_) ?_ ?_);rotate_left;exact rfl)|fail)
  simp -dsimp (disch:=first|exact D|fail) only [retQ,Tryz.results130,resVals,cellRV,resOf,St.rest,St.freeze,RT,go_sem,↓reduceIte,seval]
 rw [if_neg (by simpa using hAB)]
 simp only [hAB,decide_true] at eqf
 rw [hAB]
 repeat' (first|((first|with_reducible refine qV tyOk fun K hK=>?_|((with_reducible refine CallJ.is ?_);(((apply CallJ.lentI);(focus (simp -dsimp (disch:=first|exact D|fail) only [go_sem,↓reduceIte,seval];rfl));(focus (first|exact (eqf)))))))<;>simp -dsimp (disch:=first|exact D|fail) only [go_sem,↓reduceIte,seval])|((with_reducible refine hK _ ?_);clear hK K)|refine Q1 ?_|((with_reducible refine qW (T:=TT) (b:=?_) ?_ ?_);rotate_left;exact rfl)|fail)
 refine AWP.loop (ι:={k:Nat // k≤s.cons.length}) (fun k=>⟨85,[(1,.v (oS table)),(2,.v (oS other)),(11,.v (.one (.ref 11 0 ((s.cons.take k.1).filter fun f=>sEq f.table table).length))),(12,.v (.one (.ref 12 0 ((s.cons.take k.1).filter fun f=>!sEq f.table table&&sEq f.table other).length))),(56,.v (.one (eCons s.cons))),(57,.v (oI s.cons.length)),(58,.v (oI k.1))],[],[(11,⟨7,((s.cons.take k.1).filter fun f=>sEq f.table table).map eCon,[]⟩),(12,⟨7,(((s.cons.take k.1).filter fun f=>!sEq f.table table&&sEq f.table other).map (updC table)).map eCon,[]⟩)]⟩) (fun k=>s.cons.length - k.1) ⟨0,Nat.zero_le _⟩ ?_ fun ⟨k,hkl⟩=>?_
 ·refine St.le_mk ?_ ?_ ?_<;>simp only [LE,EN,Nat.reduceEqDiff,reduceIte,Nat.reduceSub,List.take_zero,List.filter_nil,List.map_nil,List.length_nil]
 simp only at hkl ⊢
 rcases Nat.lt_or_ge k s.cons.length with hk|hk
 ·have f1:=filter_take_succ (fun f=>sEq f.table table) s.cons k hk
  have f2:=filter_take_succ (fun f=>!sEq f.table table&&sEq f.table other) s.cons k hk
  have l1:=filter_take_len (fun f=>sEq f.table table) s.cons k
  have l2:=filter_take_len (fun f=>!sEq f.table table&&sEq f.table other) s.cons k
  cases hT:sEq s.cons[k].table table with
  | true =>
   have hT':s.cons[k].table.toList=table.toList:=by simpa [sEq] using hT
   simp only [hT,if_true,Bool.not_true,Bool.false_and,Bool.false_eq_true,if_false,List.append_nil] at f1 f2
   repeat' (first|((with_reducible refine qV tyOk fun K hK=>?_)<;>simp -dsimp (disch:=first|exact D|fail) only [go_sem,↓reduceIte,seval,hT',Option.getD_none])|((with_reducible refine hK _ ?_);clear hK K)|refine Q1 ?_|((with_reducible refine qW (T:=TT) (b:=?_) ?_ ?_);rotate_left;exact rfl)|fail)
   refine ⟨⟨k+1,by omega⟩,by simp only;omega,?_⟩
   refine St.le_mk ?_ ?_ ?_<;>simp only [LE,EN,Nat.reduceEqDiff,reduceIte,Nat.reduceSub,f1,f2,eCon,List.map_append,List.map_cons,List.map_nil,List.length_append,List.length_cons,List.length_nil]
  | false =>
   have hT':¬ s.cons[k].table.toList=table.toList:=by simpa [sEq] using hT
   cases hO:sEq s.cons[k].table other with
   | true =>
    have hO':s.cons[k].table.toList=other.toList:=by simpa [sEq] using hO
    have hot:¬ other.toList=table.toList:=fun q=>hT' (hO'.trans q)
    simp only [hT,hO,if_true,Bool.not_false,Bool.and_self,Bool.false_eq_true,if_false,List.append_nil] at f1 f2
    repeat' (first|((with_reducible refine qV tyOk fun K hK=>?_)<;>simp -dsimp (disch:=first|exact D|fail) only [go_sem,↓reduceIte,seval,hT',hO',hot,Option.getD_none])|((with_reducible refine hK _ ?_);clear hK K)|refine Q1 ?_|((with_reducible refine qW (T:=TT) (b:=?_) ?_ ?_);rotate_left;exact rfl)|fail)
    refine ⟨⟨k+1,by omega⟩,by simp only;omega,?_⟩
    refine St.le_mk ?_ ?_ ?_<;>simp only [LE,EN,Nat.reduceEqDiff,reduceIte,Nat.reduceSub,f1,f2,eCon,updC,List.map_append,List.map_cons,List.map_nil,List.length_append,List.length_cons,List.length_nil]
   | false =>
    have hO':¬ s.cons[k].table.toList=other.toList:=by simpa [sEq] using hO
    simp only [hT,hO,Bool.not_false,Bool.and_false,Bool.false_eq_true,if_false,List.append_nil] at f1 f2
    repeat' (first|((with_reducible refine qV tyOk fun K hK=>?_)<;>simp -dsimp (disch:=first|exact D|fail) only [go_sem,↓reduceIte,seval,hT',hO',Option.getD_none])|((with_reducible refine hK _ ?_);clear hK K)|refine Q1 ?_|((with_reducible refine qW (T:=TT) (b:=?_) ?_ ?_);rotate_left;exact rfl)|fail)
    refine ⟨⟨k+1,by omega⟩,by simp only;omega,?_⟩
    refine St.le_mk ?_ ?_ ?_<;>simp only [LE,EN,Nat.reduceEqDiff,reduceIte,Nat.reduceSub,f1,f2]
 rw [List.take_of_length_le hk]
 have lA2:(s.cons.filter fun f=>sEq f.table table).length≤s.cons.length:=List.length_filter_le _ _
 have lB2:(s.cons.filter fun f=>!sEq f.table table&&sEq f.table other).length≤s.cons.length:=List.length_filter_le _ _
 have eqc:=equalCons_sat (s.cons.filter fun f=>sEq f.table table) ((s.cons.filter fun f=>!sEq f.table table&&sEq f.table other).map (updC table)) (by omega) (by rw [List.length_map];omega)
 obtain ⟨A2,hA2⟩:∃A,(s.cons.filter fun f=>sEq f.table table)=A:=⟨_,rfl⟩
 obtain ⟨B2,hB2⟩:∃B,((s.cons.filter fun f=>!sEq f.table table&&sEq f.table other).map (updC table))=B:=⟨_,rfl⟩
 have hBl2:(s.cons.filter fun f=>!sEq f.table table&&sEq f.table other).length=B2.length:=by rw [←hB2,List.length_map]
 rw [hBl2] at lB2 ⊢
 rw [hA2] at eqc lA2 ⊢
 rw [hB2] at eqc ⊢
 by_cases hAB2:A2=B2
 ·rw [if_neg (by simpa using hAB2)]
  simp only [hAB2,decide_true] at eqc
  rw [hAB2]
  repeat' (first|((first|with_reducible refine qV tyOk fun K hK=>?_|((with_reducible refine CallJ.is ?_);(((apply CallJ.lentI);(focus (simp -dsimp (disch:=first|exact D|fail) only [go_sem,↓reduceIte,seval];rfl));(focus (first|exact (eqc)))))))<;>simp -dsimp (disch:=first|exact D|fail) only [go_sem,↓reduceIte,seval])|((with_reducible refine hK _ ?_);clear hK K)|refine Q1 ?_|((with_reducible refine qW (T:=TT) (b:=?_) ?_ ?_);rotate_left;exact rfl)|fail)
  simp -dsimp (disch:=first|exact D|fail) only [retQ,Tryz.results130,resVals,cellRV,resOf,St.rest,St.freeze,RT,go_sem,↓reduceIte,seval]
 ·simp only [hAB2,decide_false] at eqc
  rw [if_pos hAB2]
  repeat' (first|((first|with_reducible refine qV tyOk fun K hK=>?_|((with_reducible refine CallJ.is ?_);(((apply CallJ.lentI);(focus (simp -dsimp (disch:=first|exact D|fail) only [go_sem,↓reduceIte,seval];rfl));(focus (first|exact (eqc)))))))<;>simp -dsimp (disch:=first|exact D|fail) only [go_sem,↓reduceIte,seval])|((with_reducible refine hK _ ?_);clear hK K)|refine Q1 ?_|((with_reducible refine qW (T:=TT) (b:=?_) ?_ ?_);rotate_left;exact rfl)|fail)
  simp -dsimp (disch:=first|exact D|fail) only [retQ,Tryz.results130,resVals,cellRV,resOf,St.rest,St.freeze,RT,go_sem,↓reduceIte,seval]
end Go.Bw
