/-
  WHAT IS PROVED HERE, of this translation: validateFK_sat, satisfies_sat, validate_sat, bytes_ext, zV_iff, validateCon_sat, containsCon_take, schValidate_sat, people_sat, integer_sat, bl_cons, bl_trans, bl_total, chain_lt, okSch_of, instSatisfies_sat, conformsRow_sat, scan_all_none, compareRows_sat, indexFuncRow_sat, containsRow_sat.
  A theorem that ends in sat says what the function it names returns, whatever the state it is called in; the bounds on its arguments stand ahead of it.
-/
import Derived.Test.YtinlgpgdinnefaaN5a
set_option linter.unusedSimpArgs false
set_option linter.unusedVariables false

namespace Go.Bw
open Go.Proofs
attribute [local go_sem ↓] VOps_nil VOps_cons VOp_callJ VVal_callH VOps_guard GOn_tt GOn_ff GOn_tf GOn_ft GOn_not GOn_none HOn_none HOn_tt HOn_ff HOn_tf HOn_ft HOn_not VHead_nil VHead_cons VHead_guard VVal_move VVal_assign VVal_pickE pickK_true pickK_false VVal_not VVal_load loadK_fz loadK_ptr loadK_eptr VVal_fieldAddr VVal_field VVal_indexAddr idxK_sl idxK_ref VVal_index indexK_str VVal_extract VVal_binOp binK_one binK_agg VVal_build VVal_buildSlice VVal_makeFunc VVal_slice sliceK_str sliceK_sl sliceK_ref VVal_slice3 VVal_nilCheck VVal_convert convKk_int convKk_str VVal_len VVal_max VVal_min VOp_assign assignK_int assignK_bool assignK_str assignK_clo assignK_sl assignK_nil assignK_ref assignK_agg assignK_fz assignK_ptr assignK_eptr assignK_any VOp_box VOp_alloc VOp_store storeK_ptr storeK_eptr VOp_buildSlice VOp_append appK_rr appK_rs appK_rn appK_ri appK_nl appStd_eq VOp_copy copyK_ref VOp_clear clearK_ref VOp_cap VOp_eqNil VOp_move VOp_pick VOp_not VOp_load VOp_fieldAddr VOp_field VOp_indexAddr VOp_index VOp_extract VOp_binTmp VOp_binInt VOp_binStr VOp_build VOp_makeFunc VOp_slice VOp_nilCheck VOp_convert VOp_len VOp_max VOp_min mO_some mT_some pk_some pk_none look_cons del_cons
attribute [local go_sem] guardB gOf int_bne beq_true beq_false Bool.not_not gSlot pickK_true pickK_false loadK_fz loadK_ptr loadK_eptr idxK_sl idxK_ref indexK_str binK_one binK_agg sliceK_str sliceK_sl sliceK_ref convKk_int convKk_str maxL minL assignK_int assignK_bool assignK_str assignK_clo assignK_sl assignK_nil assignK_ref assignK_agg assignK_fz assignK_ptr assignK_eptr assignK_any nilRow_eq takeRow_eq appended_eq storeK_ptr storeK_eptr store_mk appIn_eq appMk_eq marked_eq ovOut_nil ovOut_cons ovIn_nil ovIn_cons padRow_eq ysC capK_ref ioSt_mk outB_nil outR_nil outB outR inB_nil inB_cons inR_nil inR_cons L.kl L.kl0 L.ids L.ids0 Option.getD_some evalO constA mO_some mT_some put_mk putO_some putO_none okD_some okD_none pk_some pk_none look_nil del_nil sput noBox_mk noRow_mk newBox_eq newRow0_eq St.killRow RowC.kill rowMap_mk rowOf ovAll ovAdd ovDel ovGet ovShift dstOf ysOf overlay_nil overlay_nil' overlay A.map V.map L.noPtr L.noPtr0 L.noRow L.noRow0 L.peek L.norm L.flat clos_int clos_bool clos_str clos_sl clos_nil clos_any clos_fz L.clos L.isFz L.kd moveL fieldOff eqCells eqCell eqOp oneOf boolOf intOfA tupOf vOf aggOf isPtrLike isSlice lenKind lenL nL elemTI loadV asV binL intBin intDivL shrL boolBin strBin boundN partCells fillL placesOf setL chunks repL capsOf capL callOf argsOf frzV_int frzV_bool frzV_str frzV_sl frzV_nil frzV_fz frzV_any frzV_own frzV_clo frzV_ref frzV_eptr frzV_ptr frzRow_nil frzRow_ov frzRs_nil frzRs_cons frzCs_nil frzCs_cons frzO_some frzO_none frzN_int frzN_bool frzN_str frzN_sl frzN_nil frzN_any frzN_own List.map_cons List.map_nil List.cons_append List.nil_append List.append_nil List.length_cons List.length_nil List.length_map List.length_append List.headD_cons List.tail_cons List.getElem?_cons_zero List.getElem?_cons_succ List.drop_zero List.drop_succ_cons List.drop_nil List.take_succ_cons List.take_zero List.take_nil List.take_length List.filter_cons List.filter_nil List.elem_cons List.elem_nil List.all_cons List.all_nil Option.bind_some Option.map_some Option.some.injEq bne_self_eq_false beq_self_eq_true if_true if_false Bool.false_eq_true true_and and_true and_self Nat.zero_add Nat.add_zero Nat.zero_le Int.toNat_natCast Int.toNat_zero Option.isSome_some List.getElem?_toArray decide_true decide_false ge_iff_le gt_iff_lt Bool.not_true Bool.not_false Nat.le_refl Bool.and_true Bool.true_and Bool.and_false Bool.false_and eVal eRow eRow1 eRows eInt1 eInts eCol eCols eTbl eTbls eFK eFKs eCon eCons eSch eRel eInst eChg eChgs szOf getD_map_lt wrap_nat wrap_in List.take_of_length_le frz_eVal frz_eRow1 frz_eInt1 frz_eCol frz_eTbl frz_eFK frz_eCon frz_eRel frz_eChg noOwn_nil noOwn_cons noOwn_append L.isOwn noOwn_eVal noOwn_eRow1 noOwn_eInt1 noOwn_eCol noOwn_eTbl noOwn_eFK noOwn_eCon noOwn_eRel noOwn_eChg convK_2 convK_3 convK_5 convK_12 convK_21 convK_28 convK_156 convK_164 TT_2 TT_3 TT_4 TT_5 TT_9 TT_12 TT_13 TT_21 TT_22 TT_23 TT_24 TT_25 TT_26 TT_28 TT_30 TT_31 TT_32 TT_33 TT_37 TT_38 TT_41 TT_42 TT_43 TT_54 TT_55 TT_58 TT_59 TT_60 TT_61 TT_65 TT_66 TT_70 TT_71 TT_78 TT_82 TT_83 TT_102 TT_126 TT_130 TT_156 TT_164 boolTy_4 eqK_38 eqK_59 eqK_61
attribute [local congr] VOps.congr VHead.congr VOp.congr VVal.congr pk.congr assignK.congr appK.congr appStd.congr copyK.congr clearK.congr storeK.congr loadK.congr idxK.congr sliceK.congr indexK.congr binK.congr convKk.congr
def fkColE (t r : Tbl) (j : Nat) (c : Int) : Option Int :=
  if c < 0 ∨ (t.cols.length : Int) ≤ c then some 3 else if (t.cols.getD c.toNat zCol).kind ≠ (r.cols.getD (r.pk.getD j 0).toNat zCol).kind then some 7 else none
def fkTE (fk : FK) (t r : Tbl) : Int := if fk.cols.length ≠ r.pk.length then 3 else match scan (fkColE t r) fk.cols 0 with | some e => e | none => 0
def fkE (s : Sch) (fk : FK) : Int :=
  if tblAt s.tables fk.table < 0 ∨ tblAt s.tables fk.ref < 0 then 4 else fkTE fk (s.tables.getD (tblAt s.tables fk.table).toNat zTbl) (s.tables.getD (tblAt s.tables fk.ref).toNat zTbl)

set_option maxHeartbeats 8000000 in
theorem validateFK_sat (s : Sch) (fk : FK) (h1 : s.tables.length ≤ 140737488355328) (h2 : fk.cols.length ≤ 140737488355328) (hok : ∀ t ∈ s.tables, OkTbl t) :
    Sat Try.prog 50 [.agg (eSch s), .agg (eFK fk)] (.v (oI (fkE s fk))) := by
  rcases idx_cases (fun t => sEq t.name fk.table) s.tables 0 with ⟨e1, _⟩ | ⟨i, hi, e1, _⟩
  · have e1 : tblAt s.tables fk.table = -1 := e1
    refine sat_of_body tyOk Try.func50 rfl (by kernel_rfl) ⟨Nat.le_of_ble_eq_true rfl, Nat.le_of_ble_eq_true rfl⟩ fun w0 m0 F0 => ?_
    simp only [Try.ntmps50, envOf, Nat.reduceAdd]
    repeat' (first
      | ((first
        | with_reducible refine AWP.regionL tyOk fun K hK => ?_
        | ((first | with_reducible refine GOn.isT ?_ ?_ | with_reducible refine HOn.isT ?_ ?_ | with_reducible refine pickK.isT ?_ ?_); focus (first | with_reducible rfl | with_reducible assumption | (simp only [NM, LN]; first | done | with_reducible assumption | omega)))
        | ((first | with_reducible refine GOn.isF ?_ ?_ | with_reducible refine HOn.isF ?_ ?_ | with_reducible refine pickK.isF ?_ ?_); focus (first | with_reducible rfl | with_reducible assumption | (simp only [NM, LN]; first | done | with_reducible assumption | omega)))
        | ((first | with_reducible refine GOn.split (fun h => ?_) (fun h => ?_) | with_reducible refine HOn.split (fun h => ?_) (fun h => ?_) | with_reducible refine pickK.split (fun h => ?_) (fun h => ?_)) <;> (try simp only [NM] at h))
        | ((with_reducible refine CallJ.is ?_); (first | refine CallJ.pure (findTable_sat _ _ h1) ?_ | ((first | refine CallJ.lent (findTable_sat _ _ h1) ?_ ?_; focus (simp -dsimp (disch := (first | omega | (simp only [LN]; omega))) only [go_sem, ↓reduceIte, Nat.reduceLT, Nat.reduceLeDiff, Nat.reduceEqDiff, Nat.reduceAdd, Nat.reduceMul, Nat.reduceSub, Nat.reduceBEq, Nat.reduceBNe, Int.reduceBEq, Int.reduceLT, Int.reduceLE, reduceCtorEq, Int.reduceToNat, e1, mx0_neg]; done)))))
        | ((with_reducible refine CallH.is ?_); (first | refine CallH.intro (findTable_sat _ _ h1) ?_))) <;> simp -dsimp (disch := (first | omega | (simp only [LN]; omega))) only [go_sem, ↓reduceIte, Nat.reduceLT, Nat.reduceLeDiff, Nat.reduceEqDiff, Nat.reduceAdd, Nat.reduceMul, Nat.reduceSub, Nat.reduceBEq, Nat.reduceBNe, Int.reduceBEq, Int.reduceLT, Int.reduceLE, reduceCtorEq, Int.reduceToNat, e1, mx0_neg])
      | ((with_reducible refine hK _ ?_); clear hK K)
      | with_reducible refine AWP.seq ?_
      | with_reducible refine thenQ_normal ?_
      | with_reducible refine AWP.block ?_
      | with_reducible refine AWP.skip ?_
      | with_reducible refine AWP.ret ?_
      | with_reducible refine thenQ_ret ?_
      | with_reducible refine blockQ_ret ?_
      | with_reducible refine AWP.exit ?_
      | with_reducible refine thenQ_exit ?_
      | with_reducible refine blockQ_normal ?_
      | with_reducible refine blockQ_exit ?_
      | refine blockQ_exit_ne rfl ?_
      | (with_reducible refine And.intro (by (first | with_reducible rfl | with_reducible assumption | omega | (simp only [LN]; first | done | with_reducible rfl | omega) | (simp only [NM, LN]; first | done | with_reducible assumption | omega) | (and_intros <;> first | with_reducible assumption | omega | (simp only [LN]; omega)) | fail)) ?_)
      | ((with_reducible refine AWP.condG (T := TT) (b := ?_) ?_ ?_); rotate_left; exact rfl)
      | with_reducible refine CondG.t ?_
      | with_reducible refine CondG.f ?_
      | with_reducible refine CondG.not ?_
      | ((first | with_reducible refine CondG.isT ?_ ?_); focus (first | with_reducible rfl | with_reducible assumption | (simp only [NM, LN]; first | done | with_reducible assumption | omega)))
      | ((first | with_reducible refine CondG.isF ?_ ?_); focus (first | with_reducible rfl | with_reducible assumption | (simp only [NM, LN]; first | done | with_reducible assumption | omega)))
      | ((with_reducible refine CondG.split (fun h => ?_) (fun h => ?_)) <;> (try simp only [NM] at h)))
    simp -dsimp (disch := (first | omega | (simp only [LN]; omega))) only [retQ, Try.results50, resVals, cellRV, resOf, St.rest, St.freeze, RT, go_sem, ↓reduceIte, Nat.reduceLT, Nat.reduceLeDiff, Nat.reduceEqDiff, Nat.reduceAdd, Nat.reduceMul, Nat.reduceSub, Nat.reduceBEq, Nat.reduceBNe, Int.reduceBEq, Int.reduceLT, Int.reduceLE, reduceCtorEq, Int.reduceToNat]
    simp [fkE, e1]
  have e1 : tblAt s.tables fk.table = (i : Int) := by unfold tblAt; simpa using e1
  rcases idx_cases (fun t => sEq t.name fk.ref) s.tables 0 with ⟨e2, _⟩ | ⟨q, hq, e2, _⟩
  · have e2 : tblAt s.tables fk.ref = -1 := e2
    refine sat_of_body tyOk Try.func50 rfl (by kernel_rfl) ⟨Nat.le_of_ble_eq_true rfl, Nat.le_of_ble_eq_true rfl⟩ fun w0 m0 F0 => ?_
    simp only [Try.ntmps50, envOf, Nat.reduceAdd]
    repeat' (first
      | ((first
        | with_reducible refine AWP.regionL tyOk fun K hK => ?_
        | ((first | with_reducible refine GOn.isT ?_ ?_ | with_reducible refine HOn.isT ?_ ?_ | with_reducible refine pickK.isT ?_ ?_); focus (first | with_reducible rfl | with_reducible assumption | (simp only [NM, LN]; first | done | with_reducible assumption | omega)))
        | ((first | with_reducible refine GOn.isF ?_ ?_ | with_reducible refine HOn.isF ?_ ?_ | with_reducible refine pickK.isF ?_ ?_); focus (first | with_reducible rfl | with_reducible assumption | (simp only [NM, LN]; first | done | with_reducible assumption | omega)))
        | ((first | with_reducible refine GOn.split (fun h => ?_) (fun h => ?_) | with_reducible refine HOn.split (fun h => ?_) (fun h => ?_) | with_reducible refine pickK.split (fun h => ?_) (fun h => ?_)) <;> (try simp only [NM] at h))
        | ((with_reducible refine CallJ.is ?_); (first | refine CallJ.pure (findTable_sat _ _ h1) ?_ | ((first | refine CallJ.lent (findTable_sat _ _ h1) ?_ ?_; focus (simp -dsimp (disch := (first | omega | (simp only [LN]; omega))) only [go_sem, ↓reduceIte, Nat.reduceLT, Nat.reduceLeDiff, Nat.reduceEqDiff, Nat.reduceAdd, Nat.reduceMul, Nat.reduceSub, Nat.reduceBEq, Nat.reduceBNe, Int.reduceBEq, Int.reduceLT, Int.reduceLE, reduceCtorEq, Int.reduceToNat, e1, e2, mx0_neg, mx0_nat]; done)))))
        | ((with_reducible refine CallH.is ?_); (first | refine CallH.intro (findTable_sat _ _ h1) ?_))) <;> simp -dsimp (disch := (first | omega | (simp only [LN]; omega))) only [go_sem, ↓reduceIte, Nat.reduceLT, Nat.reduceLeDiff, Nat.reduceEqDiff, Nat.reduceAdd, Nat.reduceMul, Nat.reduceSub, Nat.reduceBEq, Nat.reduceBNe, Int.reduceBEq, Int.reduceLT, Int.reduceLE, reduceCtorEq, Int.reduceToNat, e1, e2, mx0_neg, mx0_nat])
      | ((with_reducible refine hK _ ?_); clear hK K)
      | with_reducible refine AWP.seq ?_
      | with_reducible refine thenQ_normal ?_
      | with_reducible refine AWP.block ?_
      | with_reducible refine AWP.skip ?_
      | with_reducible refine AWP.ret ?_
      | with_reducible refine thenQ_ret ?_
      | with_reducible refine blockQ_ret ?_
      | with_reducible refine AWP.exit ?_
      | with_reducible refine thenQ_exit ?_
      | with_reducible refine blockQ_normal ?_
      | with_reducible refine blockQ_exit ?_
      | refine blockQ_exit_ne rfl ?_
      | (with_reducible refine And.intro (by (first | with_reducible rfl | with_reducible assumption | omega | (simp only [LN]; first | done | with_reducible rfl | omega) | (simp only [NM, LN]; first | done | with_reducible assumption | omega) | (and_intros <;> first | with_reducible assumption | omega | (simp only [LN]; omega)) | fail)) ?_)
      | ((with_reducible refine AWP.condG (T := TT) (b := ?_) ?_ ?_); rotate_left; exact rfl)
      | with_reducible refine CondG.t ?_
      | with_reducible refine CondG.f ?_
      | with_reducible refine CondG.not ?_
      | ((first | with_reducible refine CondG.isT ?_ ?_); focus (first | with_reducible rfl | with_reducible assumption | (simp only [NM, LN]; first | done | with_reducible assumption | omega)))
      | ((first | with_reducible refine CondG.isF ?_ ?_); focus (first | with_reducible rfl | with_reducible assumption | (simp only [NM, LN]; first | done | with_reducible assumption | omega)))
      | ((with_reducible refine CondG.split (fun h => ?_) (fun h => ?_)) <;> (try simp only [NM] at h)))
    simp -dsimp (disch := (first | omega | (simp only [LN]; omega))) only [retQ, Try.results50, resVals, cellRV, resOf, St.rest, St.freeze, RT, go_sem, ↓reduceIte, Nat.reduceLT, Nat.reduceLeDiff, Nat.reduceEqDiff, Nat.reduceAdd, Nat.reduceMul, Nat.reduceSub, Nat.reduceBEq, Nat.reduceBNe, Int.reduceBEq, Int.reduceLT, Int.reduceLE, reduceCtorEq, Int.reduceToNat]
    simp [fkE, e2]
  have e2 : tblAt s.tables fk.ref = (q : Int) := by unfold tblAt; simpa using e2
  have g1 : s.tables.getD i zTbl = s.tables[i] := by simp [List.getD, hi]
  have g2 : s.tables.getD q zTbl = s.tables[q] := by simp [List.getD, hq]
  have spec : fkE s fk = fkTE fk s.tables[i] s.tables[q] := by
    simp only [fkE, e1, e2, Int.toNat_natCast, g1, g2]
    rw [if_neg (by omega)]
  have okr := hok _ (List.getElem_mem hq)
  rw [spec]
  refine sat_of_body tyOk Try.func50 rfl (by kernel_rfl) ⟨Nat.le_of_ble_eq_true rfl, Nat.le_of_ble_eq_true rfl⟩ fun w0 m0 F0 => ?_
  simp only [Try.ntmps50, envOf, Nat.reduceAdd]
  repeat' (first
    | ((first
      | with_reducible refine AWP.regionL tyOk fun K hK => ?_
      | ((first | with_reducible refine GOn.isT ?_ ?_ | with_reducible refine HOn.isT ?_ ?_ | with_reducible refine pickK.isT ?_ ?_); focus (first | with_reducible rfl | with_reducible assumption | (simp only [NM, LN]; first | done | with_reducible assumption | omega)))
      | ((first | with_reducible refine GOn.isF ?_ ?_ | with_reducible refine HOn.isF ?_ ?_ | with_reducible refine pickK.isF ?_ ?_); focus (first | with_reducible rfl | with_reducible assumption | (simp only [NM, LN]; first | done | with_reducible assumption | omega)))
      | ((first | with_reducible refine GOn.split (fun h => ?_) (fun h => ?_) | with_reducible refine HOn.split (fun h => ?_) (fun h => ?_) | with_reducible refine pickK.split (fun h => ?_) (fun h => ?_)) <;> (try simp only [NM] at h))
      | ((with_reducible refine CallJ.is ?_); (first | refine CallJ.pure (findTable_sat _ _ h1) ?_ | ((first | refine CallJ.lent (findTable_sat _ _ h1) ?_ ?_; focus (simp -dsimp (disch := (first | omega | (simp only [LN]; omega))) only [go_sem, ↓reduceIte, Nat.reduceLT, Nat.reduceLeDiff, Nat.reduceEqDiff, Nat.reduceAdd, Nat.reduceMul, Nat.reduceSub, Nat.reduceBEq, Nat.reduceBNe, Int.reduceBEq, Int.reduceLT, Int.reduceLE, reduceCtorEq, Int.reduceToNat, e1, e2, mx0_neg, mx0_nat]; done)))))
      | ((with_reducible refine CallH.is ?_); (first | refine CallH.intro (findTable_sat _ _ h1) ?_))) <;> simp -dsimp (disch := (first | omega | (simp only [LN]; omega))) only [go_sem, ↓reduceIte, Nat.reduceLT, Nat.reduceLeDiff, Nat.reduceEqDiff, Nat.reduceAdd, Nat.reduceMul, Nat.reduceSub, Nat.reduceBEq, Nat.reduceBNe, Int.reduceBEq, Int.reduceLT, Int.reduceLE, reduceCtorEq, Int.reduceToNat, e1, e2, mx0_neg, mx0_nat])
    | ((with_reducible refine hK _ ?_); clear hK K)
    | with_reducible refine AWP.seq ?_
    | with_reducible refine thenQ_normal ?_
    | with_reducible refine AWP.block ?_
    | with_reducible refine AWP.skip ?_
    | with_reducible refine AWP.ret ?_
    | with_reducible refine thenQ_ret ?_
    | with_reducible refine blockQ_ret ?_
    | with_reducible refine AWP.exit ?_
    | with_reducible refine thenQ_exit ?_
    | with_reducible refine blockQ_normal ?_
    | with_reducible refine blockQ_exit ?_
    | refine blockQ_exit_ne rfl ?_
    | (with_reducible refine And.intro (by (first | with_reducible rfl | with_reducible assumption | omega | (simp only [LN]; first | done | with_reducible rfl | omega) | (simp only [NM, LN]; first | done | with_reducible assumption | omega) | (and_intros <;> first | with_reducible assumption | omega | (simp only [LN]; omega)) | fail)) ?_)
    | ((with_reducible refine AWP.condG (T := TT) (b := ?_) ?_ ?_); rotate_left; exact rfl)
    | with_reducible refine CondG.t ?_
    | with_reducible refine CondG.f ?_
    | with_reducible refine CondG.not ?_
    | ((first | with_reducible refine CondG.isT ?_ ?_); focus (first | with_reducible rfl | with_reducible assumption | (simp only [NM, LN]; first | done | with_reducible assumption | omega)))
    | ((first | with_reducible refine CondG.isF ?_ ?_); focus (first | with_reducible rfl | with_reducible assumption | (simp only [NM, LN]; first | done | with_reducible assumption | omega)))
    | ((with_reducible refine CondG.split (fun h => ?_) (fun h => ?_)) <;> (try simp only [NM] at h)))
  refine AWP.drawF tyOk mixed 10 2 8 (bx := [(9, [.str ByteArray.empty, .nil 3, .nil 1]), (10, [.str ByteArray.empty, .nil 3, .nil 1])]) (by kernel_rfl) rfl rfl rfl rfl rfl rfl (fun p hp q hq => ?_) (fun p hp => ?_) fun K2 hK2 => ?_
  · simp only [List.mem_cons, List.not_mem_nil, or_false] at hp hq
    (rcases hp with rfl | rfl) <;> (rcases hq with rfl | rfl) <;> rfl
  · simp only [List.mem_cons, List.not_mem_nil, or_false] at hp
    (rcases hp with rfl | rfl) <;> (simp -dsimp (disch := (first | omega | (simp only [LN]; omega))) only [go_sem, ↓reduceIte, Nat.reduceLT, Nat.reduceLeDiff, Nat.reduceEqDiff, Nat.reduceAdd, Nat.reduceMul, Nat.reduceSub, Nat.reduceBEq, Nat.reduceBNe, Int.reduceBEq, Int.reduceLT, Int.reduceLE, reduceCtorEq, Int.reduceToNat])
  simp -dsimp (disch := (first | omega | (simp only [LN]; omega))) only [go_sem, ↓reduceIte, Nat.reduceLT, Nat.reduceLeDiff, Nat.reduceEqDiff, Nat.reduceAdd, Nat.reduceMul, Nat.reduceSub, Nat.reduceBEq, Nat.reduceBNe, Int.reduceBEq, Int.reduceLT, Int.reduceLE, reduceCtorEq, Int.reduceToNat]
  repeat (with_reducible refine And.intro (by (first | with_reducible rfl | with_reducible assumption | omega | (simp only [LN]; first | done | with_reducible rfl | omega) | (simp only [NM, LN]; first | done | with_reducible assumption | omega) | (and_intros <;> first | with_reducible assumption | omega | (simp only [LN]; omega)) | fail)) ?_)
  refine hK2 _ (fun p hp => ?_) fun K hK => ?_
  · simp only [List.mem_cons, List.not_mem_nil, or_false] at hp
    (rcases hp with rfl | rfl) <;> (simp -dsimp (disch := (first | omega | (simp only [LN]; omega))) only [go_sem, ↓reduceIte, Nat.reduceLT, Nat.reduceLeDiff, Nat.reduceEqDiff, Nat.reduceAdd, Nat.reduceMul, Nat.reduceSub, Nat.reduceBEq, Nat.reduceBNe, Int.reduceBEq, Int.reduceLT, Int.reduceLE, reduceCtorEq, Int.reduceToNat])
  clear hK2 K2
  simp -dsimp (disch := (first | omega | (simp only [LN]; omega))) only [go_sem, ↓reduceIte, Nat.reduceLT, Nat.reduceLeDiff, Nat.reduceEqDiff, Nat.reduceAdd, Nat.reduceMul, Nat.reduceSub, Nat.reduceBEq, Nat.reduceBNe, Int.reduceBEq, Int.reduceLT, Int.reduceLE, reduceCtorEq, Int.reduceToNat]
  repeat (with_reducible refine And.intro (by (first | with_reducible rfl | with_reducible assumption | omega | (simp only [LN]; first | done | with_reducible rfl | omega) | (simp only [NM, LN]; first | done | with_reducible assumption | omega) | (and_intros <;> first | with_reducible assumption | omega | (simp only [LN]; omega)) | fail)) ?_)
  refine hK _ ?_
  clear hK K
  repeat' (first
    | ((first
      | with_reducible refine AWP.regionL tyOk fun K hK => ?_
      | ((first | with_reducible refine GOn.isT ?_ ?_ | with_reducible refine HOn.isT ?_ ?_ | with_reducible refine pickK.isT ?_ ?_); focus (first | with_reducible rfl | with_reducible assumption | (simp only [NM, LN]; first | done | with_reducible assumption | omega)))
      | ((first | with_reducible refine GOn.isF ?_ ?_ | with_reducible refine HOn.isF ?_ ?_ | with_reducible refine pickK.isF ?_ ?_); focus (first | with_reducible rfl | with_reducible assumption | (simp only [NM, LN]; first | done | with_reducible assumption | omega)))
      | ((first | with_reducible refine GOn.split (fun h => ?_) (fun h => ?_) | with_reducible refine HOn.split (fun h => ?_) (fun h => ?_) | with_reducible refine pickK.split (fun h => ?_) (fun h => ?_)) <;> (try simp only [NM] at h))
      | with_reducible refine AWP.drawAll tyOk mixed 6 (by kernel_rfl) fun K hK => ?_) <;> simp -dsimp (disch := (first | omega | (simp only [LN]; omega))) only [go_sem, ↓reduceIte, Nat.reduceLT, Nat.reduceLeDiff, Nat.reduceEqDiff, Nat.reduceAdd, Nat.reduceMul, Nat.reduceSub, Nat.reduceBEq, Nat.reduceBNe, Int.reduceBEq, Int.reduceLT, Int.reduceLE, reduceCtorEq, Int.reduceToNat])
    | ((with_reducible refine hK _ ?_); clear hK K)
    | with_reducible refine AWP.seq ?_
    | with_reducible refine thenQ_normal ?_
    | with_reducible refine AWP.block ?_
    | with_reducible refine AWP.skip ?_
    | with_reducible refine AWP.ret ?_
    | with_reducible refine thenQ_ret ?_
    | with_reducible refine blockQ_ret ?_
    | with_reducible refine AWP.exit ?_
    | with_reducible refine thenQ_exit ?_
    | with_reducible refine blockQ_normal ?_
    | with_reducible refine blockQ_exit ?_
    | refine blockQ_exit_ne rfl ?_
    | (with_reducible refine And.intro (by (first | with_reducible rfl | with_reducible assumption | omega | (simp only [LN]; first | done | with_reducible rfl | omega) | (simp only [NM, LN]; first | done | with_reducible assumption | omega) | (and_intros <;> first | with_reducible assumption | omega | (simp only [LN]; omega)) | fail)) ?_)
    | ((with_reducible refine AWP.condG (T := TT) (b := ?_) ?_ ?_); rotate_left; exact rfl)
    | with_reducible refine CondG.t ?_
    | with_reducible refine CondG.f ?_
    | with_reducible refine CondG.not ?_
    | ((first | with_reducible refine CondG.isT ?_ ?_); focus (first | with_reducible rfl | with_reducible assumption | (simp only [NM, LN]; first | done | with_reducible assumption | omega)))
    | ((first | with_reducible refine CondG.isF ?_ ?_); focus (first | with_reducible rfl | with_reducible assumption | (simp only [NM, LN]; first | done | with_reducible assumption | omega)))
    | ((with_reducible refine CondG.split (fun h => ?_) (fun h => ?_)) <;> (try simp only [NM] at h)))
  rotate_left
  · simp -dsimp (disch := (first | omega | (simp only [LN]; omega))) only [retQ, Try.results50, resVals, cellRV, resOf, St.rest, St.freeze, RT, go_sem, ↓reduceIte, Nat.reduceLT, Nat.reduceLeDiff, Nat.reduceEqDiff, Nat.reduceAdd, Nat.reduceMul, Nat.reduceSub, Nat.reduceBEq, Nat.reduceBNe, Int.reduceBEq, Int.reduceLT, Int.reduceLE, reduceCtorEq, Int.reduceToNat]
    rename_i hl
    have hl' : ¬ fk.cols.length = s.tables[q].pk.length := by omega
    simp [fkTE, hl']
  have hl : fk.cols.length = s.tables[q].pk.length := by omega
  have spec : fkTE fk s.tables[i] s.tables[q] = match scan (fkColE s.tables[i] s.tables[q]) fk.cols 0 with | some e => e | none => 0 := by simp [fkTE, hl]
  rw [spec]
  refine AWP.loop (ι := {k : Nat // k ≤ fk.cols.length ∧ scan (fkColE s.tables[i] s.tables[q]) (fk.cols.drop k) k = scan (fkColE s.tables[i] s.tables[q]) fk.cols 0}) (fun k => ⟨85, [(9, .v (.one (.ptr 9 0))), (10, .v (.one (.ptr 10 0))), (51, .v (.one (eInts fk.cols))), (52, .v (oI fk.cols.length)), (53, .v (oI k.1))], [(9, eTbl s.tables[i]), (10, eTbl s.tables[q])], []⟩) (fun k => fk.cols.length - k.1) ⟨0, Nat.zero_le _, rfl⟩ ?_ fun ⟨k, hkl, hj⟩ => ?_
  · exact St.le_mk (by simp only [LE, EN, Nat.reduceEqDiff, reduceIte, Nat.reduceSub, eTbl]) (by simp only [LE, EN, Nat.reduceEqDiff, reduceIte, Nat.reduceSub, eTbl]) (by simp only [LE, EN, Nat.reduceEqDiff, reduceIte, Nat.reduceSub, eTbl])
  rcases Nat.lt_or_ge k fk.cols.length with hc | hc
  · have hcp : k < s.tables[q].pk.length := by omega
    obtain ⟨p1, p2, -, -⟩ := okr.key k hcp
    repeat' (first
      | ((first
        | with_reducible refine AWP.regionL tyOk fun K hK => ?_
        | ((first | with_reducible refine GOn.isT ?_ ?_ | with_reducible refine HOn.isT ?_ ?_ | with_reducible refine pickK.isT ?_ ?_); focus (first | with_reducible rfl | with_reducible assumption | (simp only [NM, LN]; first | done | with_reducible assumption | omega)))
        | ((first | with_reducible refine GOn.isF ?_ ?_ | with_reducible refine HOn.isF ?_ ?_ | with_reducible refine pickK.isF ?_ ?_); focus (first | with_reducible rfl | with_reducible assumption | (simp only [NM, LN]; first | done | with_reducible assumption | omega)))
        | ((first | with_reducible refine GOn.split (fun h => ?_) (fun h => ?_) | with_reducible refine HOn.split (fun h => ?_) (fun h => ?_) | with_reducible refine pickK.split (fun h => ?_) (fun h => ?_)) <;> (try simp only [NM] at h))
        | with_reducible refine AWP.drawAll tyOk mixed 6 (by kernel_rfl) fun K hK => ?_) <;> simp -dsimp (disch := (first | omega | (simp only [LN]; omega))) only [go_sem, ↓reduceIte, Nat.reduceLT, Nat.reduceLeDiff, Nat.reduceEqDiff, Nat.reduceAdd, Nat.reduceMul, Nat.reduceSub, Nat.reduceBEq, Nat.reduceBNe, Int.reduceBEq, Int.reduceLT, Int.reduceLE, reduceCtorEq, Int.reduceToNat])
      | ((with_reducible refine hK _ ?_); clear hK K)
      | with_reducible refine AWP.seq ?_
      | with_reducible refine thenQ_normal ?_
      | with_reducible refine AWP.block ?_
      | with_reducible refine AWP.skip ?_
      | with_reducible refine AWP.ret ?_
      | with_reducible refine thenQ_ret ?_
      | with_reducible refine blockQ_ret ?_
      | with_reducible refine AWP.exit ?_
      | with_reducible refine thenQ_exit ?_
      | with_reducible refine blockQ_normal ?_
      | with_reducible refine blockQ_exit ?_
      | refine blockQ_exit_ne rfl ?_
      | (with_reducible refine And.intro (by (first | with_reducible rfl | with_reducible assumption | omega | (simp only [LN]; first | done | with_reducible rfl | omega) | (simp only [NM, LN]; first | done | with_reducible assumption | omega) | (and_intros <;> first | with_reducible assumption | omega | (simp only [LN]; omega)) | fail)) ?_)
      | ((with_reducible refine AWP.condG (T := TT) (b := ?_) ?_ ?_); rotate_left; exact rfl)
      | with_reducible refine CondG.t ?_
      | with_reducible refine CondG.f ?_
      | with_reducible refine CondG.not ?_
      | ((first | with_reducible refine CondG.isT ?_ ?_); focus (first | with_reducible rfl | with_reducible assumption | (simp only [NM, LN]; first | done | with_reducible assumption | omega)))
      | ((first | with_reducible refine CondG.isF ?_ ?_); focus (first | with_reducible rfl | with_reducible assumption | (simp only [NM, LN]; first | done | with_reducible assumption | omega)))
      | ((with_reducible refine CondG.split (fun h => ?_) (fun h => ?_)) <;> (try simp only [NM] at h)))
    all_goals
      first
        | (have hs : (fkColE s.tables[i] s.tables[q]) k fk.cols[k] = none := by
             (simp (disch := omega) only [fkColE, getD_lt]; (repeat' split) <;> first | rfl | with_reducible assumption | omega | (exfalso; omega) | (simp_all; done) | (simp_all; omega))
           refine ⟨⟨k + 1, by omega, by rw [scan_step (by omega) hs, hj]⟩, by simp only; omega, ?_⟩
           exact St.le_mk (by simp only [LE, EN, Nat.reduceEqDiff, reduceIte, Nat.reduceSub, eTbl]) (by simp only [LE, EN, Nat.reduceEqDiff, reduceIte, Nat.reduceSub, eTbl]) (by simp only [LE, EN, Nat.reduceEqDiff, reduceIte, Nat.reduceSub, eTbl])
           done)
        | (simp -dsimp (disch := (first | omega | (simp only [LN]; omega))) only [retQ, Try.results50, resVals, cellRV, resOf, St.rest, St.freeze, RT, go_sem, ↓reduceIte, Nat.reduceLT, Nat.reduceLeDiff, Nat.reduceEqDiff, Nat.reduceAdd, Nat.reduceMul, Nat.reduceSub, Nat.reduceBEq, Nat.reduceBNe, Int.reduceBEq, Int.reduceLT, Int.reduceLE, reduceCtorEq, Int.reduceToNat]
           rw [scan_leaf (by omega) ?_ hj]
           all_goals first | with_reducible rfl | ((simp (disch := omega) only [fkColE, getD_lt]; (repeat' split) <;> first | rfl | with_reducible assumption | omega | (exfalso; omega) | (simp_all; done) | (simp_all; omega)); done) | rfl
           done)
  · rw [scan_end (by omega)] at hj
    repeat' (first
      | ((first
        | with_reducible refine AWP.regionL tyOk fun K hK => ?_
        | ((first | with_reducible refine GOn.isT ?_ ?_ | with_reducible refine HOn.isT ?_ ?_ | with_reducible refine pickK.isT ?_ ?_); focus (first | with_reducible rfl | with_reducible assumption | (simp only [NM, LN]; first | done | with_reducible assumption | omega)))
        | ((first | with_reducible refine GOn.isF ?_ ?_ | with_reducible refine HOn.isF ?_ ?_ | with_reducible refine pickK.isF ?_ ?_); focus (first | with_reducible rfl | with_reducible assumption | (simp only [NM, LN]; first | done | with_reducible assumption | omega)))
        | ((first | with_reducible refine GOn.split (fun h => ?_) (fun h => ?_) | with_reducible refine HOn.split (fun h => ?_) (fun h => ?_) | with_reducible refine pickK.split (fun h => ?_) (fun h => ?_)) <;> (try simp only [NM] at h))
        | with_reducible refine AWP.drawAll tyOk mixed 6 (by kernel_rfl) fun K hK => ?_) <;> simp -dsimp (disch := (first | omega | (simp only [LN]; omega))) only [go_sem, ↓reduceIte, Nat.reduceLT, Nat.reduceLeDiff, Nat.reduceEqDiff, Nat.reduceAdd, Nat.reduceMul, Nat.reduceSub, Nat.reduceBEq, Nat.reduceBNe, Int.reduceBEq, Int.reduceLT, Int.reduceLE, reduceCtorEq, Int.reduceToNat])
      | ((with_reducible refine hK _ ?_); clear hK K)
      | with_reducible refine AWP.seq ?_
      | with_reducible refine thenQ_normal ?_
      | with_reducible refine AWP.block ?_
      | with_reducible refine AWP.skip ?_
      | with_reducible refine AWP.ret ?_
      | with_reducible refine thenQ_ret ?_
      | with_reducible refine blockQ_ret ?_
      | with_reducible refine AWP.exit ?_
      | with_reducible refine thenQ_exit ?_
      | with_reducible refine blockQ_normal ?_
      | with_reducible refine blockQ_exit ?_
      | refine blockQ_exit_ne rfl ?_
      | (with_reducible refine And.intro (by (first | with_reducible rfl | with_reducible assumption | omega | (simp only [LN]; first | done | with_reducible rfl | omega) | (simp only [NM, LN]; first | done | with_reducible assumption | omega) | (and_intros <;> first | with_reducible assumption | omega | (simp only [LN]; omega)) | fail)) ?_)
      | ((with_reducible refine AWP.condG (T := TT) (b := ?_) ?_ ?_); rotate_left; exact rfl)
      | with_reducible refine CondG.t ?_
      | with_reducible refine CondG.f ?_
      | with_reducible refine CondG.not ?_
      | ((first | with_reducible refine CondG.isT ?_ ?_); focus (first | with_reducible rfl | with_reducible assumption | (simp only [NM, LN]; first | done | with_reducible assumption | omega)))
      | ((first | with_reducible refine CondG.isF ?_ ?_); focus (first | with_reducible rfl | with_reducible assumption | (simp only [NM, LN]; first | done | with_reducible assumption | omega)))
      | ((with_reducible refine CondG.split (fun h => ?_) (fun h => ?_)) <;> (try simp only [NM] at h)))
    simp -dsimp (disch := (first | omega | (simp only [LN]; omega))) only [retQ, Try.results50, resVals, cellRV, resOf, St.rest, St.freeze, RT, go_sem, ↓reduceIte, Nat.reduceLT, Nat.reduceLeDiff, Nat.reduceEqDiff, Nat.reduceAdd, Nat.reduceMul, Nat.reduceSub, Nat.reduceBEq, Nat.reduceBNe, Int.reduceBEq, Int.reduceLT, Int.reduceLE, reduceCtorEq, Int.reduceToNat]
    rw [← hj]

set_option maxHeartbeats 4000000 in
theorem satisfies_sat (a b : Val) (op : ByteArray) : Sat Try.prog 93 [.agg (eVal a), oS op, .agg (eVal b)] (.tup [oB (satV a op b), oI (satE op)]) := by
  refine sat_of_body tyOk Try.func93 rfl (by kernel_rfl) ⟨Nat.le_of_ble_eq_true rfl, Nat.le_of_ble_eq_true rfl⟩ fun w0 m0 F0 => ?_
  simp only [Try.ntmps93, envOf, Nat.reduceAdd]
  repeat' (first
    | ((first
      | with_reducible refine AWP.regionL tyOk fun K hK => ?_
      | ((first | with_reducible refine GOn.isT ?_ ?_ | with_reducible refine HOn.isT ?_ ?_ | with_reducible refine pickK.isT ?_ ?_); focus (first | with_reducible rfl | with_reducible assumption | (simp only [NM, LN]; first | done | with_reducible assumption | omega)))
      | ((first | with_reducible refine GOn.isF ?_ ?_ | with_reducible refine HOn.isF ?_ ?_ | with_reducible refine pickK.isF ?_ ?_); focus (first | with_reducible rfl | with_reducible assumption | (simp only [NM, LN]; first | done | with_reducible assumption | omega)))
      | ((first | with_reducible refine GOn.split (fun h => ?_) (fun h => ?_) | with_reducible refine HOn.split (fun h => ?_) (fun h => ?_) | with_reducible refine pickK.split (fun h => ?_) (fun h => ?_)) <;> (try simp only [NM] at h))
      | with_reducible refine AWP.drawAll tyOk mixed 6 (by kernel_rfl) fun K hK => ?_
      | ((with_reducible refine CallJ.is ?_); (first | refine CallJ.pure (compare_sat _ _) ?_ | ((first | refine CallJ.lent (compare_sat _ _) ?_ ?_; focus (simp -dsimp (disch := (first | omega | (simp only [LN]; omega))) only [go_sem, ↓reduceIte, Nat.reduceLT, Nat.reduceLeDiff, Nat.reduceEqDiff, Nat.reduceAdd, Nat.reduceMul, Nat.reduceSub, Nat.reduceBEq, Nat.reduceBNe, Int.reduceBEq, Int.reduceLT, Int.reduceLE, reduceCtorEq, Int.reduceToNat]; done)))))
      | ((with_reducible refine CallH.is ?_); (first | refine CallH.intro (compare_sat _ _) ?_))) <;> simp -dsimp (disch := (first | omega | (simp only [LN]; omega))) only [go_sem, ↓reduceIte, Nat.reduceLT, Nat.reduceLeDiff, Nat.reduceEqDiff, Nat.reduceAdd, Nat.reduceMul, Nat.reduceSub, Nat.reduceBEq, Nat.reduceBNe, Int.reduceBEq, Int.reduceLT, Int.reduceLE, reduceCtorEq, Int.reduceToNat])
    | ((with_reducible refine hK _ ?_); clear hK K)
    | with_reducible refine AWP.seq ?_
    | with_reducible refine thenQ_normal ?_
    | with_reducible refine AWP.block ?_
    | with_reducible refine AWP.skip ?_
    | with_reducible refine AWP.ret ?_
    | with_reducible refine thenQ_ret ?_
    | with_reducible refine blockQ_ret ?_
    | with_reducible refine AWP.exit ?_
    | with_reducible refine thenQ_exit ?_
    | with_reducible refine blockQ_normal ?_
    | with_reducible refine blockQ_exit ?_
    | refine blockQ_exit_ne rfl ?_
    | (with_reducible refine And.intro (by (first | with_reducible rfl | with_reducible assumption | omega | (simp only [LN]; first | done | with_reducible rfl | omega) | (simp only [NM, LN]; first | done | with_reducible assumption | omega) | (and_intros <;> first | with_reducible assumption | omega | (simp only [LN]; omega)) | fail)) ?_)
    | ((with_reducible refine AWP.condG (T := TT) (b := ?_) ?_ ?_); rotate_left; exact rfl)
    | with_reducible refine CondG.t ?_
    | with_reducible refine CondG.f ?_
    | with_reducible refine CondG.not ?_
    | ((first | with_reducible refine CondG.isT ?_ ?_); focus (first | with_reducible rfl | with_reducible assumption | (simp only [NM, LN]; first | done | with_reducible assumption | omega)))
    | ((first | with_reducible refine CondG.isF ?_ ?_); focus (first | with_reducible rfl | with_reducible assumption | (simp only [NM, LN]; first | done | with_reducible assumption | omega)))
    | ((with_reducible refine CondG.split (fun h => ?_) (fun h => ?_)) <;> (try simp only [NM] at h)))
  all_goals try simp -dsimp (disch := (first | omega | (simp only [LN]; omega))) only [retQ, Try.results93, resVals, cellRV, resOf, St.rest, St.freeze, RT, go_sem, ↓reduceIte, Nat.reduceLT, Nat.reduceLeDiff, Nat.reduceEqDiff, Nat.reduceAdd, Nat.reduceMul, Nat.reduceSub, Nat.reduceBEq, Nat.reduceBNe, Int.reduceBEq, Int.reduceLT, Int.reduceLE, reduceCtorEq, Int.reduceToNat]
  all_goals try simp_all [satV, satE, sEq, opOk, opEq, opLt, opLe]

set_option maxHeartbeats 4000000 in
theorem validate_sat (v : Val) : Sat Try.prog 94 [.agg (eVal v)] (.v (oI (valE v))) := by
  refine sat_of_body tyOk Try.func94 rfl (by kernel_rfl) ⟨Nat.le_of_ble_eq_true rfl, Nat.le_of_ble_eq_true rfl⟩ fun w0 m0 F0 => ?_
  simp only [Try.ntmps94, envOf, Nat.reduceAdd]
  repeat' (first
    | ((first
      | with_reducible refine AWP.regionL tyOk fun K hK => ?_
      | ((first | with_reducible refine GOn.isT ?_ ?_ | with_reducible refine HOn.isT ?_ ?_ | with_reducible refine pickK.isT ?_ ?_); focus (first | with_reducible rfl | with_reducible assumption | (simp only [NM, LN]; first | done | with_reducible assumption | omega)))
      | ((first | with_reducible refine GOn.isF ?_ ?_ | with_reducible refine HOn.isF ?_ ?_ | with_reducible refine pickK.isF ?_ ?_); focus (first | with_reducible rfl | with_reducible assumption | (simp only [NM, LN]; first | done | with_reducible assumption | omega)))
      | ((first | with_reducible refine GOn.split (fun h => ?_) (fun h => ?_) | with_reducible refine HOn.split (fun h => ?_) (fun h => ?_) | with_reducible refine pickK.split (fun h => ?_) (fun h => ?_)) <;> (try simp only [NM] at h))
      | with_reducible refine AWP.drawAll tyOk mixed 6 (by kernel_rfl) fun K hK => ?_) <;> simp -dsimp (disch := (first | omega | (simp only [LN]; omega))) only [go_sem, ↓reduceIte, Nat.reduceLT, Nat.reduceLeDiff, Nat.reduceEqDiff, Nat.reduceAdd, Nat.reduceMul, Nat.reduceSub, Nat.reduceBEq, Nat.reduceBNe, Int.reduceBEq, Int.reduceLT, Int.reduceLE, reduceCtorEq, Int.reduceToNat])
    | ((with_reducible refine hK _ ?_); clear hK K)
    | with_reducible refine AWP.seq ?_
    | with_reducible refine thenQ_normal ?_
    | with_reducible refine AWP.block ?_
    | with_reducible refine AWP.skip ?_
    | with_reducible refine AWP.ret ?_
    | with_reducible refine thenQ_ret ?_
    | with_reducible refine blockQ_ret ?_
    | with_reducible refine AWP.exit ?_
    | with_reducible refine thenQ_exit ?_
    | with_reducible refine blockQ_normal ?_
    | with_reducible refine blockQ_exit ?_
    | refine blockQ_exit_ne rfl ?_
    | (with_reducible refine And.intro (by (first | with_reducible rfl | with_reducible assumption | omega | (simp only [LN]; first | done | with_reducible rfl | omega) | (simp only [NM, LN]; first | done | with_reducible assumption | omega) | (and_intros <;> first | with_reducible assumption | omega | (simp only [LN]; omega)) | fail)) ?_)
    | ((with_reducible refine AWP.condG (T := TT) (b := ?_) ?_ ?_); rotate_left; exact rfl)
    | with_reducible refine CondG.t ?_
    | with_reducible refine CondG.f ?_
    | with_reducible refine CondG.not ?_
    | ((first | with_reducible refine CondG.isT ?_ ?_); focus (first | with_reducible rfl | with_reducible assumption | (simp only [NM, LN]; first | done | with_reducible assumption | omega)))
    | ((first | with_reducible refine CondG.isF ?_ ?_); focus (first | with_reducible rfl | with_reducible assumption | (simp only [NM, LN]; first | done | with_reducible assumption | omega)))
    | ((with_reducible refine CondG.split (fun h => ?_) (fun h => ?_)) <;> (try simp only [NM] at h)))
  all_goals simp -dsimp (disch := (first | omega | (simp only [LN]; omega))) only [retQ, Try.results94, resVals, cellRV, resOf, St.rest, St.freeze, RT, go_sem, ↓reduceIte, Nat.reduceLT, Nat.reduceLeDiff, Nat.reduceEqDiff, Nat.reduceAdd, Nat.reduceMul, Nat.reduceSub, Nat.reduceBEq, Nat.reduceBNe, Int.reduceBEq, Int.reduceLT, Int.reduceLE, reduceCtorEq, Int.reduceToNat]
  all_goals simp_all [valE, sEq]
  all_goals omega

def conE (s : Sch) (c : Con) : Int :=
  if tblAt s.tables c.table < 0 then 4 else
  let cols := (s.tables.getD (tblAt s.tables c.table).toNat zTbl).cols
  if c.left < 0 ∨ (cols.length : Int) ≤ c.left ∨ opOk c.op = false ∨ c.right < -1 ∨ (cols.length : Int) ≤ c.right ∨ (0 ≤ c.right ∧ c.value ≠ zV) then 3
  else if 0 ≤ c.right then (if (cols.getD c.left.toNat zCol).kind ≠ (cols.getD c.right.toNat zCol).kind then 7 else 0)
  else if c.value.kind ≠ (cols.getD c.left.toNat zCol).kind then 7 else valE c.value

theorem bytes_ext {a b : ByteArray} (h : a.toList = b.toList) : a = b := by
  rw [ByteArray.toList_eq, ByteArray.toList_eq] at h
  obtain ⟨⟨x⟩⟩ := a
  obtain ⟨⟨y⟩⟩ := b
  have h : x = y := h
  rw [h]
theorem zV_iff {v : Val} : v = zV ↔ v.kind = 0 ∧ v.int = 0 ∧ v.text.toList = ByteArray.empty.toList := by
  constructor
  · rintro rfl
    exact ⟨rfl, rfl, rfl⟩
  · rintro ⟨a, b, c⟩
    cases v
    simp only at a b c
    subst a b
    rw [bytes_ext c]
    rfl
set_option maxHeartbeats 8000000 in
theorem validateCon_sat (s : Sch) (c : Con) (h1 : s.tables.length ≤ 140737488355328) (h2 : ∀ t ∈ s.tables, t.cols.length ≤ 140737488355328) :
    Sat Try.prog 53 [.agg (eSch s), .agg (eCon c)] (.v (oI (conE s c))) := by
  rcases idx_cases (fun t => sEq t.name c.table) s.tables 0 with ⟨e1, _⟩ | ⟨i, hi, e1, _⟩
  · have e1 : tblAt s.tables c.table = -1 := e1
    refine sat_of_body tyOk Try.func53 rfl (by kernel_rfl) ⟨Nat.le_of_ble_eq_true rfl, Nat.le_of_ble_eq_true rfl⟩ fun w0 m0 F0 => ?_
    simp only [Try.ntmps53, envOf, Nat.reduceAdd]
    repeat' (first
      | ((first
        | with_reducible refine AWP.regionL tyOk fun K hK => ?_
        | ((first | with_reducible refine GOn.isT ?_ ?_ | with_reducible refine HOn.isT ?_ ?_ | with_reducible refine pickK.isT ?_ ?_); focus (first | with_reducible rfl | with_reducible assumption | (simp only [NM, LN]; first | done | with_reducible assumption | omega)))
        | ((first | with_reducible refine GOn.isF ?_ ?_ | with_reducible refine HOn.isF ?_ ?_ | with_reducible refine pickK.isF ?_ ?_); focus (first | with_reducible rfl | with_reducible assumption | (simp only [NM, LN]; first | done | with_reducible assumption | omega)))
        | ((first | with_reducible refine GOn.split (fun h => ?_) (fun h => ?_) | with_reducible refine HOn.split (fun h => ?_) (fun h => ?_) | with_reducible refine pickK.split (fun h => ?_) (fun h => ?_)) <;> (try simp only [NM] at h))
        | with_reducible refine AWP.drawAll tyOk mixed 6 (by kernel_rfl) fun K hK => ?_
        | ((with_reducible refine CallJ.is ?_); (first | refine CallJ.pure (findTable_sat _ _ h1) ?_ | refine CallJ.pure (satisfies_sat zV zV _) ?_ | refine CallJ.pure (validate_sat _) ?_ | ((first | refine CallJ.lent (findTable_sat _ _ h1) ?_ ?_; focus (simp -dsimp (disch := (first | omega | (simp only [LN]; omega))) only [go_sem, ↓reduceIte, Nat.reduceLT, Nat.reduceLeDiff, Nat.reduceEqDiff, Nat.reduceAdd, Nat.reduceMul, Nat.reduceSub, Nat.reduceBEq, Nat.reduceBNe, Int.reduceBEq, Int.reduceLT, Int.reduceLE, reduceCtorEq, Int.reduceToNat, e1, mx0_neg]; done) | refine CallJ.lent (satisfies_sat zV zV _) ?_ ?_; focus (simp -dsimp (disch := (first | omega | (simp only [LN]; omega))) only [go_sem, ↓reduceIte, Nat.reduceLT, Nat.reduceLeDiff, Nat.reduceEqDiff, Nat.reduceAdd, Nat.reduceMul, Nat.reduceSub, Nat.reduceBEq, Nat.reduceBNe, Int.reduceBEq, Int.reduceLT, Int.reduceLE, reduceCtorEq, Int.reduceToNat, e1, mx0_neg]; done) | refine CallJ.lent (validate_sat _) ?_ ?_; focus (simp -dsimp (disch := (first | omega | (simp only [LN]; omega))) only [go_sem, ↓reduceIte, Nat.reduceLT, Nat.reduceLeDiff, Nat.reduceEqDiff, Nat.reduceAdd, Nat.reduceMul, Nat.reduceSub, Nat.reduceBEq, Nat.reduceBNe, Int.reduceBEq, Int.reduceLT, Int.reduceLE, reduceCtorEq, Int.reduceToNat, e1, mx0_neg]; done)))))
        | ((with_reducible refine CallH.is ?_); (first | refine CallH.intro (findTable_sat _ _ h1) ?_ | refine CallH.intro (satisfies_sat zV zV _) ?_ | refine CallH.intro (validate_sat _) ?_))) <;> simp -dsimp (disch := (first | omega | (simp only [LN]; omega))) only [go_sem, ↓reduceIte, Nat.reduceLT, Nat.reduceLeDiff, Nat.reduceEqDiff, Nat.reduceAdd, Nat.reduceMul, Nat.reduceSub, Nat.reduceBEq, Nat.reduceBNe, Int.reduceBEq, Int.reduceLT, Int.reduceLE, reduceCtorEq, Int.reduceToNat, e1, mx0_neg])
      | ((with_reducible refine hK _ ?_); clear hK K)
      | with_reducible refine AWP.seq ?_
      | with_reducible refine thenQ_normal ?_
      | with_reducible refine AWP.block ?_
      | with_reducible refine AWP.skip ?_
      | with_reducible refine AWP.ret ?_
      | with_reducible refine thenQ_ret ?_
      | with_reducible refine blockQ_ret ?_
      | with_reducible refine AWP.exit ?_
      | with_reducible refine thenQ_exit ?_
      | with_reducible refine blockQ_normal ?_
      | with_reducible refine blockQ_exit ?_
      | refine blockQ_exit_ne rfl ?_
      | (with_reducible refine And.intro (by (first | with_reducible rfl | with_reducible assumption | omega | (simp only [LN]; first | done | with_reducible rfl | omega) | (simp only [NM, LN]; first | done | with_reducible assumption | omega) | (and_intros <;> first | with_reducible assumption | omega | (simp only [LN]; omega)) | fail)) ?_)
      | ((with_reducible refine AWP.condG (T := TT) (b := ?_) ?_ ?_); rotate_left; exact rfl)
      | with_reducible refine CondG.t ?_
      | with_reducible refine CondG.f ?_
      | with_reducible refine CondG.not ?_
      | ((first | with_reducible refine CondG.isT ?_ ?_); focus (first | with_reducible rfl | with_reducible assumption | (simp only [NM, LN]; first | done | with_reducible assumption | omega)))
      | ((first | with_reducible refine CondG.isF ?_ ?_); focus (first | with_reducible rfl | with_reducible assumption | (simp only [NM, LN]; first | done | with_reducible assumption | omega)))
      | ((with_reducible refine CondG.split (fun h => ?_) (fun h => ?_)) <;> (try simp only [NM] at h)))
    simp -dsimp (disch := (first | omega | (simp only [LN]; omega))) only [retQ, Try.results53, resVals, cellRV, resOf, St.rest, St.freeze, RT, go_sem, ↓reduceIte, Nat.reduceLT, Nat.reduceLeDiff, Nat.reduceEqDiff, Nat.reduceAdd, Nat.reduceMul, Nat.reduceSub, Nat.reduceBEq, Nat.reduceBNe, Int.reduceBEq, Int.reduceLT, Int.reduceLE, reduceCtorEq, Int.reduceToNat]
    simp [conE, e1]
  have e1 : tblAt s.tables c.table = (i : Int) := by unfold tblAt; simpa using e1
  have g1 : s.tables.getD i zTbl = s.tables[i] := by simp [List.getD, hi]
  have spec : conE s c = if c.left < 0 ∨ (s.tables[i].cols.length : Int) ≤ c.left ∨ opOk c.op = false ∨ c.right < -1 ∨ (s.tables[i].cols.length : Int) ≤ c.right ∨ (0 ≤ c.right ∧ c.value ≠ zV) then 3
      else if 0 ≤ c.right then (if (s.tables[i].cols.getD c.left.toNat zCol).kind ≠ (s.tables[i].cols.getD c.right.toNat zCol).kind then 7 else 0)
      else if c.value.kind ≠ (s.tables[i].cols.getD c.left.toNat zCol).kind then 7 else valE c.value := by
    simp only [conE, e1, Int.toNat_natCast, g1]
    rw [if_neg (by omega)]
  rw [spec]
  cases ho : opOk c.op with
  | false =>
    have e3 : satE c.op = 3 := by simp [satE, ho]
    refine sat_of_body tyOk Try.func53 rfl (by kernel_rfl) ⟨Nat.le_of_ble_eq_true rfl, Nat.le_of_ble_eq_true rfl⟩ fun w0 m0 F0 => ?_
    simp only [Try.ntmps53, envOf, Nat.reduceAdd]
    repeat' (first
      | ((first
        | with_reducible refine AWP.regionL tyOk fun K hK => ?_
        | ((first | with_reducible refine GOn.isT ?_ ?_ | with_reducible refine HOn.isT ?_ ?_ | with_reducible refine pickK.isT ?_ ?_); focus (first | with_reducible rfl | with_reducible assumption | (simp only [NM, LN]; first | done | with_reducible assumption | omega)))
        | ((first | with_reducible refine GOn.isF ?_ ?_ | with_reducible refine HOn.isF ?_ ?_ | with_reducible refine pickK.isF ?_ ?_); focus (first | with_reducible rfl | with_reducible assumption | (simp only [NM, LN]; first | done | with_reducible assumption | omega)))
        | ((first | with_reducible refine GOn.split (fun h => ?_) (fun h => ?_) | with_reducible refine HOn.split (fun h => ?_) (fun h => ?_) | with_reducible refine pickK.split (fun h => ?_) (fun h => ?_)) <;> (try simp only [NM] at h))
        | with_reducible refine AWP.drawAll tyOk mixed 6 (by kernel_rfl) fun K hK => ?_
        | ((with_reducible refine CallJ.is ?_); (first | refine CallJ.pure (findTable_sat _ _ h1) ?_ | refine CallJ.pure (satisfies_sat zV zV _) ?_ | refine CallJ.pure (validate_sat _) ?_ | ((first | refine CallJ.lent (findTable_sat _ _ h1) ?_ ?_; focus (simp -dsimp (disch := (first | omega | (simp only [LN]; omega))) only [go_sem, ↓reduceIte, Nat.reduceLT, Nat.reduceLeDiff, Nat.reduceEqDiff, Nat.reduceAdd, Nat.reduceMul, Nat.reduceSub, Nat.reduceBEq, Nat.reduceBNe, Int.reduceBEq, Int.reduceLT, Int.reduceLE, reduceCtorEq, Int.reduceToNat, e1, mx0_neg, mx0_nat, e3]; done) | refine CallJ.lent (satisfies_sat zV zV _) ?_ ?_; focus (simp -dsimp (disch := (first | omega | (simp only [LN]; omega))) only [go_sem, ↓reduceIte, Nat.reduceLT, Nat.reduceLeDiff, Nat.reduceEqDiff, Nat.reduceAdd, Nat.reduceMul, Nat.reduceSub, Nat.reduceBEq, Nat.reduceBNe, Int.reduceBEq, Int.reduceLT, Int.reduceLE, reduceCtorEq, Int.reduceToNat, e1, mx0_neg, mx0_nat, e3]; done) | refine CallJ.lent (validate_sat _) ?_ ?_; focus (simp -dsimp (disch := (first | omega | (simp only [LN]; omega))) only [go_sem, ↓reduceIte, Nat.reduceLT, Nat.reduceLeDiff, Nat.reduceEqDiff, Nat.reduceAdd, Nat.reduceMul, Nat.reduceSub, Nat.reduceBEq, Nat.reduceBNe, Int.reduceBEq, Int.reduceLT, Int.reduceLE, reduceCtorEq, Int.reduceToNat, e1, mx0_neg, mx0_nat, e3]; done)))))
        | ((with_reducible refine CallH.is ?_); (first | refine CallH.intro (findTable_sat _ _ h1) ?_ | refine CallH.intro (satisfies_sat zV zV _) ?_ | refine CallH.intro (validate_sat _) ?_))) <;> simp -dsimp (disch := (first | omega | (simp only [LN]; omega))) only [go_sem, ↓reduceIte, Nat.reduceLT, Nat.reduceLeDiff, Nat.reduceEqDiff, Nat.reduceAdd, Nat.reduceMul, Nat.reduceSub, Nat.reduceBEq, Nat.reduceBNe, Int.reduceBEq, Int.reduceLT, Int.reduceLE, reduceCtorEq, Int.reduceToNat, e1, mx0_neg, mx0_nat, e3])
      | ((with_reducible refine hK _ ?_); clear hK K)
      | with_reducible refine AWP.seq ?_
      | with_reducible refine thenQ_normal ?_
      | with_reducible refine AWP.block ?_
      | with_reducible refine AWP.skip ?_
      | with_reducible refine AWP.ret ?_
      | with_reducible refine thenQ_ret ?_
      | with_reducible refine blockQ_ret ?_
      | with_reducible refine AWP.exit ?_
      | with_reducible refine thenQ_exit ?_
      | with_reducible refine blockQ_normal ?_
      | with_reducible refine blockQ_exit ?_
      | refine blockQ_exit_ne rfl ?_
      | (with_reducible refine And.intro (by (first | with_reducible rfl | with_reducible assumption | omega | (simp only [LN]; first | done | with_reducible rfl | omega) | (simp only [NM, LN]; first | done | with_reducible assumption | omega) | (and_intros <;> first | with_reducible assumption | omega | (simp only [LN]; omega)) | fail)) ?_)
      | ((with_reducible refine AWP.condG (T := TT) (b := ?_) ?_ ?_); rotate_left; exact rfl)
      | with_reducible refine CondG.t ?_
      | with_reducible refine CondG.f ?_
      | with_reducible refine CondG.not ?_
      | ((first | with_reducible refine CondG.isT ?_ ?_); focus (first | with_reducible rfl | with_reducible assumption | (simp only [NM, LN]; first | done | with_reducible assumption | omega)))
      | ((first | with_reducible refine CondG.isF ?_ ?_); focus (first | with_reducible rfl | with_reducible assumption | (simp only [NM, LN]; first | done | with_reducible assumption | omega)))
      | ((with_reducible refine CondG.split (fun h => ?_) (fun h => ?_)) <;> (try simp only [NM] at h)))
    all_goals simp -dsimp (disch := (first | omega | (simp only [LN]; omega))) only [retQ, Try.results53, resVals, cellRV, resOf, St.rest, St.freeze, RT, go_sem, ↓reduceIte, Nat.reduceLT, Nat.reduceLeDiff, Nat.reduceEqDiff, Nat.reduceAdd, Nat.reduceMul, Nat.reduceSub, Nat.reduceBEq, Nat.reduceBNe, Int.reduceBEq, Int.reduceLT, Int.reduceLE, reduceCtorEq, Int.reduceToNat]
    all_goals
      (simp (disch := omega) only [ho, ne_eq, zV_iff, getD_lt]
       (repeat' split) <;> first
         | rfl
         | omega
         | (exfalso; omega)
         | (exfalso; simp_all; done)
         | (simp_all; done)
         | (simp_all; omega)
         | (exfalso; simp_all; omega))
  | true =>
    have e3 : satE c.op = 0 := by simp [satE, ho]
    refine sat_of_body tyOk Try.func53 rfl (by kernel_rfl) ⟨Nat.le_of_ble_eq_true rfl, Nat.le_of_ble_eq_true rfl⟩ fun w0 m0 F0 => ?_
    simp only [Try.ntmps53, envOf, Nat.reduceAdd]
    repeat' (first
      | ((first
        | with_reducible refine AWP.regionL tyOk fun K hK => ?_
        | ((first | with_reducible refine GOn.isT ?_ ?_ | with_reducible refine HOn.isT ?_ ?_ | with_reducible refine pickK.isT ?_ ?_); focus (first | with_reducible rfl | with_reducible assumption | (simp only [NM, LN]; first | done | with_reducible assumption | omega)))
        | ((first | with_reducible refine GOn.isF ?_ ?_ | with_reducible refine HOn.isF ?_ ?_ | with_reducible refine pickK.isF ?_ ?_); focus (first | with_reducible rfl | with_reducible assumption | (simp only [NM, LN]; first | done | with_reducible assumption | omega)))
        | ((first | with_reducible refine GOn.split (fun h => ?_) (fun h => ?_) | with_reducible refine HOn.split (fun h => ?_) (fun h => ?_) | with_reducible refine pickK.split (fun h => ?_) (fun h => ?_)) <;> (try simp only [NM] at h))
        | with_reducible refine AWP.drawAll tyOk mixed 6 (by kernel_rfl) fun K hK => ?_
        | ((with_reducible refine CallJ.is ?_); (first | refine CallJ.pure (findTable_sat _ _ h1) ?_ | refine CallJ.pure (satisfies_sat zV zV _) ?_ | refine CallJ.pure (validate_sat _) ?_ | ((first | refine CallJ.lent (findTable_sat _ _ h1) ?_ ?_; focus (simp -dsimp (disch := (first | omega | (simp only [LN]; omega))) only [go_sem, ↓reduceIte, Nat.reduceLT, Nat.reduceLeDiff, Nat.reduceEqDiff, Nat.reduceAdd, Nat.reduceMul, Nat.reduceSub, Nat.reduceBEq, Nat.reduceBNe, Int.reduceBEq, Int.reduceLT, Int.reduceLE, reduceCtorEq, Int.reduceToNat, e1, mx0_neg, mx0_nat, e3]; done) | refine CallJ.lent (satisfies_sat zV zV _) ?_ ?_; focus (simp -dsimp (disch := (first | omega | (simp only [LN]; omega))) only [go_sem, ↓reduceIte, Nat.reduceLT, Nat.reduceLeDiff, Nat.reduceEqDiff, Nat.reduceAdd, Nat.reduceMul, Nat.reduceSub, Nat.reduceBEq, Nat.reduceBNe, Int.reduceBEq, Int.reduceLT, Int.reduceLE, reduceCtorEq, Int.reduceToNat, e1, mx0_neg, mx0_nat, e3]; done) | refine CallJ.lent (validate_sat _) ?_ ?_; focus (simp -dsimp (disch := (first | omega | (simp only [LN]; omega))) only [go_sem, ↓reduceIte, Nat.reduceLT, Nat.reduceLeDiff, Nat.reduceEqDiff, Nat.reduceAdd, Nat.reduceMul, Nat.reduceSub, Nat.reduceBEq, Nat.reduceBNe, Int.reduceBEq, Int.reduceLT, Int.reduceLE, reduceCtorEq, Int.reduceToNat, e1, mx0_neg, mx0_nat, e3]; done)))))
        | ((with_reducible refine CallH.is ?_); (first | refine CallH.intro (findTable_sat _ _ h1) ?_ | refine CallH.intro (satisfies_sat zV zV _) ?_ | refine CallH.intro (validate_sat _) ?_))) <;> simp -dsimp (disch := (first | omega | (simp only [LN]; omega))) only [go_sem, ↓reduceIte, Nat.reduceLT, Nat.reduceLeDiff, Nat.reduceEqDiff, Nat.reduceAdd, Nat.reduceMul, Nat.reduceSub, Nat.reduceBEq, Nat.reduceBNe, Int.reduceBEq, Int.reduceLT, Int.reduceLE, reduceCtorEq, Int.reduceToNat, e1, mx0_neg, mx0_nat, e3])
      | ((with_reducible refine hK _ ?_); clear hK K)
      | with_reducible refine AWP.seq ?_
      | with_reducible refine thenQ_normal ?_
      | with_reducible refine AWP.block ?_
      | with_reducible refine AWP.skip ?_
      | with_reducible refine AWP.ret ?_
      | with_reducible refine thenQ_ret ?_
      | with_reducible refine blockQ_ret ?_
      | with_reducible refine AWP.exit ?_
      | with_reducible refine thenQ_exit ?_
      | with_reducible refine blockQ_normal ?_
      | with_reducible refine blockQ_exit ?_
      | refine blockQ_exit_ne rfl ?_
      | (with_reducible refine And.intro (by (first | with_reducible rfl | with_reducible assumption | omega | (simp only [LN]; first | done | with_reducible rfl | omega) | (simp only [NM, LN]; first | done | with_reducible assumption | omega) | (and_intros <;> first | with_reducible assumption | omega | (simp only [LN]; omega)) | fail)) ?_)
      | ((with_reducible refine AWP.condG (T := TT) (b := ?_) ?_ ?_); rotate_left; exact rfl)
      | with_reducible refine CondG.t ?_
      | with_reducible refine CondG.f ?_
      | with_reducible refine CondG.not ?_
      | ((first | with_reducible refine CondG.isT ?_ ?_); focus (first | with_reducible rfl | with_reducible assumption | (simp only [NM, LN]; first | done | with_reducible assumption | omega)))
      | ((first | with_reducible refine CondG.isF ?_ ?_); focus (first | with_reducible rfl | with_reducible assumption | (simp only [NM, LN]; first | done | with_reducible assumption | omega)))
      | ((with_reducible refine CondG.split (fun h => ?_) (fun h => ?_)) <;> (try simp only [NM] at h)))
    all_goals simp -dsimp (disch := (first | omega | (simp only [LN]; omega))) only [retQ, Try.results53, resVals, cellRV, resOf, St.rest, St.freeze, RT, go_sem, ↓reduceIte, Nat.reduceLT, Nat.reduceLeDiff, Nat.reduceEqDiff, Nat.reduceAdd, Nat.reduceMul, Nat.reduceSub, Nat.reduceBEq, Nat.reduceBNe, Int.reduceBEq, Int.reduceLT, Int.reduceLE, reduceCtorEq, Int.reduceToNat]
    all_goals
      (simp (disch := omega) only [ho, ne_eq, zV_iff, getD_lt]
       (repeat' split) <;> first
         | rfl
         | omega
         | (exfalso; omega)
         | (exfalso; simp_all; done)
         | (simp_all; done)
         | (simp_all; omega)
         | (exfalso; simp_all; omega))

/-- schema.Validate, list by list. -/
def tblsE (ts : List Tbl) (k : Nat) (t : Tbl) : Option Int :=
  if tblE t ≠ 0 then some (tblE t) else if 0 < (k : Int) ∧ (Op.bytesLess t.name.toList (ts.getD ((k : Int) - 1).toNat zTbl).name.toList = true ∨ t.name.toList = (ts.getD ((k : Int) - 1).toNat zTbl).name.toList) then some 6 else none
def fksE (s : Sch) (k : Nat) (f : FK) : Option Int :=
  if fkE s f ≠ 0 then some (fkE s f) else if 0 ≤ idx (fun o => fkEq o f) (s.fks.take k) 0 then some 5 else none
def consE (s : Sch) (k : Nat) (c : Con) : Option Int :=
  if conE s c ≠ 0 then some (conE s c) else if 0 ≤ idx (conEq c) (s.cons.take k) 0 then some 5 else none
def schE (s : Sch) : Int :=
  if 6 < s.tables.length ∨ 8 < s.fks.length ∨ 8 < s.cons.length then 2 else
  match scan (tblsE s.tables) s.tables 0 with
  | some e => e
  | none => match scan (fksE s) s.fks 0 with
    | some e => e
    | none => match scan (consE s) s.cons 0 with
      | some e => e
      | none => 0

/-- The sizes that Go can hold. -/
structure Sch.Fits (s : Sch) : Prop where
  tables : s.tables.length ≤ 140737488355328
  table : ∀ t ∈ s.tables, t.cols.length ≤ 140737488355328 ∧ t.pk.length ≤ 140737488355328
  fks : s.fks.length ≤ 140737488355328
  fk : ∀ f ∈ s.fks, f.cols.length ≤ 140737488355328
  cons : s.cons.length ≤ 140737488355328

theorem containsCon_take (l : List Con) (k : Nat) (c : Con) (hlen : l.length ≤ 140737488355328) :
    Sat Try.prog 54 [.one (.sl 7 ((l.map eCon).take k)), .agg (eCon c)] (.v (oB (decide (0 ≤ idx (conEq c) (l.take k) 0)))) := by
  have h := containsCon_sat (l.take k) c (by rw [List.length_take]; omega)
  rw [eCons, List.map_take] at h
  exact h

set_option maxHeartbeats 16000000 in
theorem schValidate_sat (s : Sch) (hf : s.Fits) : Sat Try.prog 14 [.agg (eSch s)] (.v (oI (schE s))) := by
  by_cases h0 : 6 < s.tables.length ∨ 8 < s.fks.length ∨ 8 < s.cons.length
  · refine sat_of_body tyOk Try.func14 rfl (by kernel_rfl) ⟨Nat.le_of_ble_eq_true rfl, Nat.le_of_ble_eq_true rfl⟩ fun w0 m0 F0 => ?_
    simp only [Try.ntmps14, envOf, Nat.reduceAdd]
    repeat' (first
      | ((first
        | with_reducible refine AWP.regionL tyOk fun K hK => ?_
        | ((first | with_reducible refine GOn.isT ?_ ?_ | with_reducible refine HOn.isT ?_ ?_ | with_reducible refine pickK.isT ?_ ?_); focus (first | with_reducible rfl | with_reducible assumption | (simp only [NM, LN]; first | done | with_reducible assumption | omega)))
        | ((first | with_reducible refine GOn.isF ?_ ?_ | with_reducible refine HOn.isF ?_ ?_ | with_reducible refine pickK.isF ?_ ?_); focus (first | with_reducible rfl | with_reducible assumption | (simp only [NM, LN]; first | done | with_reducible assumption | omega)))
        | ((first | with_reducible refine GOn.split (fun h => ?_) (fun h => ?_) | with_reducible refine HOn.split (fun h => ?_) (fun h => ?_) | with_reducible refine pickK.split (fun h => ?_) (fun h => ?_)) <;> (try simp only [NM] at h))
        | with_reducible refine AWP.drawAll tyOk mixed 6 (by kernel_rfl) fun K hK => ?_) <;> simp -dsimp (disch := (first | omega | (simp only [LN]; omega))) only [go_sem, ↓reduceIte, Nat.reduceLT, Nat.reduceLeDiff, Nat.reduceEqDiff, Nat.reduceAdd, Nat.reduceMul, Nat.reduceSub, Nat.reduceBEq, Nat.reduceBNe, Int.reduceBEq, Int.reduceLT, Int.reduceLE, reduceCtorEq, Int.reduceToNat])
      | ((with_reducible refine hK _ ?_); clear hK K)
      | with_reducible refine AWP.seq ?_
      | with_reducible refine thenQ_normal ?_
      | with_reducible refine AWP.block ?_
      | with_reducible refine AWP.skip ?_
      | with_reducible refine AWP.ret ?_
      | with_reducible refine thenQ_ret ?_
      | with_reducible refine blockQ_ret ?_
      | with_reducible refine AWP.exit ?_
      | with_reducible refine thenQ_exit ?_
      | with_reducible refine blockQ_normal ?_
      | with_reducible refine blockQ_exit ?_
      | refine blockQ_exit_ne rfl ?_
      | (with_reducible refine And.intro (by (first | with_reducible rfl | with_reducible assumption | omega | (simp only [LN]; first | done | with_reducible rfl | omega) | (simp only [NM, LN]; first | done | with_reducible assumption | omega) | (and_intros <;> first | with_reducible assumption | omega | (simp only [LN]; omega)) | fail)) ?_)
      | ((with_reducible refine AWP.condG (T := TT) (b := ?_) ?_ ?_); rotate_left; exact rfl)
      | with_reducible refine CondG.t ?_
      | with_reducible refine CondG.f ?_
      | with_reducible refine CondG.not ?_
      | ((first | with_reducible refine CondG.isT ?_ ?_); focus (first | with_reducible rfl | with_reducible assumption | (simp only [NM, LN]; first | done | with_reducible assumption | omega)))
      | ((first | with_reducible refine CondG.isF ?_ ?_); focus (first | with_reducible rfl | with_reducible assumption | (simp only [NM, LN]; first | done | with_reducible assumption | omega)))
      | ((with_reducible refine CondG.split (fun h => ?_) (fun h => ?_)) <;> (try simp only [NM] at h)))
    all_goals first
      | (exfalso; omega)
      | (
         simp -dsimp (disch := (first | omega | (simp only [LN]; omega))) only [retQ, Try.results14, resVals, cellRV, resOf, St.rest, St.freeze, RT, go_sem, ↓reduceIte, Nat.reduceLT, Nat.reduceLeDiff, Nat.reduceEqDiff, Nat.reduceAdd, Nat.reduceMul, Nat.reduceSub, Nat.reduceBEq, Nat.reduceBNe, Int.reduceBEq, Int.reduceLT, Int.reduceLE, reduceCtorEq, Int.reduceToNat]
         rw [schE, if_pos h0])
  have spec : schE s = match scan (tblsE s.tables) s.tables 0 with
    | some e => e
    | none => match scan (fksE s) s.fks 0 with
      | some e => e
      | none => match scan (consE s) s.cons 0 with
        | some e => e
        | none => 0 := by rw [schE, if_neg h0]
  rw [spec]
  refine sat_of_body tyOk Try.func14 rfl (by kernel_rfl) ⟨Nat.le_of_ble_eq_true rfl, Nat.le_of_ble_eq_true rfl⟩ fun w0 m0 F0 => ?_
  simp only [Try.ntmps14, envOf, Nat.reduceAdd]
  repeat' (first
    | ((first
      | with_reducible refine AWP.regionL tyOk fun K hK => ?_
      | ((first | with_reducible refine GOn.isT ?_ ?_ | with_reducible refine HOn.isT ?_ ?_ | with_reducible refine pickK.isT ?_ ?_); focus (first | with_reducible rfl | with_reducible assumption | (simp only [NM, LN]; first | done | with_reducible assumption | omega)))
      | ((first | with_reducible refine GOn.isF ?_ ?_ | with_reducible refine HOn.isF ?_ ?_ | with_reducible refine pickK.isF ?_ ?_); focus (first | with_reducible rfl | with_reducible assumption | (simp only [NM, LN]; first | done | with_reducible assumption | omega)))
      | ((first | with_reducible refine GOn.split (fun h => ?_) (fun h => ?_) | with_reducible refine HOn.split (fun h => ?_) (fun h => ?_) | with_reducible refine pickK.split (fun h => ?_) (fun h => ?_)) <;> (try simp only [NM] at h))
      | with_reducible refine AWP.drawAll tyOk mixed 6 (by kernel_rfl) fun K hK => ?_) <;> simp -dsimp (disch := (first | omega | (simp only [LN]; omega))) only [go_sem, ↓reduceIte, Nat.reduceLT, Nat.reduceLeDiff, Nat.reduceEqDiff, Nat.reduceAdd, Nat.reduceMul, Nat.reduceSub, Nat.reduceBEq, Nat.reduceBNe, Int.reduceBEq, Int.reduceLT, Int.reduceLE, reduceCtorEq, Int.reduceToNat])
    | ((with_reducible refine hK _ ?_); clear hK K)
    | with_reducible refine AWP.seq ?_
    | with_reducible refine thenQ_normal ?_
    | with_reducible refine AWP.block ?_
    | with_reducible refine AWP.skip ?_
    | with_reducible refine AWP.ret ?_
    | with_reducible refine thenQ_ret ?_
    | with_reducible refine blockQ_ret ?_
    | with_reducible refine AWP.exit ?_
    | with_reducible refine thenQ_exit ?_
    | with_reducible refine blockQ_normal ?_
    | with_reducible refine blockQ_exit ?_
    | refine blockQ_exit_ne rfl ?_
    | (with_reducible refine And.intro (by (first | with_reducible rfl | with_reducible assumption | omega | (simp only [LN]; first | done | with_reducible rfl | omega) | (simp only [NM, LN]; first | done | with_reducible assumption | omega) | (and_intros <;> first | with_reducible assumption | omega | (simp only [LN]; omega)) | fail)) ?_)
    | ((with_reducible refine AWP.condG (T := TT) (b := ?_) ?_ ?_); rotate_left; exact rfl)
    | with_reducible refine CondG.t ?_
    | with_reducible refine CondG.f ?_
    | with_reducible refine CondG.not ?_
    | ((first | with_reducible refine CondG.isT ?_ ?_); focus (first | with_reducible rfl | with_reducible assumption | (simp only [NM, LN]; first | done | with_reducible assumption | omega)))
    | ((first | with_reducible refine CondG.isF ?_ ?_); focus (first | with_reducible rfl | with_reducible assumption | (simp only [NM, LN]; first | done | with_reducible assumption | omega)))
    | ((with_reducible refine CondG.split (fun h => ?_) (fun h => ?_)) <;> (try simp only [NM] at h)))
  refine AWP.loop (ι := {k : Nat // k ≤ s.tables.length ∧ scan (tblsE s.tables) (s.tables.drop k) k = scan (tblsE s.tables) s.tables 0}) (fun k => ⟨98, [(1, .v (.one (.ptr 1 0))), (29, .v (.one (.sl 3 (s.tables.map eTbl)))), (30, .v (oI s.tables.length)), (31, .v (oI k.1))], [(1, eSch s)], []⟩) (fun k => s.tables.length - k.1) ⟨0, Nat.zero_le _, rfl⟩ ?_ fun ⟨k, hkl, hi⟩ => ?_
  · exact St.le_mk (by simp only [LE, EN, Nat.reduceEqDiff, reduceIte, Nat.reduceSub, eSch]) (by simp only [LE, EN, Nat.reduceEqDiff, reduceIte, Nat.reduceSub, eSch]) (by simp only [LE, EN, Nat.reduceEqDiff, reduceIte, Nat.reduceSub, eSch])
  rcases Nat.lt_or_ge k s.tables.length with hc | hc
  · obtain ⟨b1, b2⟩ := hf.table s.tables[k] (List.getElem_mem hc)
    repeat' (first
      | ((first
        | with_reducible refine AWP.regionL tyOk fun K hK => ?_
        | ((first | with_reducible refine GOn.isT ?_ ?_ | with_reducible refine HOn.isT ?_ ?_ | with_reducible refine pickK.isT ?_ ?_); focus (first | with_reducible rfl | with_reducible assumption | (simp only [NM, LN]; first | done | with_reducible assumption | omega)))
        | ((first | with_reducible refine GOn.isF ?_ ?_ | with_reducible refine HOn.isF ?_ ?_ | with_reducible refine pickK.isF ?_ ?_); focus (first | with_reducible rfl | with_reducible assumption | (simp only [NM, LN]; first | done | with_reducible assumption | omega)))
        | ((first | with_reducible refine GOn.split (fun h => ?_) (fun h => ?_) | with_reducible refine HOn.split (fun h => ?_) (fun h => ?_) | with_reducible refine pickK.split (fun h => ?_) (fun h => ?_)) <;> (try simp only [NM] at h))
        | with_reducible refine AWP.drawAll tyOk mixed 6 (by kernel_rfl) fun K hK => ?_
        | ((with_reducible refine CallJ.is ?_); (first | refine CallJ.pure (validateTable_sat _ b1 b2) ?_ | ((first | refine CallJ.lent (validateTable_sat _ b1 b2) ?_ ?_; focus (simp -dsimp (disch := (first | omega | (simp only [LN]; omega))) only [go_sem, ↓reduceIte, Nat.reduceLT, Nat.reduceLeDiff, Nat.reduceEqDiff, Nat.reduceAdd, Nat.reduceMul, Nat.reduceSub, Nat.reduceBEq, Nat.reduceBNe, Int.reduceBEq, Int.reduceLT, Int.reduceLE, reduceCtorEq, Int.reduceToNat]; done)))))
        | ((with_reducible refine CallH.is ?_); (first | refine CallH.intro (validateTable_sat _ b1 b2) ?_))) <;> simp -dsimp (disch := (first | omega | (simp only [LN]; omega))) only [go_sem, ↓reduceIte, Nat.reduceLT, Nat.reduceLeDiff, Nat.reduceEqDiff, Nat.reduceAdd, Nat.reduceMul, Nat.reduceSub, Nat.reduceBEq, Nat.reduceBNe, Int.reduceBEq, Int.reduceLT, Int.reduceLE, reduceCtorEq, Int.reduceToNat])
      | ((with_reducible refine hK _ ?_); clear hK K)
      | with_reducible refine AWP.seq ?_
      | with_reducible refine thenQ_normal ?_
      | with_reducible refine AWP.block ?_
      | with_reducible refine AWP.skip ?_
      | with_reducible refine AWP.ret ?_
      | with_reducible refine thenQ_ret ?_
      | with_reducible refine blockQ_ret ?_
      | with_reducible refine AWP.exit ?_
      | with_reducible refine thenQ_exit ?_
      | with_reducible refine blockQ_normal ?_
      | with_reducible refine blockQ_exit ?_
      | refine blockQ_exit_ne rfl ?_
      | (with_reducible refine And.intro (by (first | with_reducible rfl | with_reducible assumption | omega | (simp only [LN]; first | done | with_reducible rfl | omega) | (simp only [NM, LN]; first | done | with_reducible assumption | omega) | (and_intros <;> first | with_reducible assumption | omega | (simp only [LN]; omega)) | fail)) ?_)
      | ((with_reducible refine AWP.condG (T := TT) (b := ?_) ?_ ?_); rotate_left; exact rfl)
      | with_reducible refine CondG.t ?_
      | with_reducible refine CondG.f ?_
      | with_reducible refine CondG.not ?_
      | ((first | with_reducible refine CondG.isT ?_ ?_); focus (first | with_reducible rfl | with_reducible assumption | (simp only [NM, LN]; first | done | with_reducible assumption | omega)))
      | ((first | with_reducible refine CondG.isF ?_ ?_); focus (first | with_reducible rfl | with_reducible assumption | (simp only [NM, LN]; first | done | with_reducible assumption | omega)))
      | ((with_reducible refine CondG.split (fun h => ?_) (fun h => ?_)) <;> (try simp only [NM] at h)))
    all_goals
      first
        | (have hs : (tblsE s.tables) k s.tables[k] = none := by
             (simp (disch := omega) only [tblsE, getD_lt]; (repeat' split) <;> first | rfl | with_reducible assumption | omega | (exfalso; omega) | (simp_all; done) | (simp_all; omega))
           refine ⟨⟨k + 1, by omega, by rw [scan_step (by omega) hs, hi]⟩, by simp only; omega, ?_⟩
           exact St.le_mk (by simp only [LE, EN, Nat.reduceEqDiff, reduceIte, Nat.reduceSub, eSch]) (by simp only [LE, EN, Nat.reduceEqDiff, reduceIte, Nat.reduceSub, eSch]) (by simp only [LE, EN, Nat.reduceEqDiff, reduceIte, Nat.reduceSub, eSch])
           done)
        | (simp -dsimp (disch := (first | omega | (simp only [LN]; omega))) only [retQ, Try.results14, resVals, cellRV, resOf, St.rest, St.freeze, RT, go_sem, ↓reduceIte, Nat.reduceLT, Nat.reduceLeDiff, Nat.reduceEqDiff, Nat.reduceAdd, Nat.reduceMul, Nat.reduceSub, Nat.reduceBEq, Nat.reduceBNe, Int.reduceBEq, Int.reduceLT, Int.reduceLE, reduceCtorEq, Int.reduceToNat]
           rw [scan_leaf (by omega) ?_ hi]
           all_goals first | with_reducible rfl | ((simp (disch := omega) only [tblsE, getD_lt]; (repeat' split) <;> first | rfl | with_reducible assumption | omega | (exfalso; omega) | (simp_all; done) | (simp_all; omega)); done) | rfl
           done)
  · rw [scan_end (by omega)] at hi
    have hi0 := hi.symm
    have hok : ∀ t ∈ s.tables, OkTbl t := by
      intro t ht
      obtain ⟨j, hj, rfl⟩ := List.mem_iff_getElem.1 ht
      have h5 := scan_none hi.symm j hj
      rw [Nat.zero_add, tblsE] at h5
      split at h5
      · cases h5
      · rename_i h6
        exact okTbl_of (by simpa using h6)
    clear hi
    repeat' (first
      | ((first
        | with_reducible refine AWP.regionL tyOk fun K hK => ?_
        | ((first | with_reducible refine GOn.isT ?_ ?_ | with_reducible refine HOn.isT ?_ ?_ | with_reducible refine pickK.isT ?_ ?_); focus (first | with_reducible rfl | with_reducible assumption | (simp only [NM, LN]; first | done | with_reducible assumption | omega)))
        | ((first | with_reducible refine GOn.isF ?_ ?_ | with_reducible refine HOn.isF ?_ ?_ | with_reducible refine pickK.isF ?_ ?_); focus (first | with_reducible rfl | with_reducible assumption | (simp only [NM, LN]; first | done | with_reducible assumption | omega)))
        | ((first | with_reducible refine GOn.split (fun h => ?_) (fun h => ?_) | with_reducible refine HOn.split (fun h => ?_) (fun h => ?_) | with_reducible refine pickK.split (fun h => ?_) (fun h => ?_)) <;> (try simp only [NM] at h))
        | with_reducible refine AWP.drawAll tyOk mixed 6 (by kernel_rfl) fun K hK => ?_) <;> simp -dsimp (disch := (first | omega | (simp only [LN]; omega))) only [go_sem, ↓reduceIte, Nat.reduceLT, Nat.reduceLeDiff, Nat.reduceEqDiff, Nat.reduceAdd, Nat.reduceMul, Nat.reduceSub, Nat.reduceBEq, Nat.reduceBNe, Int.reduceBEq, Int.reduceLT, Int.reduceLE, reduceCtorEq, Int.reduceToNat])
      | ((with_reducible refine hK _ ?_); clear hK K)
      | with_reducible refine AWP.seq ?_
      | with_reducible refine thenQ_normal ?_
      | with_reducible refine AWP.block ?_
      | with_reducible refine AWP.skip ?_
      | with_reducible refine AWP.ret ?_
      | with_reducible refine thenQ_ret ?_
      | with_reducible refine blockQ_ret ?_
      | with_reducible refine AWP.exit ?_
      | with_reducible refine thenQ_exit ?_
      | with_reducible refine blockQ_normal ?_
      | with_reducible refine blockQ_exit ?_
      | refine blockQ_exit_ne rfl ?_
      | (with_reducible refine And.intro (by (first | with_reducible rfl | with_reducible assumption | omega | (simp only [LN]; first | done | with_reducible rfl | omega) | (simp only [NM, LN]; first | done | with_reducible assumption | omega) | (and_intros <;> first | with_reducible assumption | omega | (simp only [LN]; omega)) | fail)) ?_)
      | ((with_reducible refine AWP.condG (T := TT) (b := ?_) ?_ ?_); rotate_left; exact rfl)
      | with_reducible refine CondG.t ?_
      | with_reducible refine CondG.f ?_
      | with_reducible refine CondG.not ?_
      | ((first | with_reducible refine CondG.isT ?_ ?_); focus (first | with_reducible rfl | with_reducible assumption | (simp only [NM, LN]; first | done | with_reducible assumption | omega)))
      | ((first | with_reducible refine CondG.isF ?_ ?_); focus (first | with_reducible rfl | with_reducible assumption | (simp only [NM, LN]; first | done | with_reducible assumption | omega)))
      | ((with_reducible refine CondG.split (fun h => ?_) (fun h => ?_)) <;> (try simp only [NM] at h)))
    rw [hi0]
    simp only
    clear hi0
    refine AWP.loop (ι := {k : Nat // k ≤ s.fks.length ∧ scan (fksE s) (s.fks.drop k) k = scan (fksE s) s.fks 0}) (fun k => ⟨98, [(1, .v (.one (.ptr 1 0))), (57, .v (.one (.sl 3 (s.fks.map eFK)))), (58, .v (oI s.fks.length)), (59, .v (oI k.1))], [(1, eSch s)], []⟩) (fun k => s.fks.length - k.1) ⟨0, Nat.zero_le _, rfl⟩ ?_ fun ⟨k, hkl, hi⟩ => ?_
    · exact St.le_mk (by simp only [LE, EN, Nat.reduceEqDiff, reduceIte, Nat.reduceSub, eSch]) (by simp only [LE, EN, Nat.reduceEqDiff, reduceIte, Nat.reduceSub, eSch]) (by simp only [LE, EN, Nat.reduceEqDiff, reduceIte, Nat.reduceSub, eSch])
    rcases Nat.lt_or_ge k s.fks.length with hc | hc
    · have b1 := hf.fk s.fks[k] (List.getElem_mem hc)
      have b2 := hf.fks
      have b3 := hf.tables
      repeat' (first
        | ((first
          | with_reducible refine AWP.regionL tyOk fun K hK => ?_
          | ((first | with_reducible refine GOn.isT ?_ ?_ | with_reducible refine HOn.isT ?_ ?_ | with_reducible refine pickK.isT ?_ ?_); focus (first | with_reducible rfl | with_reducible assumption | (simp only [NM, LN]; first | done | with_reducible assumption | omega)))
          | ((first | with_reducible refine GOn.isF ?_ ?_ | with_reducible refine HOn.isF ?_ ?_ | with_reducible refine pickK.isF ?_ ?_); focus (first | with_reducible rfl | with_reducible assumption | (simp only [NM, LN]; first | done | with_reducible assumption | omega)))
          | ((first | with_reducible refine GOn.split (fun h => ?_) (fun h => ?_) | with_reducible refine HOn.split (fun h => ?_) (fun h => ?_) | with_reducible refine pickK.split (fun h => ?_) (fun h => ?_)) <;> (try simp only [NM] at h))
          | with_reducible refine AWP.drawAll tyOk mixed 6 (by kernel_rfl) fun K hK => ?_
          | ((with_reducible refine CallJ.is ?_); (first | refine CallJ.pure (validateFK_sat s _ b3 b1 hok) ?_ | refine CallJ.pure (containsFK_sat (s.fks.take k) _ [.fz (eFK s.fks[k])] (fun o => fkEq o s.fks[k]) (by rw [List.length_take]; omega) fun t ht => validate1_sat t s.fks[k] (hf.fk t (List.mem_of_mem_take ht))) ?_ | ((first | refine CallJ.lent (validateFK_sat s _ b3 b1 hok) ?_ ?_; focus (simp -dsimp (disch := (first | omega | (simp only [LN]; omega))) only [go_sem, ↓reduceIte, Nat.reduceLT, Nat.reduceLeDiff, Nat.reduceEqDiff, Nat.reduceAdd, Nat.reduceMul, Nat.reduceSub, Nat.reduceBEq, Nat.reduceBNe, Int.reduceBEq, Int.reduceLT, Int.reduceLE, reduceCtorEq, Int.reduceToNat, List.map_take]; done) | refine CallJ.lent (containsFK_sat (s.fks.take k) _ [.fz (eFK s.fks[k])] (fun o => fkEq o s.fks[k]) (by rw [List.length_take]; omega) fun t ht => validate1_sat t s.fks[k] (hf.fk t (List.mem_of_mem_take ht))) ?_ ?_; focus (simp -dsimp (disch := (first | omega | (simp only [LN]; omega))) only [go_sem, ↓reduceIte, Nat.reduceLT, Nat.reduceLeDiff, Nat.reduceEqDiff, Nat.reduceAdd, Nat.reduceMul, Nat.reduceSub, Nat.reduceBEq, Nat.reduceBNe, Int.reduceBEq, Int.reduceLT, Int.reduceLE, reduceCtorEq, Int.reduceToNat, List.map_take]; done)))))
          | ((with_reducible refine CallH.is ?_); (first | refine CallH.intro (validateFK_sat s _ b3 b1 hok) ?_ | refine CallH.intro (containsFK_sat (s.fks.take k) _ [.fz (eFK s.fks[k])] (fun o => fkEq o s.fks[k]) (by rw [List.length_take]; omega) fun t ht => validate1_sat t s.fks[k] (hf.fk t (List.mem_of_mem_take ht))) ?_))) <;> simp -dsimp (disch := (first | omega | (simp only [LN]; omega))) only [go_sem, ↓reduceIte, Nat.reduceLT, Nat.reduceLeDiff, Nat.reduceEqDiff, Nat.reduceAdd, Nat.reduceMul, Nat.reduceSub, Nat.reduceBEq, Nat.reduceBNe, Int.reduceBEq, Int.reduceLT, Int.reduceLE, reduceCtorEq, Int.reduceToNat, List.map_take])
        | ((with_reducible refine hK _ ?_); clear hK K)
        | with_reducible refine AWP.seq ?_
        | with_reducible refine thenQ_normal ?_
        | with_reducible refine AWP.block ?_
        | with_reducible refine AWP.skip ?_
        | with_reducible refine AWP.ret ?_
        | with_reducible refine thenQ_ret ?_
        | with_reducible refine blockQ_ret ?_
        | with_reducible refine AWP.exit ?_
        | with_reducible refine thenQ_exit ?_
        | with_reducible refine blockQ_normal ?_
        | with_reducible refine blockQ_exit ?_
        | refine blockQ_exit_ne rfl ?_
        | (with_reducible refine And.intro (by (first | with_reducible rfl | with_reducible assumption | omega | (simp only [LN]; first | done | with_reducible rfl | omega) | (simp only [NM, LN]; first | done | with_reducible assumption | omega) | (and_intros <;> first | with_reducible assumption | omega | (simp only [LN]; omega)) | fail)) ?_)
        | ((with_reducible refine AWP.condG (T := TT) (b := ?_) ?_ ?_); rotate_left; exact rfl)
        | with_reducible refine CondG.t ?_
        | with_reducible refine CondG.f ?_
        | with_reducible refine CondG.not ?_
        | ((first | with_reducible refine CondG.isT ?_ ?_); focus (first | with_reducible rfl | with_reducible assumption | (simp only [NM, LN]; first | done | with_reducible assumption | omega)))
        | ((first | with_reducible refine CondG.isF ?_ ?_); focus (first | with_reducible rfl | with_reducible assumption | (simp only [NM, LN]; first | done | with_reducible assumption | omega)))
        | ((with_reducible refine CondG.split (fun h => ?_) (fun h => ?_)) <;> (try simp only [NM] at h)))
      all_goals
        first
          | (have hs : (fksE s) k s.fks[k] = none := by
               (simp (disch := omega) only [fksE, getD_lt]; (repeat' split) <;> first | rfl | with_reducible assumption | omega | (exfalso; omega) | (simp_all; done) | (simp_all; omega))
             refine ⟨⟨k + 1, by omega, by rw [scan_step (by omega) hs, hi]⟩, by simp only; omega, ?_⟩
             exact St.le_mk (by simp only [LE, EN, Nat.reduceEqDiff, reduceIte, Nat.reduceSub, eSch]) (by simp only [LE, EN, Nat.reduceEqDiff, reduceIte, Nat.reduceSub, eSch]) (by simp only [LE, EN, Nat.reduceEqDiff, reduceIte, Nat.reduceSub, eSch])
             done)
          | (simp -dsimp (disch := (first | omega | (simp only [LN]; omega))) only [retQ, Try.results14, resVals, cellRV, resOf, St.rest, St.freeze, RT, go_sem, ↓reduceIte, Nat.reduceLT, Nat.reduceLeDiff, Nat.reduceEqDiff, Nat.reduceAdd, Nat.reduceMul, Nat.reduceSub, Nat.reduceBEq, Nat.reduceBNe, Int.reduceBEq, Int.reduceLT, Int.reduceLE, reduceCtorEq, Int.reduceToNat]
             rw [scan_leaf (by omega) ?_ hi]
             all_goals first | with_reducible rfl | ((simp (disch := omega) only [fksE, getD_lt]; (repeat' split) <;> first | rfl | with_reducible assumption | omega | (exfalso; omega) | (simp_all; done) | (simp_all; omega)); done) | rfl
             done)
    rw [scan_end (by omega)] at hi
    have hi0 := hi.symm
    clear hi
    repeat' (first
      | ((first
        | with_reducible refine AWP.regionL tyOk fun K hK => ?_
        | ((first | with_reducible refine GOn.isT ?_ ?_ | with_reducible refine HOn.isT ?_ ?_ | with_reducible refine pickK.isT ?_ ?_); focus (first | with_reducible rfl | with_reducible assumption | (simp only [NM, LN]; first | done | with_reducible assumption | omega)))
        | ((first | with_reducible refine GOn.isF ?_ ?_ | with_reducible refine HOn.isF ?_ ?_ | with_reducible refine pickK.isF ?_ ?_); focus (first | with_reducible rfl | with_reducible assumption | (simp only [NM, LN]; first | done | with_reducible assumption | omega)))
        | ((first | with_reducible refine GOn.split (fun h => ?_) (fun h => ?_) | with_reducible refine HOn.split (fun h => ?_) (fun h => ?_) | with_reducible refine pickK.split (fun h => ?_) (fun h => ?_)) <;> (try simp only [NM] at h))
        | with_reducible refine AWP.drawAll tyOk mixed 6 (by kernel_rfl) fun K hK => ?_) <;> simp -dsimp (disch := (first | omega | (simp only [LN]; omega))) only [go_sem, ↓reduceIte, Nat.reduceLT, Nat.reduceLeDiff, Nat.reduceEqDiff, Nat.reduceAdd, Nat.reduceMul, Nat.reduceSub, Nat.reduceBEq, Nat.reduceBNe, Int.reduceBEq, Int.reduceLT, Int.reduceLE, reduceCtorEq, Int.reduceToNat])
      | ((with_reducible refine hK _ ?_); clear hK K)
      | with_reducible refine AWP.seq ?_
      | with_reducible refine thenQ_normal ?_
      | with_reducible refine AWP.block ?_
      | with_reducible refine AWP.skip ?_
      | with_reducible refine AWP.ret ?_
      | with_reducible refine thenQ_ret ?_
      | with_reducible refine blockQ_ret ?_
      | with_reducible refine AWP.exit ?_
      | with_reducible refine thenQ_exit ?_
      | with_reducible refine blockQ_normal ?_
      | with_reducible refine blockQ_exit ?_
      | refine blockQ_exit_ne rfl ?_
      | (with_reducible refine And.intro (by (first | with_reducible rfl | with_reducible assumption | omega | (simp only [LN]; first | done | with_reducible rfl | omega) | (simp only [NM, LN]; first | done | with_reducible assumption | omega) | (and_intros <;> first | with_reducible assumption | omega | (simp only [LN]; omega)) | fail)) ?_)
      | ((with_reducible refine AWP.condG (T := TT) (b := ?_) ?_ ?_); rotate_left; exact rfl)
      | with_reducible refine CondG.t ?_
      | with_reducible refine CondG.f ?_
      | with_reducible refine CondG.not ?_
      | ((first | with_reducible refine CondG.isT ?_ ?_); focus (first | with_reducible rfl | with_reducible assumption | (simp only [NM, LN]; first | done | with_reducible assumption | omega)))
      | ((first | with_reducible refine CondG.isF ?_ ?_); focus (first | with_reducible rfl | with_reducible assumption | (simp only [NM, LN]; first | done | with_reducible assumption | omega)))
      | ((with_reducible refine CondG.split (fun h => ?_) (fun h => ?_)) <;> (try simp only [NM] at h)))
    rw [hi0]
    simp only
    clear hi0
    refine AWP.loop (ι := {k : Nat // k ≤ s.cons.length ∧ scan (consE s) (s.cons.drop k) k = scan (consE s) s.cons 0}) (fun k => ⟨98, [(1, .v (.one (.ptr 1 0))), (78, .v (.one (.sl 7 (s.cons.map eCon)))), (79, .v (oI s.cons.length)), (80, .v (oI k.1))], [(1, eSch s)], []⟩) (fun k => s.cons.length - k.1) ⟨0, Nat.zero_le _, rfl⟩ ?_ fun ⟨k, hkl, hi⟩ => ?_
    · exact St.le_mk (by simp only [LE, EN, Nat.reduceEqDiff, reduceIte, Nat.reduceSub, eSch]) (by simp only [LE, EN, Nat.reduceEqDiff, reduceIte, Nat.reduceSub, eSch]) (by simp only [LE, EN, Nat.reduceEqDiff, reduceIte, Nat.reduceSub, eSch])
    rcases Nat.lt_or_ge k s.cons.length with hc | hc
    · have b2 := hf.cons
      have b3 := hf.tables
      have b4 : ∀ t ∈ s.tables, t.cols.length ≤ 140737488355328 := fun t ht => (hf.table t ht).1
      repeat' (first
        | ((first
          | with_reducible refine AWP.regionL tyOk fun K hK => ?_
          | ((first | with_reducible refine GOn.isT ?_ ?_ | with_reducible refine HOn.isT ?_ ?_ | with_reducible refine pickK.isT ?_ ?_); focus (first | with_reducible rfl | with_reducible assumption | (simp only [NM, LN]; first | done | with_reducible assumption | omega)))
          | ((first | with_reducible refine GOn.isF ?_ ?_ | with_reducible refine HOn.isF ?_ ?_ | with_reducible refine pickK.isF ?_ ?_); focus (first | with_reducible rfl | with_reducible assumption | (simp only [NM, LN]; first | done | with_reducible assumption | omega)))
          | ((first | with_reducible refine GOn.split (fun h => ?_) (fun h => ?_) | with_reducible refine HOn.split (fun h => ?_) (fun h => ?_) | with_reducible refine pickK.split (fun h => ?_) (fun h => ?_)) <;> (try simp only [NM] at h))
          | with_reducible refine AWP.drawAll tyOk mixed 6 (by kernel_rfl) fun K hK => ?_
          | ((with_reducible refine CallJ.is ?_); (first | refine CallJ.pure (validateCon_sat s _ b3 b4) ?_ | refine CallJ.pure (containsCon_take s.cons k s.cons[k] b2) ?_ | ((first | refine CallJ.lent (validateCon_sat s _ b3 b4) ?_ ?_; focus (simp -dsimp (disch := (first | omega | (simp only [LN]; omega))) only [go_sem, ↓reduceIte, Nat.reduceLT, Nat.reduceLeDiff, Nat.reduceEqDiff, Nat.reduceAdd, Nat.reduceMul, Nat.reduceSub, Nat.reduceBEq, Nat.reduceBNe, Int.reduceBEq, Int.reduceLT, Int.reduceLE, reduceCtorEq, Int.reduceToNat, List.map_take]; done) | refine CallJ.lent (containsCon_take s.cons k s.cons[k] b2) ?_ ?_; focus (simp -dsimp (disch := (first | omega | (simp only [LN]; omega))) only [go_sem, ↓reduceIte, Nat.reduceLT, Nat.reduceLeDiff, Nat.reduceEqDiff, Nat.reduceAdd, Nat.reduceMul, Nat.reduceSub, Nat.reduceBEq, Nat.reduceBNe, Int.reduceBEq, Int.reduceLT, Int.reduceLE, reduceCtorEq, Int.reduceToNat, List.map_take]; done)))))
          | ((with_reducible refine CallH.is ?_); (first | refine CallH.intro (validateCon_sat s _ b3 b4) ?_ | refine CallH.intro (containsCon_take s.cons k s.cons[k] b2) ?_))) <;> simp -dsimp (disch := (first | omega | (simp only [LN]; omega))) only [go_sem, ↓reduceIte, Nat.reduceLT, Nat.reduceLeDiff, Nat.reduceEqDiff, Nat.reduceAdd, Nat.reduceMul, Nat.reduceSub, Nat.reduceBEq, Nat.reduceBNe, Int.reduceBEq, Int.reduceLT, Int.reduceLE, reduceCtorEq, Int.reduceToNat, List.map_take])
        | ((with_reducible refine hK _ ?_); clear hK K)
        | with_reducible refine AWP.seq ?_
        | with_reducible refine thenQ_normal ?_
        | with_reducible refine AWP.block ?_
        | with_reducible refine AWP.skip ?_
        | with_reducible refine AWP.ret ?_
        | with_reducible refine thenQ_ret ?_
        | with_reducible refine blockQ_ret ?_
        | with_reducible refine AWP.exit ?_
        | with_reducible refine thenQ_exit ?_
        | with_reducible refine blockQ_normal ?_
        | with_reducible refine blockQ_exit ?_
        | refine blockQ_exit_ne rfl ?_
        | (with_reducible refine And.intro (by (first | with_reducible rfl | with_reducible assumption | omega | (simp only [LN]; first | done | with_reducible rfl | omega) | (simp only [NM, LN]; first | done | with_reducible assumption | omega) | (and_intros <;> first | with_reducible assumption | omega | (simp only [LN]; omega)) | fail)) ?_)
        | ((with_reducible refine AWP.condG (T := TT) (b := ?_) ?_ ?_); rotate_left; exact rfl)
        | with_reducible refine CondG.t ?_
        | with_reducible refine CondG.f ?_
        | with_reducible refine CondG.not ?_
        | ((first | with_reducible refine CondG.isT ?_ ?_); focus (first | with_reducible rfl | with_reducible assumption | (simp only [NM, LN]; first | done | with_reducible assumption | omega)))
        | ((first | with_reducible refine CondG.isF ?_ ?_); focus (first | with_reducible rfl | with_reducible assumption | (simp only [NM, LN]; first | done | with_reducible assumption | omega)))
        | ((with_reducible refine CondG.split (fun h => ?_) (fun h => ?_)) <;> (try simp only [NM] at h)))
      all_goals
        first
          | (have hs : (consE s) k s.cons[k] = none := by
               (simp (disch := omega) only [consE, getD_lt]; (repeat' split) <;> first | rfl | with_reducible assumption | omega | (exfalso; omega) | (simp_all; done) | (simp_all; omega))
             refine ⟨⟨k + 1, by omega, by rw [scan_step (by omega) hs, hi]⟩, by simp only; omega, ?_⟩
             exact St.le_mk (by simp only [LE, EN, Nat.reduceEqDiff, reduceIte, Nat.reduceSub, eSch]) (by simp only [LE, EN, Nat.reduceEqDiff, reduceIte, Nat.reduceSub, eSch]) (by simp only [LE, EN, Nat.reduceEqDiff, reduceIte, Nat.reduceSub, eSch])
             done)
          | (simp -dsimp (disch := (first | omega | (simp only [LN]; omega))) only [retQ, Try.results14, resVals, cellRV, resOf, St.rest, St.freeze, RT, go_sem, ↓reduceIte, Nat.reduceLT, Nat.reduceLeDiff, Nat.reduceEqDiff, Nat.reduceAdd, Nat.reduceMul, Nat.reduceSub, Nat.reduceBEq, Nat.reduceBNe, Int.reduceBEq, Int.reduceLT, Int.reduceLE, reduceCtorEq, Int.reduceToNat]
             rw [scan_leaf (by omega) ?_ hi]
             all_goals first | with_reducible rfl | ((simp (disch := omega) only [consE, getD_lt]; (repeat' split) <;> first | rfl | with_reducible assumption | omega | (exfalso; omega) | (simp_all; done) | (simp_all; omega)); done) | rfl
             done)
    rw [scan_end (by omega)] at hi
    have hi0 := hi.symm
    clear hi
    repeat' (first
      | ((first
        | with_reducible refine AWP.regionL tyOk fun K hK => ?_
        | ((first | with_reducible refine GOn.isT ?_ ?_ | with_reducible refine HOn.isT ?_ ?_ | with_reducible refine pickK.isT ?_ ?_); focus (first | with_reducible rfl | with_reducible assumption | (simp only [NM, LN]; first | done | with_reducible assumption | omega)))
        | ((first | with_reducible refine GOn.isF ?_ ?_ | with_reducible refine HOn.isF ?_ ?_ | with_reducible refine pickK.isF ?_ ?_); focus (first | with_reducible rfl | with_reducible assumption | (simp only [NM, LN]; first | done | with_reducible assumption | omega)))
        | ((first | with_reducible refine GOn.split (fun h => ?_) (fun h => ?_) | with_reducible refine HOn.split (fun h => ?_) (fun h => ?_) | with_reducible refine pickK.split (fun h => ?_) (fun h => ?_)) <;> (try simp only [NM] at h))
        | with_reducible refine AWP.drawAll tyOk mixed 6 (by kernel_rfl) fun K hK => ?_) <;> simp -dsimp (disch := (first | omega | (simp only [LN]; omega))) only [go_sem, ↓reduceIte, Nat.reduceLT, Nat.reduceLeDiff, Nat.reduceEqDiff, Nat.reduceAdd, Nat.reduceMul, Nat.reduceSub, Nat.reduceBEq, Nat.reduceBNe, Int.reduceBEq, Int.reduceLT, Int.reduceLE, reduceCtorEq, Int.reduceToNat])
      | ((with_reducible refine hK _ ?_); clear hK K)
      | with_reducible refine AWP.seq ?_
      | with_reducible refine thenQ_normal ?_
      | with_reducible refine AWP.block ?_
      | with_reducible refine AWP.skip ?_
      | with_reducible refine AWP.ret ?_
      | with_reducible refine thenQ_ret ?_
      | with_reducible refine blockQ_ret ?_
      | with_reducible refine AWP.exit ?_
      | with_reducible refine thenQ_exit ?_
      | with_reducible refine blockQ_normal ?_
      | with_reducible refine blockQ_exit ?_
      | refine blockQ_exit_ne rfl ?_
      | (with_reducible refine And.intro (by (first | with_reducible rfl | with_reducible assumption | omega | (simp only [LN]; first | done | with_reducible rfl | omega) | (simp only [NM, LN]; first | done | with_reducible assumption | omega) | (and_intros <;> first | with_reducible assumption | omega | (simp only [LN]; omega)) | fail)) ?_)
      | ((with_reducible refine AWP.condG (T := TT) (b := ?_) ?_ ?_); rotate_left; exact rfl)
      | with_reducible refine CondG.t ?_
      | with_reducible refine CondG.f ?_
      | with_reducible refine CondG.not ?_
      | ((first | with_reducible refine CondG.isT ?_ ?_); focus (first | with_reducible rfl | with_reducible assumption | (simp only [NM, LN]; first | done | with_reducible assumption | omega)))
      | ((first | with_reducible refine CondG.isF ?_ ?_); focus (first | with_reducible rfl | with_reducible assumption | (simp only [NM, LN]; first | done | with_reducible assumption | omega)))
      | ((with_reducible refine CondG.split (fun h => ?_) (fun h => ?_)) <;> (try simp only [NM] at h)))
    rw [hi0]
    simp -dsimp (disch := (first | omega | (simp only [LN]; omega))) only [retQ, Try.results14, resVals, cellRV, resOf, St.rest, St.freeze, RT, go_sem, ↓reduceIte, Nat.reduceLT, Nat.reduceLeDiff, Nat.reduceEqDiff, Nat.reduceAdd, Nat.reduceMul, Nat.reduceSub, Nat.reduceBEq, Nat.reduceBNe, Int.reduceBEq, Int.reduceLT, Int.reduceLE, reduceCtorEq, Int.reduceToNat]

def bId : ByteArray := ⟨#[105, 100]⟩
def bName : ByteArray := ⟨#[110, 97, 109, 101]⟩
def bPeople : ByteArray := ⟨#[112, 101, 111, 112, 108, 101]⟩
def peopleT : Tbl := ⟨bPeople, [⟨bId, 1, false⟩, ⟨bName, 3, true⟩], [0]⟩

theorem people_sat : Sat Try.prog 48 [] (.v (.agg (eTbl peopleT))) := by
  refine sat_of_body tyOk Try.func48 rfl (by kernel_rfl) ⟨Nat.le_of_ble_eq_true rfl, Nat.le_of_ble_eq_true rfl⟩ fun w0 m0 F0 => ?_
  simp only [Try.ntmps48, envOf, Nat.reduceAdd]
  repeat' (first
    | ((first
      | with_reducible refine AWP.regionL tyOk fun K hK => ?_
      | ((first | with_reducible refine GOn.isT ?_ ?_ | with_reducible refine HOn.isT ?_ ?_ | with_reducible refine pickK.isT ?_ ?_); focus (first | with_reducible rfl | with_reducible assumption | (simp only [NM, LN]; first | done | with_reducible assumption | omega)))
      | ((first | with_reducible refine GOn.isF ?_ ?_ | with_reducible refine HOn.isF ?_ ?_ | with_reducible refine pickK.isF ?_ ?_); focus (first | with_reducible rfl | with_reducible assumption | (simp only [NM, LN]; first | done | with_reducible assumption | omega)))
      | ((first | with_reducible refine GOn.split (fun h => ?_) (fun h => ?_) | with_reducible refine HOn.split (fun h => ?_) (fun h => ?_) | with_reducible refine pickK.split (fun h => ?_) (fun h => ?_)) <;> (try simp only [NM] at h))
      | with_reducible refine AWP.drawAll tyOk mixed 6 (by kernel_rfl) fun K hK => ?_) <;> simp -dsimp (disch := (first | omega | (simp only [LN]; omega))) only [go_sem, ↓reduceIte, Nat.reduceLT, Nat.reduceLeDiff, Nat.reduceEqDiff, Nat.reduceAdd, Nat.reduceMul, Nat.reduceSub, Nat.reduceBEq, Nat.reduceBNe, Int.reduceBEq, Int.reduceLT, Int.reduceLE, reduceCtorEq, Int.reduceToNat])
    | ((with_reducible refine hK _ ?_); clear hK K)
    | with_reducible refine AWP.seq ?_
    | with_reducible refine thenQ_normal ?_
    | with_reducible refine AWP.block ?_
    | with_reducible refine AWP.skip ?_
    | with_reducible refine AWP.ret ?_
    | with_reducible refine thenQ_ret ?_
    | with_reducible refine blockQ_ret ?_
    | with_reducible refine AWP.exit ?_
    | with_reducible refine thenQ_exit ?_
    | with_reducible refine blockQ_normal ?_
    | with_reducible refine blockQ_exit ?_
    | refine blockQ_exit_ne rfl ?_
    | (with_reducible refine And.intro (by (first | with_reducible rfl | with_reducible assumption | omega | (simp only [LN]; first | done | with_reducible rfl | omega) | (simp only [NM, LN]; first | done | with_reducible assumption | omega) | (and_intros <;> first | with_reducible assumption | omega | (simp only [LN]; omega)) | fail)) ?_)
    | ((with_reducible refine AWP.condG (T := TT) (b := ?_) ?_ ?_); rotate_left; exact rfl)
    | with_reducible refine CondG.t ?_
    | with_reducible refine CondG.f ?_
    | with_reducible refine CondG.not ?_
    | ((first | with_reducible refine CondG.isT ?_ ?_); focus (first | with_reducible rfl | with_reducible assumption | (simp only [NM, LN]; first | done | with_reducible assumption | omega)))
    | ((first | with_reducible refine CondG.isF ?_ ?_); focus (first | with_reducible rfl | with_reducible assumption | (simp only [NM, LN]; first | done | with_reducible assumption | omega)))
    | ((with_reducible refine CondG.split (fun h => ?_) (fun h => ?_)) <;> (try simp only [NM] at h)))
  simp -dsimp (disch := (first | omega | (simp only [LN]; omega))) only [retQ, Try.results48, resVals, cellRV, resOf, St.rest, St.freeze, RT, go_sem, ↓reduceIte, Nat.reduceLT, Nat.reduceLeDiff, Nat.reduceEqDiff, Nat.reduceAdd, Nat.reduceMul, Nat.reduceSub, Nat.reduceBEq, Nat.reduceBNe, Int.reduceBEq, Int.reduceLT, Int.reduceLE, reduceCtorEq, Int.reduceToNat]
  first | done | rfl
theorem integer_sat (n : Int) : Sat Try.prog 59 [oI n] (.v (.agg (eVal ⟨1, n, ByteArray.empty⟩))) := by
  refine sat_of_body tyOk Try.func59 rfl (by kernel_rfl) ⟨Nat.le_of_ble_eq_true rfl, Nat.le_of_ble_eq_true rfl⟩ fun w0 m0 F0 => ?_
  simp only [Try.ntmps59, envOf, Nat.reduceAdd]
  repeat' (first
    | ((first
      | with_reducible refine AWP.regionL tyOk fun K hK => ?_
      | ((first | with_reducible refine GOn.isT ?_ ?_ | with_reducible refine HOn.isT ?_ ?_ | with_reducible refine pickK.isT ?_ ?_); focus (first | with_reducible rfl | with_reducible assumption | (simp only [NM, LN]; first | done | with_reducible assumption | omega)))
      | ((first | with_reducible refine GOn.isF ?_ ?_ | with_reducible refine HOn.isF ?_ ?_ | with_reducible refine pickK.isF ?_ ?_); focus (first | with_reducible rfl | with_reducible assumption | (simp only [NM, LN]; first | done | with_reducible assumption | omega)))
      | ((first | with_reducible refine GOn.split (fun h => ?_) (fun h => ?_) | with_reducible refine HOn.split (fun h => ?_) (fun h => ?_) | with_reducible refine pickK.split (fun h => ?_) (fun h => ?_)) <;> (try simp only [NM] at h))
      | with_reducible refine AWP.drawAll tyOk mixed 6 (by kernel_rfl) fun K hK => ?_) <;> simp -dsimp (disch := (first | omega | (simp only [LN]; omega))) only [go_sem, ↓reduceIte, Nat.reduceLT, Nat.reduceLeDiff, Nat.reduceEqDiff, Nat.reduceAdd, Nat.reduceMul, Nat.reduceSub, Nat.reduceBEq, Nat.reduceBNe, Int.reduceBEq, Int.reduceLT, Int.reduceLE, reduceCtorEq, Int.reduceToNat])
    | ((with_reducible refine hK _ ?_); clear hK K)
    | with_reducible refine AWP.seq ?_
    | with_reducible refine thenQ_normal ?_
    | with_reducible refine AWP.block ?_
    | with_reducible refine AWP.skip ?_
    | with_reducible refine AWP.ret ?_
    | with_reducible refine thenQ_ret ?_
    | with_reducible refine blockQ_ret ?_
    | with_reducible refine AWP.exit ?_
    | with_reducible refine thenQ_exit ?_
    | with_reducible refine blockQ_normal ?_
    | with_reducible refine blockQ_exit ?_
    | refine blockQ_exit_ne rfl ?_
    | (with_reducible refine And.intro (by (first | with_reducible rfl | with_reducible assumption | omega | (simp only [LN]; first | done | with_reducible rfl | omega) | (simp only [NM, LN]; first | done | with_reducible assumption | omega) | (and_intros <;> first | with_reducible assumption | omega | (simp only [LN]; omega)) | fail)) ?_)
    | ((with_reducible refine AWP.condG (T := TT) (b := ?_) ?_ ?_); rotate_left; exact rfl)
    | with_reducible refine CondG.t ?_
    | with_reducible refine CondG.f ?_
    | with_reducible refine CondG.not ?_
    | ((first | with_reducible refine CondG.isT ?_ ?_); focus (first | with_reducible rfl | with_reducible assumption | (simp only [NM, LN]; first | done | with_reducible assumption | omega)))
    | ((first | with_reducible refine CondG.isF ?_ ?_); focus (first | with_reducible rfl | with_reducible assumption | (simp only [NM, LN]; first | done | with_reducible assumption | omega)))
    | ((with_reducible refine CondG.split (fun h => ?_) (fun h => ?_)) <;> (try simp only [NM] at h)))
  simp -dsimp (disch := (first | omega | (simp only [LN]; omega))) only [retQ, Try.results59, resVals, cellRV, resOf, St.rest, St.freeze, RT, go_sem, ↓reduceIte, Nat.reduceLT, Nat.reduceLeDiff, Nat.reduceEqDiff, Nat.reduceAdd, Nat.reduceMul, Nat.reduceSub, Nat.reduceBEq, Nat.reduceBNe, Int.reduceBEq, Int.reduceLT, Int.reduceLE, reduceCtorEq, Int.reduceToNat]
end Go.Bw

namespace Go.Bw
open Go.Proofs
theorem bl_cons (x y : UInt8) (a b : List UInt8) : Op.bytesLess (x :: a) (y :: b) = true ↔ x.toNat < y.toNat ∨ (x = y ∧ Op.bytesLess a b = true) := by
  simp [Op.bytesLess, UInt8.lt_iff_toNat_lt]
theorem bl_trans : ∀ {a b c : List UInt8}, Op.bytesLess a b = true → Op.bytesLess b c = true → Op.bytesLess a c = true
  | [], [], _, h, _ => by simp [Op.bytesLess] at h
  | _ :: _, [], _, h, _ => by simp [Op.bytesLess] at h
  | _, _ :: _, [], _, h => by simp [Op.bytesLess] at h
  | [], _ :: _, _ :: _, _, _ => by simp [Op.bytesLess]
  | x :: a, y :: b, z :: c, h1, h2 => by
    rw [bl_cons] at h1 h2 ⊢
    rcases h1 with h1 | ⟨rfl, h1⟩
    · rcases h2 with h2 | ⟨rfl, h2⟩
      · exact .inl (by omega)
      · exact .inl h1
    · rcases h2 with h2 | ⟨rfl, h2⟩
      · exact .inl h2
      · exact .inr ⟨rfl, bl_trans h1 h2⟩
theorem bl_total : ∀ {a b : List UInt8}, Op.bytesLess a b = false → a ≠ b → Op.bytesLess b a = true
  | [], [], _, h => absurd rfl h
  | [], _ :: _, h, _ => by simp [Op.bytesLess] at h
  | _ :: _, [], _, _ => by simp [Op.bytesLess]
  | x :: a, y :: b, h, hne => by
    have h' : ¬ (x.toNat < y.toNat ∨ (x = y ∧ Op.bytesLess a b = true)) := fun e => by rw [← bl_cons, h] at e; cases e
    rw [bl_cons]
    by_cases hxy : x = y
    · subst hxy
      refine .inr ⟨rfl, bl_total ?_ (fun e => hne (by rw [e]))⟩
      cases hb : Op.bytesLess a b with
      | false => rfl
      | true => exact absurd (.inr ⟨rfl, hb⟩) h'
    · refine .inl ?_
      have : x.toNat ≠ y.toNat := fun e => hxy (UInt8.toNat_inj.1 e)
      have : ¬ x.toNat < y.toNat := fun e => h' (.inl e)
      omega

theorem chain_lt {ns : List (List UInt8)} (h : ∀ k, ∀ h : k + 1 < ns.length, Op.bytesLess ns[k] ns[k + 1] = true) : ∀ d i, ∀ h : i + d + 1 < ns.length, Op.bytesLess ns[i] ns[i + d + 1] = true
  | 0, i, hi => h i hi
  | d + 1, i, hi => bl_trans (chain_lt h d i (by omega)) (h (i + d + 1) hi)

/-- A schema that is well formed. -/
structure OkSch (s : Sch) : Prop where
  tbl : ∀ t ∈ s.tables, OkTbl t
  lt : ∀ i j, ∀ h : i < j, ∀ hj : j < s.tables.length, Op.bytesLess s.tables[i].name.toList s.tables[j].name.toList = true
  n6 : s.tables.length ≤ 6
  n8 : s.fks.length ≤ 8
  m8 : s.cons.length ≤ 8

theorem okSch_of {s : Sch} (h : schE s = 0) : OkSch s := by
  unfold schE at h
  split at h
  · cases h
  rename_i h0
  cases hs : scan (tblsE s.tables) s.tables 0 with
  | some e =>
    rw [hs] at h
    simp only at h
    subst h
    exfalso
    have : ∀ (l : List Tbl) (k : Nat) (e : Int), scan (tblsE s.tables) l k = some e → e ≠ 0 := by
      intro l
      induction l with
      | nil => intro k e he; cases he
      | cons x l ih =>
        intro k e he
        unfold scan at he
        split at he
        · rename_i e' he'
          injection he with he
          subst he
          unfold tblsE at he'
          split at he'
          · rename_i hne
            injection he' with he'
            rw [← he']
            exact hne
          · split at he'
            · injection he' with he'; omega
            · cases he'
        · exact ih _ _ he
    exact this _ _ _ hs rfl
  | none =>
    have hk : ∀ k, ∀ h : k < s.tables.length, tblE s.tables[k] = 0 ∧ (0 < k → ¬ (Op.bytesLess s.tables[k].name.toList s.tables[k - 1].name.toList = true ∨ s.tables[k].name.toList = s.tables[k - 1].name.toList)) := by
      intro k hk
      have h1 := scan_none hs k hk
      rw [Nat.zero_add, tblsE] at h1
      split at h1
      · cases h1
      rename_i h2
      split at h1
      · cases h1
      rename_i h3
      refine ⟨by simpa using h2, fun h0 h4 => h3 ⟨by omega, ?_⟩⟩
      rw [show ((k : Int) - 1).toNat = k - 1 by omega, List.getD_eq_getElem?_getD, List.getElem?_eq_getElem (by omega)]
      exact h4
    have hstep : ∀ k, ∀ h : k + 1 < s.tables.length, Op.bytesLess s.tables[k].name.toList s.tables[k + 1].name.toList = true := by
      intro k h1
      have h2 := (hk (k + 1) h1).2 (by omega)
      simp only [not_or, Bool.not_eq_true, Nat.add_sub_cancel] at h2
      exact bl_total h2.1 h2.2
    refine ⟨fun t ht => ?_, fun i j hij hj => ?_, by omega, by omega, by omega⟩
    · obtain ⟨j, hj, rfl⟩ := List.mem_iff_getElem.1 ht
      exact okTbl_of (hk j hj).1
    · have h1 := chain_lt (ns := s.tables.map fun t => t.name.toList) (fun k h => by simpa using hstep k (by simpa using h)) (j - i - 1) i (by simp; omega)
      simp only [List.getElem_map] at h1
      have e : i + (j - i - 1) + 1 = j := by omega
      simpa only [e] using h1
end Go.Bw

namespace Go.Bw
open Go.Proofs
attribute [local go_sem ↓] VOps_nil VOps_cons VOp_callJ VVal_callH VOps_guard GOn_tt GOn_ff GOn_tf GOn_ft GOn_not GOn_none HOn_none HOn_tt HOn_ff HOn_tf HOn_ft HOn_not VHead_nil VHead_cons VHead_guard VVal_move VVal_assign VVal_pickE pickK_true pickK_false VVal_not VVal_load loadK_fz loadK_ptr loadK_eptr VVal_fieldAddr VVal_field VVal_indexAddr idxK_sl idxK_ref VVal_index indexK_str VVal_extract VVal_binOp binK_one binK_agg VVal_build VVal_buildSlice VVal_makeFunc VVal_slice sliceK_str sliceK_sl sliceK_ref VVal_slice3 VVal_nilCheck VVal_convert convKk_int convKk_str VVal_len VVal_max VVal_min VOp_assign assignK_int assignK_bool assignK_str assignK_clo assignK_sl assignK_nil assignK_ref assignK_agg assignK_fz assignK_ptr assignK_eptr assignK_any VOp_box VOp_alloc VOp_store storeK_ptr storeK_eptr VOp_buildSlice VOp_append appK_rr appK_rs appK_rn appK_ri appK_nl appStd_eq VOp_copy copyK_ref VOp_clear clearK_ref VOp_cap VOp_eqNil VOp_move VOp_pick VOp_not VOp_load VOp_fieldAddr VOp_field VOp_indexAddr VOp_index VOp_extract VOp_binTmp VOp_binInt VOp_binStr VOp_build VOp_makeFunc VOp_slice VOp_nilCheck VOp_convert VOp_len VOp_max VOp_min mO_some mT_some pk_some pk_none look_cons del_cons
attribute [local go_sem] guardB gOf int_bne beq_true beq_false Bool.not_not gSlot pickK_true pickK_false loadK_fz loadK_ptr loadK_eptr idxK_sl idxK_ref indexK_str binK_one binK_agg sliceK_str sliceK_sl sliceK_ref convKk_int convKk_str maxL minL assignK_int assignK_bool assignK_str assignK_clo assignK_sl assignK_nil assignK_ref assignK_agg assignK_fz assignK_ptr assignK_eptr assignK_any nilRow_eq takeRow_eq appended_eq storeK_ptr storeK_eptr store_mk appIn_eq appMk_eq marked_eq ovOut_nil ovOut_cons ovIn_nil ovIn_cons padRow_eq ysC capK_ref ioSt_mk outB_nil outR_nil outB outR inB_nil inB_cons inR_nil inR_cons L.kl L.kl0 L.ids L.ids0 Option.getD_some evalO constA mO_some mT_some put_mk putO_some putO_none okD_some okD_none pk_some pk_none look_nil del_nil sput noBox_mk noRow_mk newBox_eq newRow0_eq St.killRow RowC.kill rowMap_mk rowOf ovAll ovAdd ovDel ovGet ovShift dstOf ysOf overlay_nil overlay_nil' overlay A.map V.map L.noPtr L.noPtr0 L.noRow L.noRow0 L.peek L.norm L.flat clos_int clos_bool clos_str clos_sl clos_nil clos_any clos_fz L.clos L.isFz L.kd moveL fieldOff eqCells eqCell eqOp oneOf boolOf intOfA tupOf vOf aggOf isPtrLike isSlice lenKind lenL nL elemTI loadV asV binL intBin intDivL shrL boolBin strBin boundN partCells fillL placesOf setL chunks repL capsOf capL callOf argsOf frzV_int frzV_bool frzV_str frzV_sl frzV_nil frzV_fz frzV_any frzV_own frzV_clo frzV_ref frzV_eptr frzV_ptr frzRow_nil frzRow_ov frzRs_nil frzRs_cons frzCs_nil frzCs_cons frzO_some frzO_none frzN_int frzN_bool frzN_str frzN_sl frzN_nil frzN_any frzN_own List.map_cons List.map_nil List.cons_append List.nil_append List.append_nil List.length_cons List.length_nil List.length_map List.length_append List.headD_cons List.tail_cons List.getElem?_cons_zero List.getElem?_cons_succ List.drop_zero List.drop_succ_cons List.drop_nil List.take_succ_cons List.take_zero List.take_nil List.take_length List.filter_cons List.filter_nil List.elem_cons List.elem_nil List.all_cons List.all_nil Option.bind_some Option.map_some Option.some.injEq bne_self_eq_false beq_self_eq_true if_true if_false Bool.false_eq_true true_and and_true and_self Nat.zero_add Nat.add_zero Nat.zero_le Int.toNat_natCast Int.toNat_zero Option.isSome_some List.getElem?_toArray decide_true decide_false ge_iff_le gt_iff_lt Bool.not_true Bool.not_false Nat.le_refl Bool.and_true Bool.true_and Bool.and_false Bool.false_and eVal eRow eRow1 eRows eInt1 eInts eCol eCols eTbl eTbls eFK eFKs eCon eCons eSch eRel eInst eChg eChgs szOf getD_map_lt wrap_nat wrap_in List.take_of_length_le frz_eVal frz_eRow1 frz_eInt1 frz_eCol frz_eTbl frz_eFK frz_eCon frz_eRel frz_eChg noOwn_nil noOwn_cons noOwn_append L.isOwn noOwn_eVal noOwn_eRow1 noOwn_eInt1 noOwn_eCol noOwn_eTbl noOwn_eFK noOwn_eCon noOwn_eRel noOwn_eChg convK_2 convK_3 convK_5 convK_12 convK_21 convK_28 convK_156 convK_164 TT_2 TT_3 TT_4 TT_5 TT_9 TT_12 TT_13 TT_21 TT_22 TT_23 TT_24 TT_25 TT_26 TT_28 TT_30 TT_31 TT_32 TT_33 TT_37 TT_38 TT_41 TT_42 TT_43 TT_54 TT_55 TT_58 TT_59 TT_60 TT_61 TT_65 TT_66 TT_70 TT_71 TT_78 TT_82 TT_83 TT_102 TT_126 TT_130 TT_156 TT_164 boolTy_4 eqK_38 eqK_59 eqK_61
attribute [local congr] VOps.congr VHead.congr VOp.congr VVal.congr pk.congr assignK.congr appK.congr appStd.congr copyK.congr clearK.congr storeK.congr loadK.congr idxK.congr sliceK.congr indexK.congr binK.congr convKk.congr
/-- instance.Satisfies. -/
def rightV (c : Con) (r : Row) : Val := if 0 ≤ c.right then r.getD c.right.toNat zV else c.value
def holdsC (c : Con) (r : Row) : Bool :=
  if c.left < 0 ∨ (r.length : Int) ≤ c.left ∨ (r.length : Int) ≤ c.right then true else satV (r.getD c.left.toNat zV) c.op (rightV c r) || !(satE c.op == 0)

set_option maxHeartbeats 8000000 in
theorem instSatisfies_sat (c : Con) (r : Row) (h1 : r.length ≤ 140737488355328) : Sat Try.prog 80 [.agg (eCon c), .one (eRow r)] (.v (oB (holdsC c r))) := by
  refine sat_of_body tyOk Try.func80 rfl (by kernel_rfl) ⟨Nat.le_of_ble_eq_true rfl, Nat.le_of_ble_eq_true rfl⟩ fun w0 m0 F0 => ?_
  simp only [Try.ntmps80, envOf, Nat.reduceAdd]
  repeat' (first
    | ((first
      | with_reducible refine AWP.regionL tyOk fun K hK => ?_
      | ((first | with_reducible refine GOn.isT ?_ ?_ | with_reducible refine HOn.isT ?_ ?_ | with_reducible refine pickK.isT ?_ ?_); focus (first | with_reducible rfl | with_reducible assumption | (simp only [NM, LN]; first | done | with_reducible assumption | omega)))
      | ((first | with_reducible refine GOn.isF ?_ ?_ | with_reducible refine HOn.isF ?_ ?_ | with_reducible refine pickK.isF ?_ ?_); focus (first | with_reducible rfl | with_reducible assumption | (simp only [NM, LN]; first | done | with_reducible assumption | omega)))
      | ((first | with_reducible refine GOn.split (fun h => ?_) (fun h => ?_) | with_reducible refine HOn.split (fun h => ?_) (fun h => ?_) | with_reducible refine pickK.split (fun h => ?_) (fun h => ?_)) <;> (try simp only [NM] at h))
      | with_reducible refine AWP.drawAll tyOk mixed 6 (by kernel_rfl) fun K hK => ?_
      | ((with_reducible refine CallJ.is ?_); (first | refine CallJ.pure (satisfies_sat _ _ _) ?_ | ((first | refine CallJ.lent (satisfies_sat _ _ _) ?_ ?_; focus (simp -dsimp (disch := (first | omega | (simp only [LN]; omega))) only [go_sem, ↓reduceIte, Nat.reduceLT, Nat.reduceLeDiff, Nat.reduceEqDiff, Nat.reduceAdd, Nat.reduceMul, Nat.reduceSub, Nat.reduceBEq, Nat.reduceBNe, Int.reduceBEq, Int.reduceLT, Int.reduceLE, reduceCtorEq, Int.reduceToNat]; done)))))
      | ((with_reducible refine CallH.is ?_); (first | refine CallH.intro (satisfies_sat _ _ _) ?_))) <;> simp -dsimp (disch := (first | omega | (simp only [LN]; omega))) only [go_sem, ↓reduceIte, Nat.reduceLT, Nat.reduceLeDiff, Nat.reduceEqDiff, Nat.reduceAdd, Nat.reduceMul, Nat.reduceSub, Nat.reduceBEq, Nat.reduceBNe, Int.reduceBEq, Int.reduceLT, Int.reduceLE, reduceCtorEq, Int.reduceToNat])
    | ((with_reducible refine hK _ ?_); clear hK K)
    | with_reducible refine AWP.seq ?_
    | with_reducible refine thenQ_normal ?_
    | with_reducible refine AWP.block ?_
    | with_reducible refine AWP.skip ?_
    | with_reducible refine AWP.ret ?_
    | with_reducible refine thenQ_ret ?_
    | with_reducible refine blockQ_ret ?_
    | with_reducible refine AWP.exit ?_
    | with_reducible refine thenQ_exit ?_
    | with_reducible refine blockQ_normal ?_
    | with_reducible refine blockQ_exit ?_
    | refine blockQ_exit_ne rfl ?_
    | (with_reducible refine And.intro (by (first | with_reducible rfl | with_reducible assumption | omega | (simp only [LN]; first | done | with_reducible rfl | omega) | (simp only [NM, LN]; first | done | with_reducible assumption | omega) | (and_intros <;> first | with_reducible assumption | omega | (simp only [LN]; omega)) | fail)) ?_)
    | ((with_reducible refine AWP.condG (T := TT) (b := ?_) ?_ ?_); rotate_left; exact rfl)
    | with_reducible refine CondG.t ?_
    | with_reducible refine CondG.f ?_
    | with_reducible refine CondG.not ?_
    | ((first | with_reducible refine CondG.isT ?_ ?_); focus (first | with_reducible rfl | with_reducible assumption | (simp only [NM, LN]; first | done | with_reducible assumption | omega)))
    | ((first | with_reducible refine CondG.isF ?_ ?_); focus (first | with_reducible rfl | with_reducible assumption | (simp only [NM, LN]; first | done | with_reducible assumption | omega)))
    | ((with_reducible refine CondG.split (fun h => ?_) (fun h => ?_)) <;> (try simp only [NM] at h)))
  all_goals simp -dsimp (disch := (first | omega | (simp only [LN]; omega))) only [retQ, Try.results80, resVals, cellRV, resOf, St.rest, St.freeze, RT, go_sem, ↓reduceIte, Nat.reduceLT, Nat.reduceLeDiff, Nat.reduceEqDiff, Nat.reduceAdd, Nat.reduceMul, Nat.reduceSub, Nat.reduceBEq, Nat.reduceBNe, Int.reduceBEq, Int.reduceLT, Int.reduceLE, reduceCtorEq, Int.reduceToNat]
  all_goals
    (simp (disch := omega) only [holdsC, rightV, getD_lt]
     (repeat' split) <;> first
       | rfl
       | omega
       | (exfalso; omega)
       | (simp_all; done)
       | (simp_all; omega))

/-- instance.ConformsRow. -/
def cellE (t : Tbl) (k : Nat) (v : Val) : Option Int :=
  if valE v ≠ 0 then some (valE v) else if v.kind = 0 ∧ (t.cols.getD k zCol).nullable = false then some 8 else if v.kind ≠ 0 ∧ v.kind ≠ (t.cols.getD k zCol).kind then some 7 else none
def rowE (t : Tbl) (r : Row) : Int :=
  if r.length ≠ t.cols.length then 3 else match scan (cellE t) r 0 with
    | some e => e
    | none => 0
set_option maxHeartbeats 8000000 in
theorem conformsRow_sat (t : Tbl) (r : Row) (h1 : r.length ≤ 140737488355328) (h2 : t.cols.length ≤ 140737488355328) : Sat Try.prog 81 [.agg (eTbl t), .one (eRow r)] (.v (oI (rowE t r))) := by
  refine sat_of_body tyOk Try.func81 rfl (by kernel_rfl) ⟨Nat.le_of_ble_eq_true rfl, Nat.le_of_ble_eq_true rfl⟩ fun w0 m0 F0 => ?_
  simp only [Try.ntmps81, envOf, Nat.reduceAdd]
  repeat' (first
    | ((first
      | with_reducible refine AWP.regionL tyOk fun K hK => ?_
      | ((first | with_reducible refine GOn.isT ?_ ?_ | with_reducible refine HOn.isT ?_ ?_ | with_reducible refine pickK.isT ?_ ?_); focus (first | with_reducible rfl | with_reducible assumption | (simp only [NM, LN]; first | done | with_reducible assumption | omega)))
      | ((first | with_reducible refine GOn.isF ?_ ?_ | with_reducible refine HOn.isF ?_ ?_ | with_reducible refine pickK.isF ?_ ?_); focus (first | with_reducible rfl | with_reducible assumption | (simp only [NM, LN]; first | done | with_reducible assumption | omega)))
      | ((first | with_reducible refine GOn.split (fun h => ?_) (fun h => ?_) | with_reducible refine HOn.split (fun h => ?_) (fun h => ?_) | with_reducible refine pickK.split (fun h => ?_) (fun h => ?_)) <;> (try simp only [NM] at h))
      | with_reducible refine AWP.drawAll tyOk mixed 6 (by kernel_rfl) fun K hK => ?_
      | ((with_reducible refine CallJ.is ?_); (first | refine CallJ.pure (validate_sat _) ?_ | ((first | refine CallJ.lent (validate_sat _) ?_ ?_; focus (simp -dsimp (disch := (first | omega | (simp only [LN]; omega))) only [go_sem, ↓reduceIte, Nat.reduceLT, Nat.reduceLeDiff, Nat.reduceEqDiff, Nat.reduceAdd, Nat.reduceMul, Nat.reduceSub, Nat.reduceBEq, Nat.reduceBNe, Int.reduceBEq, Int.reduceLT, Int.reduceLE, reduceCtorEq, Int.reduceToNat]; done)))))
      | ((with_reducible refine CallH.is ?_); (first | refine CallH.intro (validate_sat _) ?_))) <;> simp -dsimp (disch := (first | omega | (simp only [LN]; omega))) only [go_sem, ↓reduceIte, Nat.reduceLT, Nat.reduceLeDiff, Nat.reduceEqDiff, Nat.reduceAdd, Nat.reduceMul, Nat.reduceSub, Nat.reduceBEq, Nat.reduceBNe, Int.reduceBEq, Int.reduceLT, Int.reduceLE, reduceCtorEq, Int.reduceToNat])
    | ((with_reducible refine hK _ ?_); clear hK K)
    | with_reducible refine AWP.seq ?_
    | with_reducible refine thenQ_normal ?_
    | with_reducible refine AWP.block ?_
    | with_reducible refine AWP.skip ?_
    | with_reducible refine AWP.ret ?_
    | with_reducible refine thenQ_ret ?_
    | with_reducible refine blockQ_ret ?_
    | with_reducible refine AWP.exit ?_
    | with_reducible refine thenQ_exit ?_
    | with_reducible refine blockQ_normal ?_
    | with_reducible refine blockQ_exit ?_
    | refine blockQ_exit_ne rfl ?_
    | (with_reducible refine And.intro (by (first | with_reducible rfl | with_reducible assumption | omega | (simp only [LN]; first | done | with_reducible rfl | omega) | (simp only [NM, LN]; first | done | with_reducible assumption | omega) | (and_intros <;> first | with_reducible assumption | omega | (simp only [LN]; omega)) | fail)) ?_)
    | ((with_reducible refine AWP.condG (T := TT) (b := ?_) ?_ ?_); rotate_left; exact rfl)
    | with_reducible refine CondG.t ?_
    | with_reducible refine CondG.f ?_
    | with_reducible refine CondG.not ?_
    | ((first | with_reducible refine CondG.isT ?_ ?_); focus (first | with_reducible rfl | with_reducible assumption | (simp only [NM, LN]; first | done | with_reducible assumption | omega)))
    | ((first | with_reducible refine CondG.isF ?_ ?_); focus (first | with_reducible rfl | with_reducible assumption | (simp only [NM, LN]; first | done | with_reducible assumption | omega)))
    | ((with_reducible refine CondG.split (fun h => ?_) (fun h => ?_)) <;> (try simp only [NM] at h)))
  rotate_left
  · simp -dsimp (disch := (first | omega | (simp only [LN]; omega))) only [retQ, Try.results81, resVals, cellRV, resOf, St.rest, St.freeze, RT, go_sem, ↓reduceIte, Nat.reduceLT, Nat.reduceLeDiff, Nat.reduceEqDiff, Nat.reduceAdd, Nat.reduceMul, Nat.reduceSub, Nat.reduceBEq, Nat.reduceBNe, Int.reduceBEq, Int.reduceLT, Int.reduceLE, reduceCtorEq, Int.reduceToNat]
    have : r.length ≠ t.cols.length := by omega
    simp [rowE, this]
  have hl : r.length = t.cols.length := by omega
  have spec : rowE t r = match scan (cellE t) r 0 with
    | some e => e
    | none => 0 := by simp [rowE, hl]
  rw [spec]
  refine AWP.loop (ι := {k : Nat // k ≤ r.length ∧ scan (cellE t) (r.drop k) k = scan (cellE t) r 0}) (fun k => ⟨53, [(2, .v (.one (.ptr 2 0))), (14, .v (.one (eRow r))), (15, .v (oI r.length)), (16, .v (oI k.1))], [(2, eTbl t)], []⟩) (fun k => r.length - k.1) ⟨0, Nat.zero_le _, rfl⟩ ?_ fun ⟨k, hkl, hi⟩ => ?_
  · exact St.le_mk (by simp only [LE, EN, Nat.reduceEqDiff, reduceIte, Nat.reduceSub, eTbl]) (by simp only [LE, EN, Nat.reduceEqDiff, reduceIte, Nat.reduceSub, eTbl]) (by simp only [LE, EN, Nat.reduceEqDiff, reduceIte, Nat.reduceSub, eTbl])
  rcases Nat.lt_or_ge k r.length with hc | hc
  · repeat' (first
      | ((first
        | with_reducible refine AWP.regionL tyOk fun K hK => ?_
        | ((first | with_reducible refine GOn.isT ?_ ?_ | with_reducible refine HOn.isT ?_ ?_ | with_reducible refine pickK.isT ?_ ?_); focus (first | with_reducible rfl | with_reducible assumption | (simp only [NM, LN]; first | done | with_reducible assumption | omega)))
        | ((first | with_reducible refine GOn.isF ?_ ?_ | with_reducible refine HOn.isF ?_ ?_ | with_reducible refine pickK.isF ?_ ?_); focus (first | with_reducible rfl | with_reducible assumption | (simp only [NM, LN]; first | done | with_reducible assumption | omega)))
        | ((first | with_reducible refine GOn.split (fun h => ?_) (fun h => ?_) | with_reducible refine HOn.split (fun h => ?_) (fun h => ?_) | with_reducible refine pickK.split (fun h => ?_) (fun h => ?_)) <;> (try simp only [NM] at h))
        | with_reducible refine AWP.drawAll tyOk mixed 6 (by kernel_rfl) fun K hK => ?_
        | ((with_reducible refine CallJ.is ?_); (first | refine CallJ.pure (validate_sat _) ?_ | ((first | refine CallJ.lent (validate_sat _) ?_ ?_; focus (simp -dsimp (disch := (first | omega | (simp only [LN]; omega))) only [go_sem, ↓reduceIte, Nat.reduceLT, Nat.reduceLeDiff, Nat.reduceEqDiff, Nat.reduceAdd, Nat.reduceMul, Nat.reduceSub, Nat.reduceBEq, Nat.reduceBNe, Int.reduceBEq, Int.reduceLT, Int.reduceLE, reduceCtorEq, Int.reduceToNat]; done)))))
        | ((with_reducible refine CallH.is ?_); (first | refine CallH.intro (validate_sat _) ?_))) <;> simp -dsimp (disch := (first | omega | (simp only [LN]; omega))) only [go_sem, ↓reduceIte, Nat.reduceLT, Nat.reduceLeDiff, Nat.reduceEqDiff, Nat.reduceAdd, Nat.reduceMul, Nat.reduceSub, Nat.reduceBEq, Nat.reduceBNe, Int.reduceBEq, Int.reduceLT, Int.reduceLE, reduceCtorEq, Int.reduceToNat])
      | ((with_reducible refine hK _ ?_); clear hK K)
      | with_reducible refine AWP.seq ?_
      | with_reducible refine thenQ_normal ?_
      | with_reducible refine AWP.block ?_
      | with_reducible refine AWP.skip ?_
      | with_reducible refine AWP.ret ?_
      | with_reducible refine thenQ_ret ?_
      | with_reducible refine blockQ_ret ?_
      | with_reducible refine AWP.exit ?_
      | with_reducible refine thenQ_exit ?_
      | with_reducible refine blockQ_normal ?_
      | with_reducible refine blockQ_exit ?_
      | refine blockQ_exit_ne rfl ?_
      | (with_reducible refine And.intro (by (first | with_reducible rfl | with_reducible assumption | omega | (simp only [LN]; first | done | with_reducible rfl | omega) | (simp only [NM, LN]; first | done | with_reducible assumption | omega) | (and_intros <;> first | with_reducible assumption | omega | (simp only [LN]; omega)) | fail)) ?_)
      | ((with_reducible refine AWP.condG (T := TT) (b := ?_) ?_ ?_); rotate_left; exact rfl)
      | with_reducible refine CondG.t ?_
      | with_reducible refine CondG.f ?_
      | with_reducible refine CondG.not ?_
      | ((first | with_reducible refine CondG.isT ?_ ?_); focus (first | with_reducible rfl | with_reducible assumption | (simp only [NM, LN]; first | done | with_reducible assumption | omega)))
      | ((first | with_reducible refine CondG.isF ?_ ?_); focus (first | with_reducible rfl | with_reducible assumption | (simp only [NM, LN]; first | done | with_reducible assumption | omega)))
      | ((with_reducible refine CondG.split (fun h => ?_) (fun h => ?_)) <;> (try simp only [NM] at h)))
    all_goals
      first
        | (have hs : (cellE t) k r[k] = none := by
             (simp (disch := omega) only [cellE, getD_lt]; (repeat' split) <;> first | rfl | with_reducible assumption | omega | (exfalso; omega) | (simp_all; done) | (simp_all; omega))
           refine ⟨⟨k + 1, by omega, by rw [scan_step (by omega) hs, hi]⟩, by simp only; omega, ?_⟩
           exact St.le_mk (by simp only [LE, EN, Nat.reduceEqDiff, reduceIte, Nat.reduceSub, eTbl]) (by simp only [LE, EN, Nat.reduceEqDiff, reduceIte, Nat.reduceSub, eTbl]) (by simp only [LE, EN, Nat.reduceEqDiff, reduceIte, Nat.reduceSub, eTbl])
           done)
        | (simp -dsimp (disch := (first | omega | (simp only [LN]; omega))) only [retQ, Try.results81, resVals, cellRV, resOf, St.rest, St.freeze, RT, go_sem, ↓reduceIte, Nat.reduceLT, Nat.reduceLeDiff, Nat.reduceEqDiff, Nat.reduceAdd, Nat.reduceMul, Nat.reduceSub, Nat.reduceBEq, Nat.reduceBNe, Int.reduceBEq, Int.reduceLT, Int.reduceLE, reduceCtorEq, Int.reduceToNat]
           rw [scan_leaf (by omega) ?_ hi]
           all_goals first | with_reducible rfl | ((simp (disch := omega) only [cellE, getD_lt]; (repeat' split) <;> first | rfl | with_reducible assumption | omega | (exfalso; omega) | (simp_all; done) | (simp_all; omega)); done) | rfl
           done)
  · rw [scan_end (by omega)] at hi
    repeat' (first
      | ((first
        | with_reducible refine AWP.regionL tyOk fun K hK => ?_
        | ((first | with_reducible refine GOn.isT ?_ ?_ | with_reducible refine HOn.isT ?_ ?_ | with_reducible refine pickK.isT ?_ ?_); focus (first | with_reducible rfl | with_reducible assumption | (simp only [NM, LN]; first | done | with_reducible assumption | omega)))
        | ((first | with_reducible refine GOn.isF ?_ ?_ | with_reducible refine HOn.isF ?_ ?_ | with_reducible refine pickK.isF ?_ ?_); focus (first | with_reducible rfl | with_reducible assumption | (simp only [NM, LN]; first | done | with_reducible assumption | omega)))
        | ((first | with_reducible refine GOn.split (fun h => ?_) (fun h => ?_) | with_reducible refine HOn.split (fun h => ?_) (fun h => ?_) | with_reducible refine pickK.split (fun h => ?_) (fun h => ?_)) <;> (try simp only [NM] at h))
        | with_reducible refine AWP.drawAll tyOk mixed 6 (by kernel_rfl) fun K hK => ?_) <;> simp -dsimp (disch := (first | omega | (simp only [LN]; omega))) only [go_sem, ↓reduceIte, Nat.reduceLT, Nat.reduceLeDiff, Nat.reduceEqDiff, Nat.reduceAdd, Nat.reduceMul, Nat.reduceSub, Nat.reduceBEq, Nat.reduceBNe, Int.reduceBEq, Int.reduceLT, Int.reduceLE, reduceCtorEq, Int.reduceToNat])
      | ((with_reducible refine hK _ ?_); clear hK K)
      | with_reducible refine AWP.seq ?_
      | with_reducible refine thenQ_normal ?_
      | with_reducible refine AWP.block ?_
      | with_reducible refine AWP.skip ?_
      | with_reducible refine AWP.ret ?_
      | with_reducible refine thenQ_ret ?_
      | with_reducible refine blockQ_ret ?_
      | with_reducible refine AWP.exit ?_
      | with_reducible refine thenQ_exit ?_
      | with_reducible refine blockQ_normal ?_
      | with_reducible refine blockQ_exit ?_
      | refine blockQ_exit_ne rfl ?_
      | (with_reducible refine And.intro (by (first | with_reducible rfl | with_reducible assumption | omega | (simp only [LN]; first | done | with_reducible rfl | omega) | (simp only [NM, LN]; first | done | with_reducible assumption | omega) | (and_intros <;> first | with_reducible assumption | omega | (simp only [LN]; omega)) | fail)) ?_)
      | ((with_reducible refine AWP.condG (T := TT) (b := ?_) ?_ ?_); rotate_left; exact rfl)
      | with_reducible refine CondG.t ?_
      | with_reducible refine CondG.f ?_
      | with_reducible refine CondG.not ?_
      | ((first | with_reducible refine CondG.isT ?_ ?_); focus (first | with_reducible rfl | with_reducible assumption | (simp only [NM, LN]; first | done | with_reducible assumption | omega)))
      | ((first | with_reducible refine CondG.isF ?_ ?_); focus (first | with_reducible rfl | with_reducible assumption | (simp only [NM, LN]; first | done | with_reducible assumption | omega)))
      | ((with_reducible refine CondG.split (fun h => ?_) (fun h => ?_)) <;> (try simp only [NM] at h)))
    simp -dsimp (disch := (first | omega | (simp only [LN]; omega))) only [retQ, Try.results81, resVals, cellRV, resOf, St.rest, St.freeze, RT, go_sem, ↓reduceIte, Nat.reduceLT, Nat.reduceLeDiff, Nat.reduceEqDiff, Nat.reduceAdd, Nat.reduceMul, Nat.reduceSub, Nat.reduceBEq, Nat.reduceBNe, Int.reduceBEq, Int.reduceLT, Int.reduceLE, reduceCtorEq, Int.reduceToNat]
    rw [← hi]

/-- value.CompareRows: the first cells that differ, else the lengths. -/
def cmpCell (b : Row) (k : Nat) (x : Val) : Option Int := if k < b.length ∧ cmpV x (b.getD k zV) ≠ 0 then some (cmpV x (b.getD k zV)) else none
def cmpRows (a b : Row) : Int := match scan (cmpCell b) a 0 with
  | some e => e
  | none => cmpInts a.length b.length
theorem scan_all_none {α : Type} {f : Nat → α → Option Int} : ∀ {l : List α} {k : Nat}, (∀ j x, k ≤ j → f j x = none) → scan f l k = none
  | [], _, _ => rfl
  | x :: l, k, h => by
    rw [scan, h k x (Nat.le_refl _)]
    exact scan_all_none fun j y hj => h j y (by omega)

set_option maxHeartbeats 8000000 in
theorem compareRows_sat (a b : Row) (h1 : a.length ≤ 140737488355328) (h2 : b.length ≤ 140737488355328) : Sat Try.prog 63 [.one (eRow a), .one (eRow b)] (.v (oI (cmpRows a b))) := by
  refine sat_of_body tyOk Try.func63 rfl (by kernel_rfl) ⟨Nat.le_of_ble_eq_true rfl, Nat.le_of_ble_eq_true rfl⟩ fun w0 m0 F0 => ?_
  simp only [Try.ntmps63, envOf, Nat.reduceAdd]
  repeat' (first
    | ((first
      | with_reducible refine AWP.regionL tyOk fun K hK => ?_
      | ((first | with_reducible refine GOn.isT ?_ ?_ | with_reducible refine HOn.isT ?_ ?_ | with_reducible refine pickK.isT ?_ ?_); focus (first | with_reducible rfl | with_reducible assumption | (simp only [NM, LN]; first | done | with_reducible assumption | omega)))
      | ((first | with_reducible refine GOn.isF ?_ ?_ | with_reducible refine HOn.isF ?_ ?_ | with_reducible refine pickK.isF ?_ ?_); focus (first | with_reducible rfl | with_reducible assumption | (simp only [NM, LN]; first | done | with_reducible assumption | omega)))
      | ((first | with_reducible refine GOn.split (fun h => ?_) (fun h => ?_) | with_reducible refine HOn.split (fun h => ?_) (fun h => ?_) | with_reducible refine pickK.split (fun h => ?_) (fun h => ?_)) <;> (try simp only [NM] at h))
      | with_reducible refine AWP.drawAll tyOk mixed 6 (by kernel_rfl) fun K hK => ?_
      | ((with_reducible refine CallJ.is ?_); (first | refine CallJ.pure (compare_sat _ _) ?_ | ((first | refine CallJ.lent (compare_sat _ _) ?_ ?_; focus (simp -dsimp (disch := (first | omega | (simp only [LN]; omega))) only [go_sem, ↓reduceIte, Nat.reduceLT, Nat.reduceLeDiff, Nat.reduceEqDiff, Nat.reduceAdd, Nat.reduceMul, Nat.reduceSub, Nat.reduceBEq, Nat.reduceBNe, Int.reduceBEq, Int.reduceLT, Int.reduceLE, reduceCtorEq, Int.reduceToNat]; done)))))
      | ((with_reducible refine CallH.is ?_); (first | refine CallH.intro (compare_sat _ _) ?_))) <;> simp -dsimp (disch := (first | omega | (simp only [LN]; omega))) only [go_sem, ↓reduceIte, Nat.reduceLT, Nat.reduceLeDiff, Nat.reduceEqDiff, Nat.reduceAdd, Nat.reduceMul, Nat.reduceSub, Nat.reduceBEq, Nat.reduceBNe, Int.reduceBEq, Int.reduceLT, Int.reduceLE, reduceCtorEq, Int.reduceToNat])
    | ((with_reducible refine hK _ ?_); clear hK K)
    | with_reducible refine AWP.seq ?_
    | with_reducible refine thenQ_normal ?_
    | with_reducible refine AWP.block ?_
    | with_reducible refine AWP.skip ?_
    | with_reducible refine AWP.ret ?_
    | with_reducible refine thenQ_ret ?_
    | with_reducible refine blockQ_ret ?_
    | with_reducible refine AWP.exit ?_
    | with_reducible refine thenQ_exit ?_
    | with_reducible refine blockQ_normal ?_
    | with_reducible refine blockQ_exit ?_
    | refine blockQ_exit_ne rfl ?_
    | (with_reducible refine And.intro (by (first | with_reducible rfl | with_reducible assumption | omega | (simp only [LN]; first | done | with_reducible rfl | omega) | (simp only [NM, LN]; first | done | with_reducible assumption | omega) | (and_intros <;> first | with_reducible assumption | omega | (simp only [LN]; omega)) | fail)) ?_)
    | ((with_reducible refine AWP.condG (T := TT) (b := ?_) ?_ ?_); rotate_left; exact rfl)
    | with_reducible refine CondG.t ?_
    | with_reducible refine CondG.f ?_
    | with_reducible refine CondG.not ?_
    | ((first | with_reducible refine CondG.isT ?_ ?_); focus (first | with_reducible rfl | with_reducible assumption | (simp only [NM, LN]; first | done | with_reducible assumption | omega)))
    | ((first | with_reducible refine CondG.isF ?_ ?_); focus (first | with_reducible rfl | with_reducible assumption | (simp only [NM, LN]; first | done | with_reducible assumption | omega)))
    | ((with_reducible refine CondG.split (fun h => ?_) (fun h => ?_)) <;> (try simp only [NM] at h)))
  refine AWP.loop (ι := {k : Nat // k ≤ a.length ∧ k ≤ b.length ∧ scan (cmpCell b) (a.drop k) k = scan (cmpCell b) a 0}) (fun k => ⟨33, [(0, .v (.one (eRow a))), (1, .v (.one (eRow b))), (11, .v (oI (if (b.length : Int) < (a.length : Int) then (b.length : Int) else (a.length : Int)))), (12, .v (oI k.1))], [], []⟩) (fun k => a.length - k.1) ⟨0, Nat.zero_le _, Nat.zero_le _, rfl⟩ ?_ fun ⟨k, hkl, hkb, hi⟩ => ?_
  · exact St.le_mk (by simp only [LE, EN, Nat.reduceEqDiff, reduceIte, Nat.reduceSub]) (by simp only [LE, EN, Nat.reduceEqDiff, reduceIte, Nat.reduceSub]) (by simp only [LE, EN, Nat.reduceEqDiff, reduceIte, Nat.reduceSub])
  by_cases hc : k < a.length ∧ k < b.length
  · obtain ⟨hc1, hc2⟩ := hc
    have hm : (k : Int) < (if (b.length : Int) < (a.length : Int) then (b.length : Int) else (a.length : Int)) := by split <;> omega
    repeat' (first
      | ((first
        | with_reducible refine AWP.regionL tyOk fun K hK => ?_
        | ((first | with_reducible refine GOn.isT ?_ ?_ | with_reducible refine HOn.isT ?_ ?_ | with_reducible refine pickK.isT ?_ ?_); focus (first | with_reducible rfl | with_reducible assumption | (simp only [NM, LN]; first | done | with_reducible assumption | omega)))
        | ((first | with_reducible refine GOn.isF ?_ ?_ | with_reducible refine HOn.isF ?_ ?_ | with_reducible refine pickK.isF ?_ ?_); focus (first | with_reducible rfl | with_reducible assumption | (simp only [NM, LN]; first | done | with_reducible assumption | omega)))
        | ((first | with_reducible refine GOn.split (fun h => ?_) (fun h => ?_) | with_reducible refine HOn.split (fun h => ?_) (fun h => ?_) | with_reducible refine pickK.split (fun h => ?_) (fun h => ?_)) <;> (try simp only [NM] at h))
        | with_reducible refine AWP.drawAll tyOk mixed 6 (by kernel_rfl) fun K hK => ?_
        | ((with_reducible refine CallJ.is ?_); (first | refine CallJ.pure (compare_sat _ _) ?_ | ((first | refine CallJ.lent (compare_sat _ _) ?_ ?_; focus (simp -dsimp (disch := (first | omega | (simp only [LN]; omega))) only [go_sem, ↓reduceIte, Nat.reduceLT, Nat.reduceLeDiff, Nat.reduceEqDiff, Nat.reduceAdd, Nat.reduceMul, Nat.reduceSub, Nat.reduceBEq, Nat.reduceBNe, Int.reduceBEq, Int.reduceLT, Int.reduceLE, reduceCtorEq, Int.reduceToNat, hm]; done)))))
        | ((with_reducible refine CallH.is ?_); (first | refine CallH.intro (compare_sat _ _) ?_))) <;> simp -dsimp (disch := (first | omega | (simp only [LN]; omega))) only [go_sem, ↓reduceIte, Nat.reduceLT, Nat.reduceLeDiff, Nat.reduceEqDiff, Nat.reduceAdd, Nat.reduceMul, Nat.reduceSub, Nat.reduceBEq, Nat.reduceBNe, Int.reduceBEq, Int.reduceLT, Int.reduceLE, reduceCtorEq, Int.reduceToNat, hm])
      | ((with_reducible refine hK _ ?_); clear hK K)
      | with_reducible refine AWP.seq ?_
      | with_reducible refine thenQ_normal ?_
      | with_reducible refine AWP.block ?_
      | with_reducible refine AWP.skip ?_
      | with_reducible refine AWP.ret ?_
      | with_reducible refine thenQ_ret ?_
      | with_reducible refine blockQ_ret ?_
      | with_reducible refine AWP.exit ?_
      | with_reducible refine thenQ_exit ?_
      | with_reducible refine blockQ_normal ?_
      | with_reducible refine blockQ_exit ?_
      | refine blockQ_exit_ne rfl ?_
      | (with_reducible refine And.intro (by (first | with_reducible rfl | with_reducible assumption | omega | (simp only [LN]; first | done | with_reducible rfl | omega) | (simp only [NM, LN]; first | done | with_reducible assumption | omega) | (and_intros <;> first | with_reducible assumption | omega | (simp only [LN]; omega)) | fail)) ?_)
      | ((with_reducible refine AWP.condG (T := TT) (b := ?_) ?_ ?_); rotate_left; exact rfl)
      | with_reducible refine CondG.t ?_
      | with_reducible refine CondG.f ?_
      | with_reducible refine CondG.not ?_
      | ((first | with_reducible refine CondG.isT ?_ ?_); focus (first | with_reducible rfl | with_reducible assumption | (simp only [NM, LN]; first | done | with_reducible assumption | omega)))
      | ((first | with_reducible refine CondG.isF ?_ ?_); focus (first | with_reducible rfl | with_reducible assumption | (simp only [NM, LN]; first | done | with_reducible assumption | omega)))
      | ((with_reducible refine CondG.split (fun h => ?_) (fun h => ?_)) <;> (try simp only [NM] at h)))
    all_goals first
      | (have hs : cmpCell b k a[k] = none := by
           (simp (disch := omega) only [cmpCell, getD_lt]; rw [if_neg]; omega)
         refine ⟨⟨k + 1, by omega, by omega, by rw [scan_step (by omega) hs, hi]⟩, by simp only; omega, ?_⟩
         exact St.le_mk (by simp only [LE, EN, Nat.reduceEqDiff, reduceIte, Nat.reduceSub]) (by simp only [LE, EN, Nat.reduceEqDiff, reduceIte, Nat.reduceSub]) (by simp only [LE, EN, Nat.reduceEqDiff, reduceIte, Nat.reduceSub])
         done)
      | (have hs : cmpCell b k a[k] = some (cmpV a[k] b[k]) := by
           (simp (disch := omega) only [cmpCell, getD_lt]; rw [if_pos]; omega)
         simp -dsimp (disch := (first | omega | (simp only [LN]; omega))) only [retQ, Try.results63, resVals, cellRV, resOf, St.rest, St.freeze, RT, go_sem, ↓reduceIte, Nat.reduceLT, Nat.reduceLeDiff, Nat.reduceEqDiff, Nat.reduceAdd, Nat.reduceMul, Nat.reduceSub, Nat.reduceBEq, Nat.reduceBNe, Int.reduceBEq, Int.reduceLT, Int.reduceLE, reduceCtorEq, Int.reduceToNat]
         rw [cmpRows, scan_leaf (by omega) hs hi]
         done)
  · have hm : ¬ (k : Int) < (if (b.length : Int) < (a.length : Int) then (b.length : Int) else (a.length : Int)) := by split <;> omega
    have hn : scan (cmpCell b) a 0 = none := by
      rw [← hi]
      rcases Nat.lt_or_ge k a.length with h | h
      · exact scan_all_none fun j x hj => if_neg (by omega)
      · rw [scan_end (by omega)]
    repeat' (first
      | ((first
        | with_reducible refine AWP.regionL tyOk fun K hK => ?_
        | ((first | with_reducible refine GOn.isT ?_ ?_ | with_reducible refine HOn.isT ?_ ?_ | with_reducible refine pickK.isT ?_ ?_); focus (first | with_reducible rfl | with_reducible assumption | (simp only [NM, LN]; first | done | with_reducible assumption | omega)))
        | ((first | with_reducible refine GOn.isF ?_ ?_ | with_reducible refine HOn.isF ?_ ?_ | with_reducible refine pickK.isF ?_ ?_); focus (first | with_reducible rfl | with_reducible assumption | (simp only [NM, LN]; first | done | with_reducible assumption | omega)))
        | ((first | with_reducible refine GOn.split (fun h => ?_) (fun h => ?_) | with_reducible refine HOn.split (fun h => ?_) (fun h => ?_) | with_reducible refine pickK.split (fun h => ?_) (fun h => ?_)) <;> (try simp only [NM] at h))
        | with_reducible refine AWP.drawAll tyOk mixed 6 (by kernel_rfl) fun K hK => ?_
        | ((with_reducible refine CallJ.is ?_); (first | refine CallJ.pure (compareInts_sat _ _) ?_ | ((first | refine CallJ.lent (compareInts_sat _ _) ?_ ?_; focus (simp -dsimp (disch := (first | omega | (simp only [LN]; omega))) only [go_sem, ↓reduceIte, Nat.reduceLT, Nat.reduceLeDiff, Nat.reduceEqDiff, Nat.reduceAdd, Nat.reduceMul, Nat.reduceSub, Nat.reduceBEq, Nat.reduceBNe, Int.reduceBEq, Int.reduceLT, Int.reduceLE, reduceCtorEq, Int.reduceToNat, hm]; done)))))
        | ((with_reducible refine CallH.is ?_); (first | refine CallH.intro (compareInts_sat _ _) ?_))) <;> simp -dsimp (disch := (first | omega | (simp only [LN]; omega))) only [go_sem, ↓reduceIte, Nat.reduceLT, Nat.reduceLeDiff, Nat.reduceEqDiff, Nat.reduceAdd, Nat.reduceMul, Nat.reduceSub, Nat.reduceBEq, Nat.reduceBNe, Int.reduceBEq, Int.reduceLT, Int.reduceLE, reduceCtorEq, Int.reduceToNat, hm])
      | ((with_reducible refine hK _ ?_); clear hK K)
      | with_reducible refine AWP.seq ?_
      | with_reducible refine thenQ_normal ?_
      | with_reducible refine AWP.block ?_
      | with_reducible refine AWP.skip ?_
      | with_reducible refine AWP.ret ?_
      | with_reducible refine thenQ_ret ?_
      | with_reducible refine blockQ_ret ?_
      | with_reducible refine AWP.exit ?_
      | with_reducible refine thenQ_exit ?_
      | with_reducible refine blockQ_normal ?_
      | with_reducible refine blockQ_exit ?_
      | refine blockQ_exit_ne rfl ?_
      | (with_reducible refine And.intro (by (first | with_reducible rfl | with_reducible assumption | omega | (simp only [LN]; first | done | with_reducible rfl | omega) | (simp only [NM, LN]; first | done | with_reducible assumption | omega) | (and_intros <;> first | with_reducible assumption | omega | (simp only [LN]; omega)) | fail)) ?_)
      | ((with_reducible refine AWP.condG (T := TT) (b := ?_) ?_ ?_); rotate_left; exact rfl)
      | with_reducible refine CondG.t ?_
      | with_reducible refine CondG.f ?_
      | with_reducible refine CondG.not ?_
      | ((first | with_reducible refine CondG.isT ?_ ?_); focus (first | with_reducible rfl | with_reducible assumption | (simp only [NM, LN]; first | done | with_reducible assumption | omega)))
      | ((first | with_reducible refine CondG.isF ?_ ?_); focus (first | with_reducible rfl | with_reducible assumption | (simp only [NM, LN]; first | done | with_reducible assumption | omega)))
      | ((with_reducible refine CondG.split (fun h => ?_) (fun h => ?_)) <;> (try simp only [NM] at h)))
    simp -dsimp (disch := (first | omega | (simp only [LN]; omega))) only [retQ, Try.results63, resVals, cellRV, resOf, St.rest, St.freeze, RT, go_sem, ↓reduceIte, Nat.reduceLT, Nat.reduceLeDiff, Nat.reduceEqDiff, Nat.reduceAdd, Nat.reduceMul, Nat.reduceSub, Nat.reduceBEq, Nat.reduceBNe, Int.reduceBEq, Int.reduceLT, Int.reduceLE, reduceCtorEq, Int.reduceToNat]
    rw [cmpRows, hn]

set_option maxHeartbeats 4000000 in
theorem indexFuncRow_sat (l : List Row) (f : Nat) (cs : List L) (p : Row → Bool) (hlen : l.length ≤ 140737488355328) (hp : ∀ t ∈ l, Sat Try.prog f (.one (eRow t) :: cs.map .one) (.v (oB (p t)))) :
    Sat Try.prog 103 [.one (eRows l), .one (.clo f cs)] (.v (oI (idx p l 0))) := by
  refine sat_of_body tyOk Try.func103 rfl (by kernel_rfl) ⟨Nat.le_of_ble_eq_true rfl, Nat.le_of_ble_eq_true rfl⟩ fun w0 m0 F0 => ?_
  simp only [Try.ntmps103, envOf, Nat.reduceAdd]
  repeat' (first
    | ((first
      | with_reducible refine AWP.regionL tyOk fun K hK => ?_
      | ((first | with_reducible refine GOn.isT ?_ ?_ | with_reducible refine HOn.isT ?_ ?_ | with_reducible refine pickK.isT ?_ ?_); focus (first | with_reducible rfl | with_reducible assumption | (simp only [NM, LN]; first | done | with_reducible assumption | omega)))
      | ((first | with_reducible refine GOn.isF ?_ ?_ | with_reducible refine HOn.isF ?_ ?_ | with_reducible refine pickK.isF ?_ ?_); focus (first | with_reducible rfl | with_reducible assumption | (simp only [NM, LN]; first | done | with_reducible assumption | omega)))
      | ((first | with_reducible refine GOn.split (fun h => ?_) (fun h => ?_) | with_reducible refine HOn.split (fun h => ?_) (fun h => ?_) | with_reducible refine pickK.split (fun h => ?_) (fun h => ?_)) <;> (try simp only [NM] at h))
      | with_reducible refine AWP.drawAll tyOk mixed 6 (by kernel_rfl) fun K hK => ?_) <;> simp -dsimp (disch := (first | omega | (simp only [LN]; omega))) only [go_sem, ↓reduceIte, Nat.reduceLT, Nat.reduceLeDiff, Nat.reduceEqDiff, Nat.reduceAdd, Nat.reduceMul, Nat.reduceSub, Nat.reduceBEq, Nat.reduceBNe, Int.reduceBEq, Int.reduceLT, Int.reduceLE, reduceCtorEq, Int.reduceToNat])
    | ((with_reducible refine hK _ ?_); clear hK K)
    | with_reducible refine AWP.seq ?_
    | with_reducible refine thenQ_normal ?_
    | with_reducible refine AWP.block ?_
    | with_reducible refine AWP.skip ?_
    | with_reducible refine AWP.ret ?_
    | with_reducible refine thenQ_ret ?_
    | with_reducible refine blockQ_ret ?_
    | with_reducible refine AWP.exit ?_
    | with_reducible refine thenQ_exit ?_
    | with_reducible refine blockQ_normal ?_
    | with_reducible refine blockQ_exit ?_
    | refine blockQ_exit_ne rfl ?_
    | (with_reducible refine And.intro (by (first | with_reducible rfl | with_reducible assumption | omega | (simp only [LN]; first | done | with_reducible rfl | omega) | (simp only [NM, LN]; first | done | with_reducible assumption | omega) | (and_intros <;> first | with_reducible assumption | omega | (simp only [LN]; omega)) | fail)) ?_)
    | ((with_reducible refine AWP.condG (T := TT) (b := ?_) ?_ ?_); rotate_left; exact rfl)
    | with_reducible refine CondG.t ?_
    | with_reducible refine CondG.f ?_
    | with_reducible refine CondG.not ?_
    | ((first | with_reducible refine CondG.isT ?_ ?_); focus (first | with_reducible rfl | with_reducible assumption | (simp only [NM, LN]; first | done | with_reducible assumption | omega)))
    | ((first | with_reducible refine CondG.isF ?_ ?_); focus (first | with_reducible rfl | with_reducible assumption | (simp only [NM, LN]; first | done | with_reducible assumption | omega)))
    | ((with_reducible refine CondG.split (fun h => ?_) (fun h => ?_)) <;> (try simp only [NM] at h)))
  refine AWP.loop (ι := {k : Nat // k ≤ l.length ∧ idx p (l.drop k) k = idx p l 0}) (fun k => ⟨19, [(0, .v (.one (eRows l))), (1, .v (.one (.clo f cs))), (7, .v (oI l.length)), (8, .v (oI k.1))], [], []⟩) (fun k => l.length - k.1) ⟨0, Nat.zero_le _, rfl⟩ ?_ fun ⟨k, hkl, hi⟩ => ?_
  · exact St.le_mk (by simp only [LE, EN, Nat.reduceEqDiff, reduceIte, Nat.reduceSub]) (by simp only [LE, EN, Nat.reduceEqDiff, reduceIte, Nat.reduceSub]) (by simp only [LE, EN, Nat.reduceEqDiff, reduceIte, Nat.reduceSub])
  repeat' (first
    | ((first
      | with_reducible refine AWP.regionL tyOk fun K hK => ?_
      | ((first | with_reducible refine GOn.isT ?_ ?_ | with_reducible refine HOn.isT ?_ ?_ | with_reducible refine pickK.isT ?_ ?_); focus (first | with_reducible rfl | with_reducible assumption | (simp only [NM, LN]; first | done | with_reducible assumption | omega)))
      | ((first | with_reducible refine GOn.isF ?_ ?_ | with_reducible refine HOn.isF ?_ ?_ | with_reducible refine pickK.isF ?_ ?_); focus (first | with_reducible rfl | with_reducible assumption | (simp only [NM, LN]; first | done | with_reducible assumption | omega)))
      | ((first | with_reducible refine GOn.split (fun h => ?_) (fun h => ?_) | with_reducible refine HOn.split (fun h => ?_) (fun h => ?_) | with_reducible refine pickK.split (fun h => ?_) (fun h => ?_)) <;> (try simp only [NM] at h))
      | with_reducible refine AWP.drawAll tyOk mixed 6 (by kernel_rfl) fun K hK => ?_
      | ((with_reducible refine CallJ.is ?_); (first | refine CallJ.pure (hp _ (List.getElem_mem (by omega))) ?_ | ((first | refine CallJ.lent (hp _ (List.getElem_mem (by omega))) ?_ ?_; focus (simp -dsimp (disch := (first | omega | (simp only [LN]; omega))) only [go_sem, ↓reduceIte, Nat.reduceLT, Nat.reduceLeDiff, Nat.reduceEqDiff, Nat.reduceAdd, Nat.reduceMul, Nat.reduceSub, Nat.reduceBEq, Nat.reduceBNe, Int.reduceBEq, Int.reduceLT, Int.reduceLE, reduceCtorEq, Int.reduceToNat]; done)))))
      | ((with_reducible refine CallH.is ?_); (first | refine CallH.intro (hp _ (List.getElem_mem (by omega))) ?_))) <;> simp -dsimp (disch := (first | omega | (simp only [LN]; omega))) only [go_sem, ↓reduceIte, Nat.reduceLT, Nat.reduceLeDiff, Nat.reduceEqDiff, Nat.reduceAdd, Nat.reduceMul, Nat.reduceSub, Nat.reduceBEq, Nat.reduceBNe, Int.reduceBEq, Int.reduceLT, Int.reduceLE, reduceCtorEq, Int.reduceToNat])
    | ((with_reducible refine hK _ ?_); clear hK K)
    | with_reducible refine AWP.seq ?_
    | with_reducible refine thenQ_normal ?_
    | with_reducible refine AWP.block ?_
    | with_reducible refine AWP.skip ?_
    | with_reducible refine AWP.ret ?_
    | with_reducible refine thenQ_ret ?_
    | with_reducible refine blockQ_ret ?_
    | with_reducible refine AWP.exit ?_
    | with_reducible refine thenQ_exit ?_
    | with_reducible refine blockQ_normal ?_
    | with_reducible refine blockQ_exit ?_
    | refine blockQ_exit_ne rfl ?_
    | (with_reducible refine And.intro (by (first | with_reducible rfl | with_reducible assumption | omega | (simp only [LN]; first | done | with_reducible rfl | omega) | (simp only [NM, LN]; first | done | with_reducible assumption | omega) | (and_intros <;> first | with_reducible assumption | omega | (simp only [LN]; omega)) | fail)) ?_)
    | ((with_reducible refine AWP.condG (T := TT) (b := ?_) ?_ ?_); rotate_left; exact rfl)
    | with_reducible refine CondG.t ?_
    | with_reducible refine CondG.f ?_
    | with_reducible refine CondG.not ?_
    | ((first | with_reducible refine CondG.isT ?_ ?_); focus (first | with_reducible rfl | with_reducible assumption | (simp only [NM, LN]; first | done | with_reducible assumption | omega)))
    | ((first | with_reducible refine CondG.isF ?_ ?_); focus (first | with_reducible rfl | with_reducible assumption | (simp only [NM, LN]; first | done | with_reducible assumption | omega)))
    | ((with_reducible refine CondG.split (fun h => ?_) (fun h => ?_)) <;> (try simp only [NM] at h)))
  all_goals first 
    | (have hk : ¬ k < l.length := by omega
       simp -dsimp (disch := (first | omega | (simp only [LN]; omega))) only [retQ, Try.results103, resVals, cellRV, resOf, St.rest, St.freeze, RT, go_sem, ↓reduceIte, Nat.reduceLT, Nat.reduceLeDiff, Nat.reduceEqDiff, Nat.reduceAdd, Nat.reduceMul, Nat.reduceSub, Nat.reduceBEq, Nat.reduceBNe, Int.reduceBEq, Int.reduceLT, Int.reduceLE, reduceCtorEq, Int.reduceToNat]
       rw [← hi, idx_end hk]
       done)
    | (
       simp -dsimp (disch := (first | omega | (simp only [LN]; omega))) only [retQ, Try.results103, resVals, cellRV, resOf, St.rest, St.freeze, RT, go_sem, ↓reduceIte, Nat.reduceLT, Nat.reduceLeDiff, Nat.reduceEqDiff, Nat.reduceAdd, Nat.reduceMul, Nat.reduceSub, Nat.reduceBEq, Nat.reduceBNe, Int.reduceBEq, Int.reduceLT, Int.reduceLE, reduceCtorEq, Int.reduceToNat]
       rw [← hi, idx_hit _ ‹_›])
    | (refine ⟨⟨k + 1, by omega, by rw [idx_step _ ‹_›, hi]⟩, by simp only; omega, ?_⟩
       exact St.le_mk (by simp only [LE, EN, Nat.reduceEqDiff, reduceIte, Nat.reduceSub]) (by simp only [LE, EN, Nat.reduceEqDiff, reduceIte, Nat.reduceSub]) (by simp only [LE, EN, Nat.reduceEqDiff, reduceIte, Nat.reduceSub])
       )


theorem containsRow_sat (l : List Row) (f : Nat) (cs : List L) (p : Row → Bool) (hlen : l.length ≤ 140737488355328) (hp : ∀ t ∈ l, Sat Try.prog f (.one (eRow t) :: cs.map .one) (.v (oB (p t)))) :
    Sat Try.prog 76 [.one (eRows l), .one (.clo f cs)] (.v (oB (decide (0 ≤ idx p l 0)))) := by
  refine sat_of_body tyOk Try.func76 rfl (by kernel_rfl) ⟨Nat.le_of_ble_eq_true rfl, Nat.le_of_ble_eq_true rfl⟩ fun w0 m0 F0 => ?_
  simp only [Try.ntmps76, envOf, Nat.reduceAdd]
  repeat' (first
    | ((first
      | with_reducible refine AWP.regionL tyOk fun K hK => ?_
      | ((first | with_reducible refine GOn.isT ?_ ?_ | with_reducible refine HOn.isT ?_ ?_ | with_reducible refine pickK.isT ?_ ?_); focus (first | with_reducible rfl | with_reducible assumption | (simp only [NM, LN]; first | done | with_reducible assumption | omega)))
      | ((first | with_reducible refine GOn.isF ?_ ?_ | with_reducible refine HOn.isF ?_ ?_ | with_reducible refine pickK.isF ?_ ?_); focus (first | with_reducible rfl | with_reducible assumption | (simp only [NM, LN]; first | done | with_reducible assumption | omega)))
      | ((first | with_reducible refine GOn.split (fun h => ?_) (fun h => ?_) | with_reducible refine HOn.split (fun h => ?_) (fun h => ?_) | with_reducible refine pickK.split (fun h => ?_) (fun h => ?_)) <;> (try simp only [NM] at h))
      | with_reducible refine AWP.drawAll tyOk mixed 6 (by kernel_rfl) fun K hK => ?_
      | ((with_reducible refine CallJ.is ?_); (first | refine CallJ.pure (indexFuncRow_sat l _ _ _ hlen hp) ?_ | ((first | refine CallJ.lent (indexFuncRow_sat l _ _ _ hlen hp) ?_ ?_; focus (simp -dsimp (disch := (first | omega | (simp only [LN]; omega))) only [go_sem, ↓reduceIte, Nat.reduceLT, Nat.reduceLeDiff, Nat.reduceEqDiff, Nat.reduceAdd, Nat.reduceMul, Nat.reduceSub, Nat.reduceBEq, Nat.reduceBNe, Int.reduceBEq, Int.reduceLT, Int.reduceLE, reduceCtorEq, Int.reduceToNat]; done)))))
      | ((with_reducible refine CallH.is ?_); (first | refine CallH.intro (indexFuncRow_sat l _ _ _ hlen hp) ?_))) <;> simp -dsimp (disch := (first | omega | (simp only [LN]; omega))) only [go_sem, ↓reduceIte, Nat.reduceLT, Nat.reduceLeDiff, Nat.reduceEqDiff, Nat.reduceAdd, Nat.reduceMul, Nat.reduceSub, Nat.reduceBEq, Nat.reduceBNe, Int.reduceBEq, Int.reduceLT, Int.reduceLE, reduceCtorEq, Int.reduceToNat])
    | ((with_reducible refine hK _ ?_); clear hK K)
    | with_reducible refine AWP.seq ?_
    | with_reducible refine thenQ_normal ?_
    | with_reducible refine AWP.block ?_
    | with_reducible refine AWP.skip ?_
    | with_reducible refine AWP.ret ?_
    | with_reducible refine thenQ_ret ?_
    | with_reducible refine blockQ_ret ?_
    | with_reducible refine AWP.exit ?_
    | with_reducible refine thenQ_exit ?_
    | with_reducible refine blockQ_normal ?_
    | with_reducible refine blockQ_exit ?_
    | refine blockQ_exit_ne rfl ?_
    | (with_reducible refine And.intro (by (first | with_reducible rfl | with_reducible assumption | omega | (simp only [LN]; first | done | with_reducible rfl | omega) | (simp only [NM, LN]; first | done | with_reducible assumption | omega) | (and_intros <;> first | with_reducible assumption | omega | (simp only [LN]; omega)) | fail)) ?_)
    | ((with_reducible refine AWP.condG (T := TT) (b := ?_) ?_ ?_); rotate_left; exact rfl)
    | with_reducible refine CondG.t ?_
    | with_reducible refine CondG.f ?_
    | with_reducible refine CondG.not ?_
    | ((first | with_reducible refine CondG.isT ?_ ?_); focus (first | with_reducible rfl | with_reducible assumption | (simp only [NM, LN]; first | done | with_reducible assumption | omega)))
    | ((first | with_reducible refine CondG.isF ?_ ?_); focus (first | with_reducible rfl | with_reducible assumption | (simp only [NM, LN]; first | done | with_reducible assumption | omega)))
    | ((with_reducible refine CondG.split (fun h => ?_) (fun h => ?_)) <;> (try simp only [NM] at h)))
  simp -dsimp (disch := (first | omega | (simp only [LN]; omega))) only [retQ, Try.results76, resVals, cellRV, resOf, St.rest, St.freeze, RT, go_sem, ↓reduceIte, Nat.reduceLT, Nat.reduceLeDiff, Nat.reduceEqDiff, Nat.reduceAdd, Nat.reduceMul, Nat.reduceSub, Nat.reduceBEq, Nat.reduceBNe, Int.reduceBEq, Int.reduceLT, Int.reduceLE, reduceCtorEq, Int.reduceToNat]
end Go.Bw
