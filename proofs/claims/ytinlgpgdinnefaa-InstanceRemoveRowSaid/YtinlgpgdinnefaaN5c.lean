/-
  WHAT IS PROVED HERE, of this translation: cloneRow_own, cloneRow_sat, cloneRows_own, cloneCols_own, cloneCols_sat, cloneInts_own, cloneInts_sat, cloneTable_sat, relClone_own, relClone_sat, instTable_sat, find_sat, references_sat, instTbl_bounds, validate1i_sat, validate2i_sat, conforms_sat, scan_ne, scan_all, scan_eq_none, scan_zero, tblsE_ne, fksE_ne, consE_ne, schE_zero, OkTbl.pk_ge, OkTbl.pk6, fkE_zero, small_of, cellE_ne, rowE_zero, pairE_ne, relE_ne, pairs_none, confE_zero, bounds_of, Small.bounds0, cutAt_sub, cutAt_length, Sch.Fits.sub, frzCut, lenCut, instValidate_sat.
  A theorem that ends in sat says what the function it names returns, whatever the state it is called in; the bounds on its arguments stand ahead of it.
-/
import Derived.Test.YtinlgpgdinnefaaN5b
set_option linter.unusedSimpArgs false
set_option linter.unusedVariables false

namespace Go.Bw
open Go.Proofs
attribute [local go_sem ↓] VOps_nil VOps_cons VOp_callJ VVal_callH VOps_guard GOn_tt GOn_ff GOn_tf GOn_ft GOn_not GOn_none HOn_none HOn_tt HOn_ff HOn_tf HOn_ft HOn_not VHead_nil VHead_cons VHead_guard VVal_move VVal_assign VVal_pickE pickK_true pickK_false VVal_not VVal_load loadK_fz loadK_ptr loadK_eptr VVal_fieldAddr VVal_field VVal_indexAddr idxK_sl idxK_ref VVal_index indexK_str VVal_extract VVal_binOp binK_one binK_agg VVal_build VVal_buildSlice VVal_makeFunc VVal_slice sliceK_str sliceK_sl sliceK_ref VVal_slice3 VVal_nilCheck VVal_convert convKk_int convKk_str VVal_len VVal_max VVal_min VOp_assign assignK_int assignK_bool assignK_str assignK_clo assignK_sl assignK_nil assignK_ref assignK_agg assignK_fz assignK_ptr assignK_eptr assignK_any VOp_box VOp_alloc VOp_store storeK_ptr storeK_eptr VOp_buildSlice VOp_append appK_rr appK_rs appK_rn appK_ri appK_nl appStd_eq VOp_copy copyK_ref VOp_clear clearK_ref VOp_cap VOp_eqNil VOp_move VOp_pick VOp_not VOp_load VOp_fieldAddr VOp_field VOp_indexAddr VOp_index VOp_extract VOp_binTmp VOp_binInt VOp_binStr VOp_build VOp_makeFunc VOp_slice VOp_nilCheck VOp_convert VOp_len VOp_max VOp_min mO_some mT_some pk_some pk_none look_cons del_cons
attribute [local go_sem] guardB gOf int_bne beq_true beq_false Bool.not_not gSlot pickK_true pickK_false loadK_fz loadK_ptr loadK_eptr idxK_sl idxK_ref indexK_str binK_one binK_agg sliceK_str sliceK_sl sliceK_ref convKk_int convKk_str maxL minL assignK_int assignK_bool assignK_str assignK_clo assignK_sl assignK_nil assignK_ref assignK_agg assignK_fz assignK_ptr assignK_eptr assignK_any nilRow_eq takeRow_eq appended_eq storeK_ptr storeK_eptr store_mk appIn_eq appMk_eq marked_eq ovOut_nil ovOut_cons ovIn_nil ovIn_cons padRow_eq ysC capK_ref ioSt_mk outB_nil outR_nil outB outR inB_nil inB_cons inR_nil inR_cons L.kl L.kl0 L.ids L.ids0 Option.getD_some evalO constA mO_some mT_some put_mk putO_some putO_none okD_some okD_none pk_some pk_none look_nil del_nil sput noBox_mk noRow_mk newBox_eq newRow0_eq St.killRow RowC.kill rowMap_mk rowOf ovAll ovAdd ovDel ovGet ovShift dstOf ysOf overlay_nil overlay_nil' overlay A.map V.map L.noPtr L.noPtr0 L.noRow L.noRow0 L.peek L.norm L.flat clos_int clos_bool clos_str clos_sl clos_nil clos_any clos_fz L.clos L.isFz L.kd moveL fieldOff eqCells eqCell eqOp oneOf boolOf intOfA tupOf vOf aggOf isPtrLike isSlice lenKind lenL nL elemTI loadV asV binL intBin intDivL shrL boolBin strBin boundN partCells fillL placesOf setL chunks repL capsOf capL callOf argsOf frzV_int frzV_bool frzV_str frzV_sl frzV_nil frzV_fz frzV_any frzV_own frzV_clo frzV_ref frzV_eptr frzV_ptr frzRow_nil frzRow_ov frzRs_nil frzRs_cons frzCs_nil frzCs_cons frzO_some frzO_none frzN_int frzN_bool frzN_str frzN_sl frzN_nil frzN_any frzN_own List.map_cons List.map_nil List.cons_append List.nil_append List.append_nil List.length_cons List.length_nil List.length_map List.length_append List.headD_cons List.tail_cons List.getElem?_cons_zero List.getElem?_cons_succ List.drop_zero List.drop_succ_cons List.drop_nil List.take_succ_cons List.take_zero List.take_nil List.take_length List.filter_cons List.filter_nil List.elem_cons List.elem_nil List.all_cons List.all_nil Option.bind_some Option.map_some Option.some.injEq bne_self_eq_false beq_self_eq_true if_true if_false Bool.false_eq_true true_and and_true and_self Nat.zero_add Nat.add_zero Nat.zero_le Int.toNat_natCast Int.toNat_zero Option.isSome_some List.getElem?_toArray decide_true decide_false ge_iff_le gt_iff_lt Bool.not_true Bool.not_false Nat.le_refl Bool.and_true Bool.true_and Bool.and_false Bool.false_and eVal eRow eRow1 eRows eInt1 eInts eCol eCols eTbl eTbls eFK eFKs eCon eCons eSch eRel eInst eChg eChgs szOf getD_map_lt wrap_nat wrap_in List.take_of_length_le frz_eVal frz_eRow1 frz_eInt1 frz_eCol frz_eTbl frz_eFK frz_eCon frz_eRel frz_eChg noOwn_nil noOwn_cons noOwn_append L.isOwn noOwn_eVal noOwn_eRow1 noOwn_eInt1 noOwn_eCol noOwn_eTbl noOwn_eFK noOwn_eCon noOwn_eRel noOwn_eChg convK_2 convK_3 convK_5 convK_12 convK_21 convK_28 convK_156 convK_164 TT_2 TT_3 TT_4 TT_5 TT_9 TT_12 TT_13 TT_21 TT_22 TT_23 TT_24 TT_25 TT_26 TT_28 TT_30 TT_31 TT_32 TT_33 TT_37 TT_38 TT_41 TT_42 TT_43 TT_54 TT_55 TT_58 TT_59 TT_60 TT_61 TT_65 TT_66 TT_70 TT_71 TT_78 TT_82 TT_83 TT_102 TT_126 TT_130 TT_156 TT_164 boolTy_4 eqK_38 eqK_59 eqK_61
attribute [local congr] VOps.congr VHead.congr VOp.congr VVal.congr pk.congr assignK.congr appK.congr appStd.congr copyK.congr clearK.congr storeK.congr loadK.congr idxK.congr sliceK.congr indexK.congr binK.congr convKk.congr
set_option maxHeartbeats 8000000 in
theorem cloneRow_own (r : List Val) (h1 : r.length ≤ 1099511627776) : SatM Try.prog 65 [.one (eRow r)] [] [] (.v (.one (.ref 2 0 r.length))) [] [(2, ⟨3, r.map eVal, []⟩)] := by
  refine satM_of_body tyOk [] [2] Try.func65 rfl (by kernel_rfl) ⟨Nat.le_of_ble_eq_true rfl, Nat.le_of_ble_eq_true rfl⟩ fun w0 m0 F0 => ?_
  simp only [Try.ntmps65, envOf, Nat.reduceAdd]
  repeat' (first
    | ((first
      | with_reducible refine AWP.regionL tyOk fun K hK => ?_
      | ((first | with_reducible refine GOn.isT ?_ ?_ | with_reducible refine HOn.isT ?_ ?_ | with_reducible refine pickK.isT ?_ ?_); focus (first | with_reducible rfl | with_reducible assumption | (simp only [NM, LN]; first | done | with_reducible assumption | omega)))
      | ((first | with_reducible refine GOn.isF ?_ ?_ | with_reducible refine HOn.isF ?_ ?_ | with_reducible refine pickK.isF ?_ ?_); focus (first | with_reducible rfl | with_reducible assumption | (simp only [NM, LN]; first | done | with_reducible assumption | omega)))
      | ((first | with_reducible refine GOn.split (fun h => ?_) (fun h => ?_) | with_reducible refine HOn.split (fun h => ?_) (fun h => ?_) | with_reducible refine pickK.split (fun h => ?_) (fun h => ?_)) <;> (try simp only [NM] at h))
      | with_reducible refine AWP.drawAll tyOk mixed 6 (by kernel_rfl) fun K hK => ?_) <;> simp -dsimp (disch := (first | omega | (simp only [LN]; omega))) only [go_sem, ↓reduceIte, Nat.reduceLT, Nat.reduceLeDiff, Nat.reduceEqDiff, Nat.reduceAdd, Nat.reduceMul, Nat.reduceSub, Nat.reduceBEq, Nat.reduceBNe, Int.reduceBEq, Int.reduceLT, Int.reduceLE, reduceCtorEq, Int.reduceToNat])
    | ((with_reducible refine hK _ ?_); clear hK K)
    | with_reducible refine AWP.seq ?_
    | with_reducible refine thenQ_normal ?_
    | with_reducible refine AWP.block ?_
    | with_reducible refine AWP.skip ?_
    | with_reducible refine AWP.ret ?_
    | with_reducible refine thenQ_ret ?_
    | with_reducible refine blockQ_ret ?_
    | with_reducible refine AWP.exit ?_
    | with_reducible refine thenQ_exit ?_
    | with_reducible refine blockQ_normal ?_
    | with_reducible refine blockQ_exit ?_
    | refine blockQ_exit_ne rfl ?_
    | (with_reducible refine And.intro (by (first | with_reducible rfl | with_reducible assumption | omega | (simp only [LN]; first | done | with_reducible rfl | omega) | (simp only [NM, LN]; first | done | with_reducible assumption | omega) | (and_intros <;> first | with_reducible assumption | omega | (simp only [LN]; omega)) | fail)) ?_)
    | ((with_reducible refine AWP.condG (T := TT) (b := ?_) ?_ ?_); rotate_left; exact rfl)
    | with_reducible refine CondG.t ?_
    | with_reducible refine CondG.f ?_
    | with_reducible refine CondG.not ?_
    | ((first | with_reducible refine CondG.isT ?_ ?_); focus (first | with_reducible rfl | with_reducible assumption | (simp only [NM, LN]; first | done | with_reducible assumption | omega)))
    | ((first | with_reducible refine CondG.isF ?_ ?_); focus (first | with_reducible rfl | with_reducible assumption | (simp only [NM, LN]; first | done | with_reducible assumption | omega)))
    | ((with_reducible refine CondG.split (fun h => ?_) (fun h => ?_)) <;> (try simp only [NM] at h)))
  intro b hb
  refine hK _ ?_
  clear hK K
  repeat' (first
    | ((first
      | with_reducible refine AWP.regionL tyOk fun K hK => ?_
      | ((first | with_reducible refine GOn.isT ?_ ?_ | with_reducible refine HOn.isT ?_ ?_ | with_reducible refine pickK.isT ?_ ?_); focus (first | with_reducible rfl | with_reducible assumption | (simp only [NM, LN]; first | done | with_reducible assumption | omega)))
      | ((first | with_reducible refine GOn.isF ?_ ?_ | with_reducible refine HOn.isF ?_ ?_ | with_reducible refine pickK.isF ?_ ?_); focus (first | with_reducible rfl | with_reducible assumption | (simp only [NM, LN]; first | done | with_reducible assumption | omega)))
      | ((first | with_reducible refine GOn.split (fun h => ?_) (fun h => ?_) | with_reducible refine HOn.split (fun h => ?_) (fun h => ?_) | with_reducible refine pickK.split (fun h => ?_) (fun h => ?_)) <;> (try simp only [NM] at h))
      | with_reducible refine AWP.drawAll tyOk mixed 6 (by kernel_rfl) fun K hK => ?_) <;> simp -dsimp (disch := (first | omega | (simp only [LN]; omega))) only [go_sem, ↓reduceIte, Nat.reduceLT, Nat.reduceLeDiff, Nat.reduceEqDiff, Nat.reduceAdd, Nat.reduceMul, Nat.reduceSub, Nat.reduceBEq, Nat.reduceBNe, Int.reduceBEq, Int.reduceLT, Int.reduceLE, reduceCtorEq, Int.reduceToNat])
    | ((with_reducible refine hK _ ?_); clear hK K)
    | with_reducible refine AWP.seq ?_
    | with_reducible refine thenQ_normal ?_
    | with_reducible refine AWP.block ?_
    | with_reducible refine AWP.skip ?_
    | with_reducible refine AWP.ret ?_
    | with_reducible refine thenQ_ret ?_
    | with_reducible refine blockQ_ret ?_
    | with_reducible refine AWP.exit ?_
    | with_reducible refine thenQ_exit ?_
    | with_reducible refine blockQ_normal ?_
    | with_reducible refine blockQ_exit ?_
    | refine blockQ_exit_ne rfl ?_
    | (with_reducible refine And.intro (by (first | with_reducible rfl | with_reducible assumption | omega | (simp only [LN]; first | done | with_reducible rfl | omega) | (simp only [NM, LN]; first | done | with_reducible assumption | omega) | (and_intros <;> first | with_reducible assumption | omega | (simp only [LN]; omega)) | fail)) ?_)
    | ((with_reducible refine AWP.condG (T := TT) (b := ?_) ?_ ?_); rotate_left; exact rfl)
    | with_reducible refine CondG.t ?_
    | with_reducible refine CondG.f ?_
    | with_reducible refine CondG.not ?_
    | ((first | with_reducible refine CondG.isT ?_ ?_); focus (first | with_reducible rfl | with_reducible assumption | (simp only [NM, LN]; first | done | with_reducible assumption | omega)))
    | ((first | with_reducible refine CondG.isF ?_ ?_); focus (first | with_reducible rfl | with_reducible assumption | (simp only [NM, LN]; first | done | with_reducible assumption | omega)))
    | ((with_reducible refine CondG.split (fun h => ?_) (fun h => ?_)) <;> (try simp only [NM] at h)))
  all_goals simp -dsimp (disch := (first | omega | (simp only [LN]; omega))) only [retQ, Try.results65, resVals, cellRV, resOf, St.rest, St.freeze, RT, go_sem, ↓reduceIte, Nat.reduceLT, Nat.reduceLeDiff, Nat.reduceEqDiff, Nat.reduceAdd, Nat.reduceMul, Nat.reduceSub, Nat.reduceBEq, Nat.reduceBNe, Int.reduceBEq, Int.reduceLT, Int.reduceLE, reduceCtorEq, Int.reduceToNat]
  have h2 : r = [] := by
    cases r with
    | nil => rfl
    | cons x r => exact absurd ((hb _ rfl (by simp)).symm.trans ‹b = true›) (by decide)
  subst h2
  exact ⟨rfl, rfl⟩
theorem cloneRow_sat (r : List Val) (h1 : r.length ≤ 1099511627776) : Sat Try.prog 65 [.one (eRow r)] (.v (.one (eRow r))) :=
  (cloneRow_own r h1).frz (by
    simp -dsimp (disch := (first | omega | (simp only [LN]; omega))) only [go_sem, ↓reduceIte, Nat.reduceLT, Nat.reduceLeDiff, Nat.reduceEqDiff, Nat.reduceAdd, Nat.reduceMul, Nat.reduceSub, Nat.reduceBEq, Nat.reduceBNe, Int.reduceBEq, Int.reduceLT, Int.reduceLE, reduceCtorEq, Int.reduceToNat, topL_ref, St.rest, roots, dropL_nil, eRow]
    )

set_option maxHeartbeats 8000000 in
theorem cloneRows_own (r : List Row) (h1 : r.length ≤ 1099511627776) : SatM Try.prog 37 [.one (eRows r)] [] [] (.v (.one (.ref 2 0 r.length))) [] [(2, ⟨1, r.map eRow1, []⟩)] := by
  refine satM_of_body tyOk [] [2] Try.func37 rfl (by kernel_rfl) ⟨Nat.le_of_ble_eq_true rfl, Nat.le_of_ble_eq_true rfl⟩ fun w0 m0 F0 => ?_
  simp only [Try.ntmps37, envOf, Nat.reduceAdd]
  repeat' (first
    | ((first
      | with_reducible refine AWP.regionL tyOk fun K hK => ?_
      | ((first | with_reducible refine GOn.isT ?_ ?_ | with_reducible refine HOn.isT ?_ ?_ | with_reducible refine pickK.isT ?_ ?_); focus (first | with_reducible rfl | with_reducible assumption | (simp only [NM, LN]; first | done | with_reducible assumption | omega)))
      | ((first | with_reducible refine GOn.isF ?_ ?_ | with_reducible refine HOn.isF ?_ ?_ | with_reducible refine pickK.isF ?_ ?_); focus (first | with_reducible rfl | with_reducible assumption | (simp only [NM, LN]; first | done | with_reducible assumption | omega)))
      | ((first | with_reducible refine GOn.split (fun h => ?_) (fun h => ?_) | with_reducible refine HOn.split (fun h => ?_) (fun h => ?_) | with_reducible refine pickK.split (fun h => ?_) (fun h => ?_)) <;> (try simp only [NM] at h))
      | with_reducible refine AWP.drawAll tyOk mixed 6 (by kernel_rfl) fun K hK => ?_) <;> simp -dsimp (disch := (first | omega | (simp only [LN]; omega))) only [go_sem, ↓reduceIte, Nat.reduceLT, Nat.reduceLeDiff, Nat.reduceEqDiff, Nat.reduceAdd, Nat.reduceMul, Nat.reduceSub, Nat.reduceBEq, Nat.reduceBNe, Int.reduceBEq, Int.reduceLT, Int.reduceLE, reduceCtorEq, Int.reduceToNat])
    | ((with_reducible refine hK _ ?_); clear hK K)
    | with_reducible refine AWP.seq ?_
    | with_reducible refine thenQ_normal ?_
    | with_reducible refine AWP.block ?_
    | with_reducible refine AWP.skip ?_
    | with_reducible refine AWP.ret ?_
    | with_reducible refine thenQ_ret ?_
    | with_reducible refine blockQ_ret ?_
    | with_reducible refine AWP.exit ?_
    | with_reducible refine thenQ_exit ?_
    | with_reducible refine blockQ_normal ?_
    | with_reducible refine blockQ_exit ?_
    | refine blockQ_exit_ne rfl ?_
    | (with_reducible refine And.intro (by (first | with_reducible rfl | with_reducible assumption | omega | (simp only [LN]; first | done | with_reducible rfl | omega) | (simp only [NM, LN]; first | done | with_reducible assumption | omega) | (and_intros <;> first | with_reducible assumption | omega | (simp only [LN]; omega)) | fail)) ?_)
    | ((with_reducible refine AWP.condG (T := TT) (b := ?_) ?_ ?_); rotate_left; exact rfl)
    | with_reducible refine CondG.t ?_
    | with_reducible refine CondG.f ?_
    | with_reducible refine CondG.not ?_
    | ((first | with_reducible refine CondG.isT ?_ ?_); focus (first | with_reducible rfl | with_reducible assumption | (simp only [NM, LN]; first | done | with_reducible assumption | omega)))
    | ((first | with_reducible refine CondG.isF ?_ ?_); focus (first | with_reducible rfl | with_reducible assumption | (simp only [NM, LN]; first | done | with_reducible assumption | omega)))
    | ((with_reducible refine CondG.split (fun h => ?_) (fun h => ?_)) <;> (try simp only [NM] at h)))
  intro b hb
  refine hK _ ?_
  clear hK K
  repeat' (first
    | ((first
      | with_reducible refine AWP.regionL tyOk fun K hK => ?_
      | ((first | with_reducible refine GOn.isT ?_ ?_ | with_reducible refine HOn.isT ?_ ?_ | with_reducible refine pickK.isT ?_ ?_); focus (first | with_reducible rfl | with_reducible assumption | (simp only [NM, LN]; first | done | with_reducible assumption | omega)))
      | ((first | with_reducible refine GOn.isF ?_ ?_ | with_reducible refine HOn.isF ?_ ?_ | with_reducible refine pickK.isF ?_ ?_); focus (first | with_reducible rfl | with_reducible assumption | (simp only [NM, LN]; first | done | with_reducible assumption | omega)))
      | ((first | with_reducible refine GOn.split (fun h => ?_) (fun h => ?_) | with_reducible refine HOn.split (fun h => ?_) (fun h => ?_) | with_reducible refine pickK.split (fun h => ?_) (fun h => ?_)) <;> (try simp only [NM] at h))
      | with_reducible refine AWP.drawAll tyOk mixed 6 (by kernel_rfl) fun K hK => ?_) <;> simp -dsimp (disch := (first | omega | (simp only [LN]; omega))) only [go_sem, ↓reduceIte, Nat.reduceLT, Nat.reduceLeDiff, Nat.reduceEqDiff, Nat.reduceAdd, Nat.reduceMul, Nat.reduceSub, Nat.reduceBEq, Nat.reduceBNe, Int.reduceBEq, Int.reduceLT, Int.reduceLE, reduceCtorEq, Int.reduceToNat])
    | ((with_reducible refine hK _ ?_); clear hK K)
    | with_reducible refine AWP.seq ?_
    | with_reducible refine thenQ_normal ?_
    | with_reducible refine AWP.block ?_
    | with_reducible refine AWP.skip ?_
    | with_reducible refine AWP.ret ?_
    | with_reducible refine thenQ_ret ?_
    | with_reducible refine blockQ_ret ?_
    | with_reducible refine AWP.exit ?_
    | with_reducible refine thenQ_exit ?_
    | with_reducible refine blockQ_normal ?_
    | with_reducible refine blockQ_exit ?_
    | refine blockQ_exit_ne rfl ?_
    | (with_reducible refine And.intro (by (first | with_reducible rfl | with_reducible assumption | omega | (simp only [LN]; first | done | with_reducible rfl | omega) | (simp only [NM, LN]; first | done | with_reducible assumption | omega) | (and_intros <;> first | with_reducible assumption | omega | (simp only [LN]; omega)) | fail)) ?_)
    | ((with_reducible refine AWP.condG (T := TT) (b := ?_) ?_ ?_); rotate_left; exact rfl)
    | with_reducible refine CondG.t ?_
    | with_reducible refine CondG.f ?_
    | with_reducible refine CondG.not ?_
    | ((first | with_reducible refine CondG.isT ?_ ?_); focus (first | with_reducible rfl | with_reducible assumption | (simp only [NM, LN]; first | done | with_reducible assumption | omega)))
    | ((first | with_reducible refine CondG.isF ?_ ?_); focus (first | with_reducible rfl | with_reducible assumption | (simp only [NM, LN]; first | done | with_reducible assumption | omega)))
    | ((with_reducible refine CondG.split (fun h => ?_) (fun h => ?_)) <;> (try simp only [NM] at h)))
  all_goals simp -dsimp (disch := (first | omega | (simp only [LN]; omega))) only [retQ, Try.results37, resVals, cellRV, resOf, St.rest, St.freeze, RT, go_sem, ↓reduceIte, Nat.reduceLT, Nat.reduceLeDiff, Nat.reduceEqDiff, Nat.reduceAdd, Nat.reduceMul, Nat.reduceSub, Nat.reduceBEq, Nat.reduceBNe, Int.reduceBEq, Int.reduceLT, Int.reduceLE, reduceCtorEq, Int.reduceToNat]
  have h2 : r = [] := by
    cases r with
    | nil => rfl
    | cons x r => exact absurd ((hb _ rfl (by simp)).symm.trans ‹b = true›) (by decide)
  subst h2
  exact ⟨rfl, rfl⟩
set_option maxHeartbeats 8000000 in
theorem cloneCols_own (r : List Col) (h1 : r.length ≤ 1099511627776) : SatM Try.prog 111 [.one (eCols r)] [] [] (.v (.one (.ref 2 0 r.length))) [] [(2, ⟨3, r.map eCol, []⟩)] := by
  refine satM_of_body tyOk [] [2] Try.func111 rfl (by kernel_rfl) ⟨Nat.le_of_ble_eq_true rfl, Nat.le_of_ble_eq_true rfl⟩ fun w0 m0 F0 => ?_
  simp only [Try.ntmps111, envOf, Nat.reduceAdd]
  repeat' (first
    | ((first
      | with_reducible refine AWP.regionL tyOk fun K hK => ?_
      | ((first | with_reducible refine GOn.isT ?_ ?_ | with_reducible refine HOn.isT ?_ ?_ | with_reducible refine pickK.isT ?_ ?_); focus (first | with_reducible rfl | with_reducible assumption | (simp only [NM, LN]; first | done | with_reducible assumption | omega)))
      | ((first | with_reducible refine GOn.isF ?_ ?_ | with_reducible refine HOn.isF ?_ ?_ | with_reducible refine pickK.isF ?_ ?_); focus (first | with_reducible rfl | with_reducible assumption | (simp only [NM, LN]; first | done | with_reducible assumption | omega)))
      | ((first | with_reducible refine GOn.split (fun h => ?_) (fun h => ?_) | with_reducible refine HOn.split (fun h => ?_) (fun h => ?_) | with_reducible refine pickK.split (fun h => ?_) (fun h => ?_)) <;> (try simp only [NM] at h))
      | with_reducible refine AWP.drawAll tyOk mixed 6 (by kernel_rfl) fun K hK => ?_) <;> simp -dsimp (disch := (first | omega | (simp only [LN]; omega))) only [go_sem, ↓reduceIte, Nat.reduceLT, Nat.reduceLeDiff, Nat.reduceEqDiff, Nat.reduceAdd, Nat.reduceMul, Nat.reduceSub, Nat.reduceBEq, Nat.reduceBNe, Int.reduceBEq, Int.reduceLT, Int.reduceLE, reduceCtorEq, Int.reduceToNat])
    | ((with_reducible refine hK _ ?_); clear hK K)
    | with_reducible refine AWP.seq ?_
    | with_reducible refine thenQ_normal ?_
    | with_reducible refine AWP.block ?_
    | with_reducible refine AWP.skip ?_
    | with_reducible refine AWP.ret ?_
    | with_reducible refine thenQ_ret ?_
    | with_reducible refine blockQ_ret ?_
    | with_reducible refine AWP.exit ?_
    | with_reducible refine thenQ_exit ?_
    | with_reducible refine blockQ_normal ?_
    | with_reducible refine blockQ_exit ?_
    | refine blockQ_exit_ne rfl ?_
    | (with_reducible refine And.intro (by (first | with_reducible rfl | with_reducible assumption | omega | (simp only [LN]; first | done | with_reducible rfl | omega) | (simp only [NM, LN]; first | done | with_reducible assumption | omega) | (and_intros <;> first | with_reducible assumption | omega | (simp only [LN]; omega)) | fail)) ?_)
    | ((with_reducible refine AWP.condG (T := TT) (b := ?_) ?_ ?_); rotate_left; exact rfl)
    | with_reducible refine CondG.t ?_
    | with_reducible refine CondG.f ?_
    | with_reducible refine CondG.not ?_
    | ((first | with_reducible refine CondG.isT ?_ ?_); focus (first | with_reducible rfl | with_reducible assumption | (simp only [NM, LN]; first | done | with_reducible assumption | omega)))
    | ((first | with_reducible refine CondG.isF ?_ ?_); focus (first | with_reducible rfl | with_reducible assumption | (simp only [NM, LN]; first | done | with_reducible assumption | omega)))
    | ((with_reducible refine CondG.split (fun h => ?_) (fun h => ?_)) <;> (try simp only [NM] at h)))
  intro b hb
  refine hK _ ?_
  clear hK K
  repeat' (first
    | ((first
      | with_reducible refine AWP.regionL tyOk fun K hK => ?_
      | ((first | with_reducible refine GOn.isT ?_ ?_ | with_reducible refine HOn.isT ?_ ?_ | with_reducible refine pickK.isT ?_ ?_); focus (first | with_reducible rfl | with_reducible assumption | (simp only [NM, LN]; first | done | with_reducible assumption | omega)))
      | ((first | with_reducible refine GOn.isF ?_ ?_ | with_reducible refine HOn.isF ?_ ?_ | with_reducible refine pickK.isF ?_ ?_); focus (first | with_reducible rfl | with_reducible assumption | (simp only [NM, LN]; first | done | with_reducible assumption | omega)))
      | ((first | with_reducible refine GOn.split (fun h => ?_) (fun h => ?_) | with_reducible refine HOn.split (fun h => ?_) (fun h => ?_) | with_reducible refine pickK.split (fun h => ?_) (fun h => ?_)) <;> (try simp only [NM] at h))
      | with_reducible refine AWP.drawAll tyOk mixed 6 (by kernel_rfl) fun K hK => ?_) <;> simp -dsimp (disch := (first | omega | (simp only [LN]; omega))) only [go_sem, ↓reduceIte, Nat.reduceLT, Nat.reduceLeDiff, Nat.reduceEqDiff, Nat.reduceAdd, Nat.reduceMul, Nat.reduceSub, Nat.reduceBEq, Nat.reduceBNe, Int.reduceBEq, Int.reduceLT, Int.reduceLE, reduceCtorEq, Int.reduceToNat])
    | ((with_reducible refine hK _ ?_); clear hK K)
    | with_reducible refine AWP.seq ?_
    | with_reducible refine thenQ_normal ?_
    | with_reducible refine AWP.block ?_
    | with_reducible refine AWP.skip ?_
    | with_reducible refine AWP.ret ?_
    | with_reducible refine thenQ_ret ?_
    | with_reducible refine blockQ_ret ?_
    | with_reducible refine AWP.exit ?_
    | with_reducible refine thenQ_exit ?_
    | with_reducible refine blockQ_normal ?_
    | with_reducible refine blockQ_exit ?_
    | refine blockQ_exit_ne rfl ?_
    | (with_reducible refine And.intro (by (first | with_reducible rfl | with_reducible assumption | omega | (simp only [LN]; first | done | with_reducible rfl | omega) | (simp only [NM, LN]; first | done | with_reducible assumption | omega) | (and_intros <;> first | with_reducible assumption | omega | (simp only [LN]; omega)) | fail)) ?_)
    | ((with_reducible refine AWP.condG (T := TT) (b := ?_) ?_ ?_); rotate_left; exact rfl)
    | with_reducible refine CondG.t ?_
    | with_reducible refine CondG.f ?_
    | with_reducible refine CondG.not ?_
    | ((first | with_reducible refine CondG.isT ?_ ?_); focus (first | with_reducible rfl | with_reducible assumption | (simp only [NM, LN]; first | done | with_reducible assumption | omega)))
    | ((first | with_reducible refine CondG.isF ?_ ?_); focus (first | with_reducible rfl | with_reducible assumption | (simp only [NM, LN]; first | done | with_reducible assumption | omega)))
    | ((with_reducible refine CondG.split (fun h => ?_) (fun h => ?_)) <;> (try simp only [NM] at h)))
  all_goals simp -dsimp (disch := (first | omega | (simp only [LN]; omega))) only [retQ, Try.results111, resVals, cellRV, resOf, St.rest, St.freeze, RT, go_sem, ↓reduceIte, Nat.reduceLT, Nat.reduceLeDiff, Nat.reduceEqDiff, Nat.reduceAdd, Nat.reduceMul, Nat.reduceSub, Nat.reduceBEq, Nat.reduceBNe, Int.reduceBEq, Int.reduceLT, Int.reduceLE, reduceCtorEq, Int.reduceToNat]
  have h2 : r = [] := by
    cases r with
    | nil => rfl
    | cons x r => exact absurd ((hb _ rfl (by simp)).symm.trans ‹b = true›) (by decide)
  subst h2
  exact ⟨rfl, rfl⟩
theorem cloneCols_sat (r : List Col) (h1 : r.length ≤ 1099511627776) : Sat Try.prog 111 [.one (eCols r)] (.v (.one (eCols r))) :=
  (cloneCols_own r h1).frz (by
    simp -dsimp (disch := (first | omega | (simp only [LN]; omega))) only [go_sem, ↓reduceIte, Nat.reduceLT, Nat.reduceLeDiff, Nat.reduceEqDiff, Nat.reduceAdd, Nat.reduceMul, Nat.reduceSub, Nat.reduceBEq, Nat.reduceBNe, Int.reduceBEq, Int.reduceLT, Int.reduceLE, reduceCtorEq, Int.reduceToNat, topL_ref, St.rest, roots, dropL_nil, eCols]
    )

set_option maxHeartbeats 8000000 in
theorem cloneInts_own (r : List Int) (h1 : r.length ≤ 1099511627776) : SatM Try.prog 112 [.one (eInts r)] [] [] (.v (.one (.ref 2 0 r.length))) [] [(2, ⟨1, r.map eInt1, []⟩)] := by
  refine satM_of_body tyOk [] [2] Try.func112 rfl (by kernel_rfl) ⟨Nat.le_of_ble_eq_true rfl, Nat.le_of_ble_eq_true rfl⟩ fun w0 m0 F0 => ?_
  simp only [Try.ntmps112, envOf, Nat.reduceAdd]
  repeat' (first
    | ((first
      | with_reducible refine AWP.regionL tyOk fun K hK => ?_
      | ((first | with_reducible refine GOn.isT ?_ ?_ | with_reducible refine HOn.isT ?_ ?_ | with_reducible refine pickK.isT ?_ ?_); focus (first | with_reducible rfl | with_reducible assumption | (simp only [NM, LN]; first | done | with_reducible assumption | omega)))
      | ((first | with_reducible refine GOn.isF ?_ ?_ | with_reducible refine HOn.isF ?_ ?_ | with_reducible refine pickK.isF ?_ ?_); focus (first | with_reducible rfl | with_reducible assumption | (simp only [NM, LN]; first | done | with_reducible assumption | omega)))
      | ((first | with_reducible refine GOn.split (fun h => ?_) (fun h => ?_) | with_reducible refine HOn.split (fun h => ?_) (fun h => ?_) | with_reducible refine pickK.split (fun h => ?_) (fun h => ?_)) <;> (try simp only [NM] at h))
      | with_reducible refine AWP.drawAll tyOk mixed 6 (by kernel_rfl) fun K hK => ?_) <;> simp -dsimp (disch := (first | omega | (simp only [LN]; omega))) only [go_sem, ↓reduceIte, Nat.reduceLT, Nat.reduceLeDiff, Nat.reduceEqDiff, Nat.reduceAdd, Nat.reduceMul, Nat.reduceSub, Nat.reduceBEq, Nat.reduceBNe, Int.reduceBEq, Int.reduceLT, Int.reduceLE, reduceCtorEq, Int.reduceToNat])
    | ((with_reducible refine hK _ ?_); clear hK K)
    | with_reducible refine AWP.seq ?_
    | with_reducible refine thenQ_normal ?_
    | with_reducible refine AWP.block ?_
    | with_reducible refine AWP.skip ?_
    | with_reducible refine AWP.ret ?_
    | with_reducible refine thenQ_ret ?_
    | with_reducible refine blockQ_ret ?_
    | with_reducible refine AWP.exit ?_
    | with_reducible refine thenQ_exit ?_
    | with_reducible refine blockQ_normal ?_
    | with_reducible refine blockQ_exit ?_
    | refine blockQ_exit_ne rfl ?_
    | (with_reducible refine And.intro (by (first | with_reducible rfl | with_reducible assumption | omega | (simp only [LN]; first | done | with_reducible rfl | omega) | (simp only [NM, LN]; first | done | with_reducible assumption | omega) | (and_intros <;> first | with_reducible assumption | omega | (simp only [LN]; omega)) | fail)) ?_)
    | ((with_reducible refine AWP.condG (T := TT) (b := ?_) ?_ ?_); rotate_left; exact rfl)
    | with_reducible refine CondG.t ?_
    | with_reducible refine CondG.f ?_
    | with_reducible refine CondG.not ?_
    | ((first | with_reducible refine CondG.isT ?_ ?_); focus (first | with_reducible rfl | with_reducible assumption | (simp only [NM, LN]; first | done | with_reducible assumption | omega)))
    | ((first | with_reducible refine CondG.isF ?_ ?_); focus (first | with_reducible rfl | with_reducible assumption | (simp only [NM, LN]; first | done | with_reducible assumption | omega)))
    | ((with_reducible refine CondG.split (fun h => ?_) (fun h => ?_)) <;> (try simp only [NM] at h)))
  intro b hb
  refine hK _ ?_
  clear hK K
  repeat' (first
    | ((first
      | with_reducible refine AWP.regionL tyOk fun K hK => ?_
      | ((first | with_reducible refine GOn.isT ?_ ?_ | with_reducible refine HOn.isT ?_ ?_ | with_reducible refine pickK.isT ?_ ?_); focus (first | with_reducible rfl | with_reducible assumption | (simp only [NM, LN]; first | done | with_reducible assumption | omega)))
      | ((first | with_reducible refine GOn.isF ?_ ?_ | with_reducible refine HOn.isF ?_ ?_ | with_reducible refine pickK.isF ?_ ?_); focus (first | with_reducible rfl | with_reducible assumption | (simp only [NM, LN]; first | done | with_reducible assumption | omega)))
      | ((first | with_reducible refine GOn.split (fun h => ?_) (fun h => ?_) | with_reducible refine HOn.split (fun h => ?_) (fun h => ?_) | with_reducible refine pickK.split (fun h => ?_) (fun h => ?_)) <;> (try simp only [NM] at h))
      | with_reducible refine AWP.drawAll tyOk mixed 6 (by kernel_rfl) fun K hK => ?_) <;> simp -dsimp (disch := (first | omega | (simp only [LN]; omega))) only [go_sem, ↓reduceIte, Nat.reduceLT, Nat.reduceLeDiff, Nat.reduceEqDiff, Nat.reduceAdd, Nat.reduceMul, Nat.reduceSub, Nat.reduceBEq, Nat.reduceBNe, Int.reduceBEq, Int.reduceLT, Int.reduceLE, reduceCtorEq, Int.reduceToNat])
    | ((with_reducible refine hK _ ?_); clear hK K)
    | with_reducible refine AWP.seq ?_
    | with_reducible refine thenQ_normal ?_
    | with_reducible refine AWP.block ?_
    | with_reducible refine AWP.skip ?_
    | with_reducible refine AWP.ret ?_
    | with_reducible refine thenQ_ret ?_
    | with_reducible refine blockQ_ret ?_
    | with_reducible refine AWP.exit ?_
    | with_reducible refine thenQ_exit ?_
    | with_reducible refine blockQ_normal ?_
    | with_reducible refine blockQ_exit ?_
    | refine blockQ_exit_ne rfl ?_
    | (with_reducible refine And.intro (by (first | with_reducible rfl | with_reducible assumption | omega | (simp only [LN]; first | done | with_reducible rfl | omega) | (simp only [NM, LN]; first | done | with_reducible assumption | omega) | (and_intros <;> first | with_reducible assumption | omega | (simp only [LN]; omega)) | fail)) ?_)
    | ((with_reducible refine AWP.condG (T := TT) (b := ?_) ?_ ?_); rotate_left; exact rfl)
    | with_reducible refine CondG.t ?_
    | with_reducible refine CondG.f ?_
    | with_reducible refine CondG.not ?_
    | ((first | with_reducible refine CondG.isT ?_ ?_); focus (first | with_reducible rfl | with_reducible assumption | (simp only [NM, LN]; first | done | with_reducible assumption | omega)))
    | ((first | with_reducible refine CondG.isF ?_ ?_); focus (first | with_reducible rfl | with_reducible assumption | (simp only [NM, LN]; first | done | with_reducible assumption | omega)))
    | ((with_reducible refine CondG.split (fun h => ?_) (fun h => ?_)) <;> (try simp only [NM] at h)))
  all_goals simp -dsimp (disch := (first | omega | (simp only [LN]; omega))) only [retQ, Try.results112, resVals, cellRV, resOf, St.rest, St.freeze, RT, go_sem, ↓reduceIte, Nat.reduceLT, Nat.reduceLeDiff, Nat.reduceEqDiff, Nat.reduceAdd, Nat.reduceMul, Nat.reduceSub, Nat.reduceBEq, Nat.reduceBNe, Int.reduceBEq, Int.reduceLT, Int.reduceLE, reduceCtorEq, Int.reduceToNat]
  have h2 : r = [] := by
    cases r with
    | nil => rfl
    | cons x r => exact absurd ((hb _ rfl (by simp)).symm.trans ‹b = true›) (by decide)
  subst h2
  exact ⟨rfl, rfl⟩
theorem cloneInts_sat (r : List Int) (h1 : r.length ≤ 1099511627776) : Sat Try.prog 112 [.one (eInts r)] (.v (.one (eInts r))) :=
  (cloneInts_own r h1).frz (by
    simp -dsimp (disch := (first | omega | (simp only [LN]; omega))) only [go_sem, ↓reduceIte, Nat.reduceLT, Nat.reduceLeDiff, Nat.reduceEqDiff, Nat.reduceAdd, Nat.reduceMul, Nat.reduceSub, Nat.reduceBEq, Nat.reduceBNe, Int.reduceBEq, Int.reduceLT, Int.reduceLE, reduceCtorEq, Int.reduceToNat, topL_ref, St.rest, roots, dropL_nil, eInts]
    )

set_option maxHeartbeats 8000000 in
theorem cloneTable_sat (t : Tbl) (h1 : t.cols.length ≤ 1099511627776) (h2 : t.pk.length ≤ 1099511627776) : Sat Try.prog 102 [.agg (eTbl t)] (.v (.agg (eTbl t))) := by
  refine sat_of_body tyOk Try.func102 rfl (by kernel_rfl) ⟨Nat.le_of_ble_eq_true rfl, Nat.le_of_ble_eq_true rfl⟩ fun w0 m0 F0 => ?_
  simp only [Try.ntmps102, envOf, Nat.reduceAdd]
  repeat' (first
    | ((first
      | with_reducible refine AWP.regionL tyOk fun K hK => ?_
      | ((first | with_reducible refine GOn.isT ?_ ?_ | with_reducible refine HOn.isT ?_ ?_ | with_reducible refine pickK.isT ?_ ?_); focus (first | with_reducible rfl | with_reducible assumption | (simp only [NM, LN]; first | done | with_reducible assumption | omega)))
      | ((first | with_reducible refine GOn.isF ?_ ?_ | with_reducible refine HOn.isF ?_ ?_ | with_reducible refine pickK.isF ?_ ?_); focus (first | with_reducible rfl | with_reducible assumption | (simp only [NM, LN]; first | done | with_reducible assumption | omega)))
      | ((first | with_reducible refine GOn.split (fun h => ?_) (fun h => ?_) | with_reducible refine HOn.split (fun h => ?_) (fun h => ?_) | with_reducible refine pickK.split (fun h => ?_) (fun h => ?_)) <;> (try simp only [NM] at h))) <;> simp -dsimp (disch := (first | omega | (simp only [LN]; omega))) only [go_sem, ↓reduceIte, Nat.reduceLT, Nat.reduceLeDiff, Nat.reduceEqDiff, Nat.reduceAdd, Nat.reduceMul, Nat.reduceSub, Nat.reduceBEq, Nat.reduceBNe, Int.reduceBEq, Int.reduceLT, Int.reduceLE, reduceCtorEq, Int.reduceToNat])
    | ((with_reducible refine hK _ ?_); clear hK K)
    | with_reducible refine AWP.seq ?_
    | with_reducible refine thenQ_normal ?_
    | with_reducible refine AWP.block ?_
    | with_reducible refine AWP.skip ?_
    | with_reducible refine AWP.ret ?_
    | with_reducible refine thenQ_ret ?_
    | with_reducible refine blockQ_ret ?_
    | with_reducible refine AWP.exit ?_
    | with_reducible refine thenQ_exit ?_
    | with_reducible refine blockQ_normal ?_
    | with_reducible refine blockQ_exit ?_
    | refine blockQ_exit_ne rfl ?_
    | (with_reducible refine And.intro (by (first | with_reducible rfl | with_reducible assumption | omega | (simp only [LN]; first | done | with_reducible rfl | omega) | (simp only [NM, LN]; first | done | with_reducible assumption | omega) | (and_intros <;> first | with_reducible assumption | omega | (simp only [LN]; omega)) | fail)) ?_)
    | ((with_reducible refine AWP.condG (T := TT) (b := ?_) ?_ ?_); rotate_left; exact rfl)
    | with_reducible refine CondG.t ?_
    | with_reducible refine CondG.f ?_
    | with_reducible refine CondG.not ?_
    | ((first | with_reducible refine CondG.isT ?_ ?_); focus (first | with_reducible rfl | with_reducible assumption | (simp only [NM, LN]; first | done | with_reducible assumption | omega)))
    | ((first | with_reducible refine CondG.isF ?_ ?_); focus (first | with_reducible rfl | with_reducible assumption | (simp only [NM, LN]; first | done | with_reducible assumption | omega)))
    | ((with_reducible refine CondG.split (fun h => ?_) (fun h => ?_)) <;> (try simp only [NM] at h)))
  refine AWP.drawT tyOk mixed 9 8 (by kernel_rfl) rfl rfl fun K hK => ?_
  simp -dsimp (disch := (first | omega | (simp only [LN]; omega))) only [go_sem, ↓reduceIte, Nat.reduceLT, Nat.reduceLeDiff, Nat.reduceEqDiff, Nat.reduceAdd, Nat.reduceMul, Nat.reduceSub, Nat.reduceBEq, Nat.reduceBNe, Int.reduceBEq, Int.reduceLT, Int.reduceLE, reduceCtorEq, Int.reduceToNat]
  repeat' (first
    | ((first
      | with_reducible refine AWP.regionL tyOk fun K hK => ?_
      | ((first | with_reducible refine GOn.isT ?_ ?_ | with_reducible refine HOn.isT ?_ ?_ | with_reducible refine pickK.isT ?_ ?_); focus (first | with_reducible rfl | with_reducible assumption | (simp only [NM, LN]; first | done | with_reducible assumption | omega)))
      | ((first | with_reducible refine GOn.isF ?_ ?_ | with_reducible refine HOn.isF ?_ ?_ | with_reducible refine pickK.isF ?_ ?_); focus (first | with_reducible rfl | with_reducible assumption | (simp only [NM, LN]; first | done | with_reducible assumption | omega)))
      | ((first | with_reducible refine GOn.split (fun h => ?_) (fun h => ?_) | with_reducible refine HOn.split (fun h => ?_) (fun h => ?_) | with_reducible refine pickK.split (fun h => ?_) (fun h => ?_)) <;> (try simp only [NM] at h))
      | ((with_reducible refine CallJ.is ?_); (first | refine CallJ.pure (cloneCols_sat t.cols h1) ?_ | refine CallJ.pure (cloneInts_sat t.pk h2) ?_ | ((first | refine CallJ.lent (cloneCols_sat t.cols h1) ?_ ?_; focus (simp -dsimp (disch := (first | omega | (simp only [LN]; omega))) only [go_sem, ↓reduceIte, Nat.reduceLT, Nat.reduceLeDiff, Nat.reduceEqDiff, Nat.reduceAdd, Nat.reduceMul, Nat.reduceSub, Nat.reduceBEq, Nat.reduceBNe, Int.reduceBEq, Int.reduceLT, Int.reduceLE, reduceCtorEq, Int.reduceToNat]; done) | refine CallJ.lent (cloneInts_sat t.pk h2) ?_ ?_; focus (simp -dsimp (disch := (first | omega | (simp only [LN]; omega))) only [go_sem, ↓reduceIte, Nat.reduceLT, Nat.reduceLeDiff, Nat.reduceEqDiff, Nat.reduceAdd, Nat.reduceMul, Nat.reduceSub, Nat.reduceBEq, Nat.reduceBNe, Int.reduceBEq, Int.reduceLT, Int.reduceLE, reduceCtorEq, Int.reduceToNat]; done)))))
      | ((with_reducible refine CallH.is ?_); (first | refine CallH.intro (cloneCols_sat t.cols h1) ?_ | refine CallH.intro (cloneInts_sat t.pk h2) ?_))) <;> simp -dsimp (disch := (first | omega | (simp only [LN]; omega))) only [go_sem, ↓reduceIte, Nat.reduceLT, Nat.reduceLeDiff, Nat.reduceEqDiff, Nat.reduceAdd, Nat.reduceMul, Nat.reduceSub, Nat.reduceBEq, Nat.reduceBNe, Int.reduceBEq, Int.reduceLT, Int.reduceLE, reduceCtorEq, Int.reduceToNat])
    | ((with_reducible refine hK _ ?_); clear hK K)
    | with_reducible refine AWP.seq ?_
    | with_reducible refine thenQ_normal ?_
    | with_reducible refine AWP.block ?_
    | with_reducible refine AWP.skip ?_
    | with_reducible refine AWP.ret ?_
    | with_reducible refine thenQ_ret ?_
    | with_reducible refine blockQ_ret ?_
    | with_reducible refine AWP.exit ?_
    | with_reducible refine thenQ_exit ?_
    | with_reducible refine blockQ_normal ?_
    | with_reducible refine blockQ_exit ?_
    | refine blockQ_exit_ne rfl ?_
    | (with_reducible refine And.intro (by (first | with_reducible rfl | with_reducible assumption | omega | (simp only [LN]; first | done | with_reducible rfl | omega) | (simp only [NM, LN]; first | done | with_reducible assumption | omega) | (and_intros <;> first | with_reducible assumption | omega | (simp only [LN]; omega)) | fail)) ?_)
    | ((with_reducible refine AWP.condG (T := TT) (b := ?_) ?_ ?_); rotate_left; exact rfl)
    | with_reducible refine CondG.t ?_
    | with_reducible refine CondG.f ?_
    | with_reducible refine CondG.not ?_
    | ((first | with_reducible refine CondG.isT ?_ ?_); focus (first | with_reducible rfl | with_reducible assumption | (simp only [NM, LN]; first | done | with_reducible assumption | omega)))
    | ((first | with_reducible refine CondG.isF ?_ ?_); focus (first | with_reducible rfl | with_reducible assumption | (simp only [NM, LN]; first | done | with_reducible assumption | omega)))
    | ((with_reducible refine CondG.split (fun h => ?_) (fun h => ?_)) <;> (try simp only [NM] at h)))
  intro K hK
  simp -dsimp (disch := (first | omega | (simp only [LN]; omega))) only [go_sem, ↓reduceIte, Nat.reduceLT, Nat.reduceLeDiff, Nat.reduceEqDiff, Nat.reduceAdd, Nat.reduceMul, Nat.reduceSub, Nat.reduceBEq, Nat.reduceBNe, Int.reduceBEq, Int.reduceLT, Int.reduceLE, reduceCtorEq, Int.reduceToNat]
  repeat' (first
    | ((first
      | with_reducible refine AWP.regionL tyOk fun K hK => ?_
      | ((first | with_reducible refine GOn.isT ?_ ?_ | with_reducible refine HOn.isT ?_ ?_ | with_reducible refine pickK.isT ?_ ?_); focus (first | with_reducible rfl | with_reducible assumption | (simp only [NM, LN]; first | done | with_reducible assumption | omega)))
      | ((first | with_reducible refine GOn.isF ?_ ?_ | with_reducible refine HOn.isF ?_ ?_ | with_reducible refine pickK.isF ?_ ?_); focus (first | with_reducible rfl | with_reducible assumption | (simp only [NM, LN]; first | done | with_reducible assumption | omega)))
      | ((first | with_reducible refine GOn.split (fun h => ?_) (fun h => ?_) | with_reducible refine HOn.split (fun h => ?_) (fun h => ?_) | with_reducible refine pickK.split (fun h => ?_) (fun h => ?_)) <;> (try simp only [NM] at h))) <;> simp -dsimp (disch := (first | omega | (simp only [LN]; omega))) only [go_sem, ↓reduceIte, Nat.reduceLT, Nat.reduceLeDiff, Nat.reduceEqDiff, Nat.reduceAdd, Nat.reduceMul, Nat.reduceSub, Nat.reduceBEq, Nat.reduceBNe, Int.reduceBEq, Int.reduceLT, Int.reduceLE, reduceCtorEq, Int.reduceToNat])
    | ((with_reducible refine hK _ ?_); clear hK K)
    | with_reducible refine AWP.seq ?_
    | with_reducible refine thenQ_normal ?_
    | with_reducible refine AWP.block ?_
    | with_reducible refine AWP.skip ?_
    | with_reducible refine AWP.ret ?_
    | with_reducible refine thenQ_ret ?_
    | with_reducible refine blockQ_ret ?_
    | with_reducible refine AWP.exit ?_
    | with_reducible refine thenQ_exit ?_
    | with_reducible refine blockQ_normal ?_
    | with_reducible refine blockQ_exit ?_
    | refine blockQ_exit_ne rfl ?_
    | (with_reducible refine And.intro (by (first | with_reducible rfl | with_reducible assumption | omega | (simp only [LN]; first | done | with_reducible rfl | omega) | (simp only [NM, LN]; first | done | with_reducible assumption | omega) | (and_intros <;> first | with_reducible assumption | omega | (simp only [LN]; omega)) | fail)) ?_)
    | ((with_reducible refine AWP.condG (T := TT) (b := ?_) ?_ ?_); rotate_left; exact rfl)
    | with_reducible refine CondG.t ?_
    | with_reducible refine CondG.f ?_
    | with_reducible refine CondG.not ?_
    | ((first | with_reducible refine CondG.isT ?_ ?_); focus (first | with_reducible rfl | with_reducible assumption | (simp only [NM, LN]; first | done | with_reducible assumption | omega)))
    | ((first | with_reducible refine CondG.isF ?_ ?_); focus (first | with_reducible rfl | with_reducible assumption | (simp only [NM, LN]; first | done | with_reducible assumption | omega)))
    | ((with_reducible refine CondG.split (fun h => ?_) (fun h => ?_)) <;> (try simp only [NM] at h)))
  all_goals simp -dsimp (disch := (first | omega | (simp only [LN]; omega))) only [retQ, Try.results102, resVals, cellRV, resOf, St.rest, St.freeze, RT, go_sem, ↓reduceIte, Nat.reduceLT, Nat.reduceLeDiff, Nat.reduceEqDiff, Nat.reduceAdd, Nat.reduceMul, Nat.reduceSub, Nat.reduceBEq, Nat.reduceBNe, Int.reduceBEq, Int.reduceLT, Int.reduceLE, reduceCtorEq, Int.reduceToNat]

set_option maxHeartbeats 8000000 in
theorem relClone_own (l : List Row) (h1 : l.length ≤ 1099511627776) (h2 : ∀ r ∈ l, r.length ≤ 1099511627776) : SatM Try.prog 62 [.one (eRows l)] [] [] (.v (.one (.ref 2 0 l.length))) [] [(2, ⟨1, l.map eRow1, []⟩)] := by
  refine satM_of_body tyOk [] [2] Try.func62 rfl (by kernel_rfl) ⟨Nat.le_of_ble_eq_true rfl, Nat.le_of_ble_eq_true rfl⟩ fun w0 m0 F0 => ?_
  simp only [Try.ntmps62, envOf, Nat.reduceAdd]
  repeat' (first
    | ((first
      | with_reducible refine AWP.regionL tyOk fun K hK => ?_
      | ((first | with_reducible refine GOn.isT ?_ ?_ | with_reducible refine HOn.isT ?_ ?_ | with_reducible refine pickK.isT ?_ ?_); focus (first | with_reducible rfl | with_reducible assumption | (simp only [NM, LN]; first | done | with_reducible assumption | omega)))
      | ((first | with_reducible refine GOn.isF ?_ ?_ | with_reducible refine HOn.isF ?_ ?_ | with_reducible refine pickK.isF ?_ ?_); focus (first | with_reducible rfl | with_reducible assumption | (simp only [NM, LN]; first | done | with_reducible assumption | omega)))
      | ((first | with_reducible refine GOn.split (fun h => ?_) (fun h => ?_) | with_reducible refine HOn.split (fun h => ?_) (fun h => ?_) | with_reducible refine pickK.split (fun h => ?_) (fun h => ?_)) <;> (try simp only [NM] at h))
      | with_reducible refine AWP.drawAll tyOk mixed 6 (by kernel_rfl) fun K hK => ?_) <;> simp -dsimp (disch := (first | omega | (simp only [LN]; omega))) only [go_sem, ↓reduceIte, Nat.reduceLT, Nat.reduceLeDiff, Nat.reduceEqDiff, Nat.reduceAdd, Nat.reduceMul, Nat.reduceSub, Nat.reduceBEq, Nat.reduceBNe, Int.reduceBEq, Int.reduceLT, Int.reduceLE, reduceCtorEq, Int.reduceToNat])
    | ((with_reducible refine hK _ ?_); clear hK K)
    | with_reducible refine AWP.seq ?_
    | with_reducible refine thenQ_normal ?_
    | with_reducible refine AWP.block ?_
    | with_reducible refine AWP.skip ?_
    | with_reducible refine AWP.ret ?_
    | with_reducible refine thenQ_ret ?_
    | with_reducible refine blockQ_ret ?_
    | with_reducible refine AWP.exit ?_
    | with_reducible refine thenQ_exit ?_
    | with_reducible refine blockQ_normal ?_
    | with_reducible refine blockQ_exit ?_
    | refine blockQ_exit_ne rfl ?_
    | (with_reducible refine And.intro (by (first | with_reducible rfl | with_reducible assumption | omega | (simp only [LN]; first | done | with_reducible rfl | omega) | (simp only [NM, LN]; first | done | with_reducible assumption | omega) | (and_intros <;> first | with_reducible assumption | omega | (simp only [LN]; omega)) | fail)) ?_)
    | ((with_reducible refine AWP.condG (T := TT) (b := ?_) ?_ ?_); rotate_left; exact rfl)
    | with_reducible refine CondG.t ?_
    | with_reducible refine CondG.f ?_
    | with_reducible refine CondG.not ?_
    | ((first | with_reducible refine CondG.isT ?_ ?_); focus (first | with_reducible rfl | with_reducible assumption | (simp only [NM, LN]; first | done | with_reducible assumption | omega)))
    | ((first | with_reducible refine CondG.isF ?_ ?_); focus (first | with_reducible rfl | with_reducible assumption | (simp only [NM, LN]; first | done | with_reducible assumption | omega)))
    | ((with_reducible refine CondG.split (fun h => ?_) (fun h => ?_)) <;> (try simp only [NM] at h)))
  refine AWP.loop (ι := {k : Nat // k ≤ l.length}) (fun k => ⟨19, [(3, .v (.one (.ref 3 0 k.1))), (6, .v (.one (eRows l))), (7, .v (oI l.length)), (8, .v (oI k.1))], [], [(3, ⟨1, (l.take k.1).map eRow1, []⟩)]⟩) (fun k => l.length - k.1) ⟨0, Nat.zero_le _⟩ ?_ fun ⟨k, hkl⟩ => ?_
  · exact St.le_mk (by simp only [LE, EN, Nat.reduceEqDiff, reduceIte, Nat.reduceSub]) (by simp only [LE, EN, Nat.reduceEqDiff, reduceIte, Nat.reduceSub]) (by simp only [LE, EN, Nat.reduceEqDiff, reduceIte, Nat.reduceSub])
  have hlen : (l.take k).length = k := by simp; omega
  rcases Nat.lt_or_ge k l.length with hc | hc
  · have b1 := h2 l[k] (List.getElem_mem hc)
    repeat' (first
      | ((first
        | with_reducible refine AWP.regionL tyOk fun K hK => ?_
        | ((first | with_reducible refine GOn.isT ?_ ?_ | with_reducible refine HOn.isT ?_ ?_ | with_reducible refine pickK.isT ?_ ?_); focus (first | with_reducible rfl | with_reducible assumption | (simp only [NM, LN]; first | done | with_reducible assumption | omega)))
        | ((first | with_reducible refine GOn.isF ?_ ?_ | with_reducible refine HOn.isF ?_ ?_ | with_reducible refine pickK.isF ?_ ?_); focus (first | with_reducible rfl | with_reducible assumption | (simp only [NM, LN]; first | done | with_reducible assumption | omega)))
        | ((first | with_reducible refine GOn.split (fun h => ?_) (fun h => ?_) | with_reducible refine HOn.split (fun h => ?_) (fun h => ?_) | with_reducible refine pickK.split (fun h => ?_) (fun h => ?_)) <;> (try simp only [NM] at h))
        | with_reducible refine AWP.drawAll tyOk mixed 6 (by kernel_rfl) fun K hK => ?_
        | ((with_reducible refine CallJ.is ?_); (first | refine CallJ.pure (cloneRow_sat _ b1) ?_ | ((first | refine CallJ.lent (cloneRow_sat _ b1) ?_ ?_; focus (simp -dsimp (disch := (first | omega | (simp only [LN]; omega))) only [go_sem, ↓reduceIte, Nat.reduceLT, Nat.reduceLeDiff, Nat.reduceEqDiff, Nat.reduceAdd, Nat.reduceMul, Nat.reduceSub, Nat.reduceBEq, Nat.reduceBNe, Int.reduceBEq, Int.reduceLT, Int.reduceLE, reduceCtorEq, Int.reduceToNat, hlen]; done)))))
        | ((with_reducible refine CallH.is ?_); (first | refine CallH.intro (cloneRow_sat _ b1) ?_))) <;> simp -dsimp (disch := (first | omega | (simp only [LN]; omega))) only [go_sem, ↓reduceIte, Nat.reduceLT, Nat.reduceLeDiff, Nat.reduceEqDiff, Nat.reduceAdd, Nat.reduceMul, Nat.reduceSub, Nat.reduceBEq, Nat.reduceBNe, Int.reduceBEq, Int.reduceLT, Int.reduceLE, reduceCtorEq, Int.reduceToNat, hlen])
      | ((with_reducible refine hK _ ?_); clear hK K)
      | with_reducible refine AWP.seq ?_
      | with_reducible refine thenQ_normal ?_
      | with_reducible refine AWP.block ?_
      | with_reducible refine AWP.skip ?_
      | with_reducible refine AWP.ret ?_
      | with_reducible refine thenQ_ret ?_
      | with_reducible refine blockQ_ret ?_
      | with_reducible refine AWP.exit ?_
      | with_reducible refine thenQ_exit ?_
      | with_reducible refine blockQ_normal ?_
      | with_reducible refine blockQ_exit ?_
      | refine blockQ_exit_ne rfl ?_
      | (with_reducible refine And.intro (by (first | with_reducible rfl | with_reducible assumption | omega | (simp only [LN]; first | done | with_reducible rfl | omega) | (simp only [NM, LN]; first | done | with_reducible assumption | omega) | (and_intros <;> first | with_reducible assumption | omega | (simp only [LN]; omega)) | fail)) ?_)
      | ((with_reducible refine AWP.condG (T := TT) (b := ?_) ?_ ?_); rotate_left; exact rfl)
      | with_reducible refine CondG.t ?_
      | with_reducible refine CondG.f ?_
      | with_reducible refine CondG.not ?_
      | ((first | with_reducible refine CondG.isT ?_ ?_); focus (first | with_reducible rfl | with_reducible assumption | (simp only [NM, LN]; first | done | with_reducible assumption | omega)))
      | ((first | with_reducible refine CondG.isF ?_ ?_); focus (first | with_reducible rfl | with_reducible assumption | (simp only [NM, LN]; first | done | with_reducible assumption | omega)))
      | ((with_reducible refine CondG.split (fun h => ?_) (fun h => ?_)) <;> (try simp only [NM] at h)))
    refine ⟨⟨k + 1, by omega⟩, by simp only; omega, ?_⟩
    have e := take_snoc l k hc
    exact St.le_mk (by simp only [LE, EN, Nat.reduceEqDiff, reduceIte, Nat.reduceSub, e, eRow1, eRow]) (by simp only [LE, EN, Nat.reduceEqDiff, reduceIte, Nat.reduceSub, e, eRow1, eRow]) (by simp only [LE, EN, Nat.reduceEqDiff, reduceIte, Nat.reduceSub, e, eRow1, eRow])
  · have hk : k = l.length := by omega
    subst hk
    repeat' (first
      | ((first
        | with_reducible refine AWP.regionL tyOk fun K hK => ?_
        | ((first | with_reducible refine GOn.isT ?_ ?_ | with_reducible refine HOn.isT ?_ ?_ | with_reducible refine pickK.isT ?_ ?_); focus (first | with_reducible rfl | with_reducible assumption | (simp only [NM, LN]; first | done | with_reducible assumption | omega)))
        | ((first | with_reducible refine GOn.isF ?_ ?_ | with_reducible refine HOn.isF ?_ ?_ | with_reducible refine pickK.isF ?_ ?_); focus (first | with_reducible rfl | with_reducible assumption | (simp only [NM, LN]; first | done | with_reducible assumption | omega)))
        | ((first | with_reducible refine GOn.split (fun h => ?_) (fun h => ?_) | with_reducible refine HOn.split (fun h => ?_) (fun h => ?_) | with_reducible refine pickK.split (fun h => ?_) (fun h => ?_)) <;> (try simp only [NM] at h))
        | with_reducible refine AWP.drawAll tyOk mixed 6 (by kernel_rfl) fun K hK => ?_) <;> simp -dsimp (disch := (first | omega | (simp only [LN]; omega))) only [go_sem, ↓reduceIte, Nat.reduceLT, Nat.reduceLeDiff, Nat.reduceEqDiff, Nat.reduceAdd, Nat.reduceMul, Nat.reduceSub, Nat.reduceBEq, Nat.reduceBNe, Int.reduceBEq, Int.reduceLT, Int.reduceLE, reduceCtorEq, Int.reduceToNat])
      | ((with_reducible refine hK _ ?_); clear hK K)
      | with_reducible refine AWP.seq ?_
      | with_reducible refine thenQ_normal ?_
      | with_reducible refine AWP.block ?_
      | with_reducible refine AWP.skip ?_
      | with_reducible refine AWP.ret ?_
      | with_reducible refine thenQ_ret ?_
      | with_reducible refine blockQ_ret ?_
      | with_reducible refine AWP.exit ?_
      | with_reducible refine thenQ_exit ?_
      | with_reducible refine blockQ_normal ?_
      | with_reducible refine blockQ_exit ?_
      | refine blockQ_exit_ne rfl ?_
      | (with_reducible refine And.intro (by (first | with_reducible rfl | with_reducible assumption | omega | (simp only [LN]; first | done | with_reducible rfl | omega) | (simp only [NM, LN]; first | done | with_reducible assumption | omega) | (and_intros <;> first | with_reducible assumption | omega | (simp only [LN]; omega)) | fail)) ?_)
      | ((with_reducible refine AWP.condG (T := TT) (b := ?_) ?_ ?_); rotate_left; exact rfl)
      | with_reducible refine CondG.t ?_
      | with_reducible refine CondG.f ?_
      | with_reducible refine CondG.not ?_
      | ((first | with_reducible refine CondG.isT ?_ ?_); focus (first | with_reducible rfl | with_reducible assumption | (simp only [NM, LN]; first | done | with_reducible assumption | omega)))
      | ((first | with_reducible refine CondG.isF ?_ ?_); focus (first | with_reducible rfl | with_reducible assumption | (simp only [NM, LN]; first | done | with_reducible assumption | omega)))
      | ((with_reducible refine CondG.split (fun h => ?_) (fun h => ?_)) <;> (try simp only [NM] at h)))
    simp -dsimp (disch := (first | omega | (simp only [LN]; omega))) only [retQ, Try.results62, resVals, cellRV, resOf, St.rest, St.freeze, RT, go_sem, ↓reduceIte, Nat.reduceLT, Nat.reduceLeDiff, Nat.reduceEqDiff, Nat.reduceAdd, Nat.reduceMul, Nat.reduceSub, Nat.reduceBEq, Nat.reduceBNe, Int.reduceBEq, Int.reduceLT, Int.reduceLE, reduceCtorEq, Int.reduceToNat]
theorem relClone_sat (l : List Row) (h1 : l.length ≤ 1099511627776) (h2 : ∀ r ∈ l, r.length ≤ 1099511627776) : Sat Try.prog 62 [.one (eRows l)] (.v (.one (eRows l))) :=
  (relClone_own l h1 h2).frz (by
    simp -dsimp (disch := (first | omega | (simp only [LN]; omega))) only [go_sem, ↓reduceIte, Nat.reduceLT, Nat.reduceLeDiff, Nat.reduceEqDiff, Nat.reduceAdd, Nat.reduceMul, Nat.reduceSub, Nat.reduceBEq, Nat.reduceBNe, Int.reduceBEq, Int.reduceLT, Int.reduceLE, reduceCtorEq, Int.reduceToNat, topL_ref, St.rest, roots, dropL_nil, eRows]
    )

/-- instance.Table. -/
def instTbl (s : Sch) (i : Inst) (name : ByteArray) : Tbl × List Row :=
  if tblAt s.tables name < 0 then (⟨ByteArray.empty, [], []⟩, []) else
  (s.tables.getD (tblAt s.tables name).toNat zTbl, if (i.length : Int) ≤ tblAt s.tables name then [] else (i.getD (tblAt s.tables name).toNat ⟨ByteArray.empty, []⟩).rows)

set_option maxHeartbeats 8000000 in
theorem instTable_sat (s : Sch) (i : Inst) (name : ByteArray) (h1 : s.tables.length ≤ 140737488355328) (h2 : ∀ t ∈ s.tables, t.cols.length ≤ 1099511627776 ∧ t.pk.length ≤ 1099511627776)
    (h3 : ∀ r ∈ i, r.rows.length ≤ 1099511627776 ∧ ∀ x ∈ r.rows, x.length ≤ 1099511627776) :
    Sat Try.prog 75 [.agg (eSch s), .one (eInst i), .one (.str name)] (.tup [.agg (eTbl (instTbl s i name).1), .one (eRows (instTbl s i name).2)]) := by
  rcases idx_cases (fun t => sEq t.name name) s.tables 0 with ⟨e1, _⟩ | ⟨j, hj, e1, _⟩
  · have e1 : tblAt s.tables name = -1 := e1
    refine sat_of_body tyOk Try.func75 rfl (by kernel_rfl) ⟨Nat.le_of_ble_eq_true rfl, Nat.le_of_ble_eq_true rfl⟩ fun w0 m0 F0 => ?_
    simp only [Try.ntmps75, envOf, Nat.reduceAdd]
    repeat' (first
      | ((first
        | with_reducible refine AWP.regionL tyOk fun K hK => ?_
        | ((first | with_reducible refine GOn.isT ?_ ?_ | with_reducible refine HOn.isT ?_ ?_ | with_reducible refine pickK.isT ?_ ?_); focus (first | with_reducible rfl | with_reducible assumption | (simp only [NM, LN]; first | done | with_reducible assumption | omega)))
        | ((first | with_reducible refine GOn.isF ?_ ?_ | with_reducible refine HOn.isF ?_ ?_ | with_reducible refine pickK.isF ?_ ?_); focus (first | with_reducible rfl | with_reducible assumption | (simp only [NM, LN]; first | done | with_reducible assumption | omega)))
        | ((first | with_reducible refine GOn.split (fun h => ?_) (fun h => ?_) | with_reducible refine HOn.split (fun h => ?_) (fun h => ?_) | with_reducible refine pickK.split (fun h => ?_) (fun h => ?_)) <;> (try simp only [NM] at h))
        | ((with_reducible refine CallJ.is ?_); (first | refine CallJ.pure (findTable_sat _ _ h1) ?_ | ((first | refine CallJ.lent (findTable_sat _ _ h1) ?_ ?_; focus (simp -dsimp (disch := (first | omega | (simp only [LN]; omega))) only [go_sem, ↓reduceIte, Nat.reduceLT, Nat.reduceLeDiff, Nat.reduceEqDiff, Nat.reduceAdd, Nat.reduceMul, Nat.reduceSub, Nat.reduceBEq, Nat.reduceBNe, Int.reduceBEq, Int.reduceLT, Int.reduceLE, reduceCtorEq, Int.reduceToNat, e1, mx0_neg]; done)))))
        | ((with_reducible refine CallH.is ?_); (first | refine CallH.intro (findTable_sat _ _ h1) ?_))) <;> simp -dsimp (disch := (first | omega | (simp only [LN]; omega))) only [go_sem, ↓reduceIte, Nat.reduceLT, Nat.reduceLeDiff, Nat.reduceEqDiff, Nat.reduceAdd, Nat.reduceMul, Nat.reduceSub, Nat.reduceBEq, Nat.reduceBNe, Int.reduceBEq, Int.reduceLT, Int.reduceLE, reduceCtorEq, Int.reduceToNat, e1, mx0_neg])
      | ((with_reducible refine hK _ ?_); clear hK K)
      | with_reducible refine AWP.seq ?_
      | with_reducible refine thenQ_normal ?_
      | with_reducible refine AWP.block ?_
      | with_reducible refine AWP.skip ?_
      | with_reducible refine AWP.ret ?_
      | with_reducible refine thenQ_ret ?_
      | with_reducible refine blockQ_ret ?_
      | with_reducible refine AWP.exit ?_
      | with_reducible refine thenQ_exit ?_
      | with_reducible refine blockQ_normal ?_
      | with_reducible refine blockQ_exit ?_
      | refine blockQ_exit_ne rfl ?_
      | (with_reducible refine And.intro (by (first | with_reducible rfl | with_reducible assumption | omega | (simp only [LN]; first | done | with_reducible rfl | omega) | (simp only [NM, LN]; first | done | with_reducible assumption | omega) | (and_intros <;> first | with_reducible assumption | omega | (simp only [LN]; omega)) | fail)) ?_)
      | ((with_reducible refine AWP.condG (T := TT) (b := ?_) ?_ ?_); rotate_left; exact rfl)
      | with_reducible refine CondG.t ?_
      | with_reducible refine CondG.f ?_
      | with_reducible refine CondG.not ?_
      | ((first | with_reducible refine CondG.isT ?_ ?_); focus (first | with_reducible rfl | with_reducible assumption | (simp only [NM, LN]; first | done | with_reducible assumption | omega)))
      | ((first | with_reducible refine CondG.isF ?_ ?_); focus (first | with_reducible rfl | with_reducible assumption | (simp only [NM, LN]; first | done | with_reducible assumption | omega)))
      | ((with_reducible refine CondG.split (fun h => ?_) (fun h => ?_)) <;> (try simp only [NM] at h)))
    simp -dsimp (disch := (first | omega | (simp only [LN]; omega))) only [retQ, Try.results75, resVals, cellRV, resOf, St.rest, St.freeze, RT, go_sem, ↓reduceIte, Nat.reduceLT, Nat.reduceLeDiff, Nat.reduceEqDiff, Nat.reduceAdd, Nat.reduceMul, Nat.reduceSub, Nat.reduceBEq, Nat.reduceBNe, Int.reduceBEq, Int.reduceLT, Int.reduceLE, reduceCtorEq, Int.reduceToNat]
    simp [instTbl, e1, eTbl, eCols, eInts, eRows]
  have e1 : tblAt s.tables name = (j : Int) := by unfold tblAt; simpa using e1
  obtain ⟨b1, b2⟩ := h2 _ (List.getElem_mem hj)
  refine sat_of_body tyOk Try.func75 rfl (by kernel_rfl) ⟨Nat.le_of_ble_eq_true rfl, Nat.le_of_ble_eq_true rfl⟩ fun w0 m0 F0 => ?_
  simp only [Try.ntmps75, envOf, Nat.reduceAdd]
  repeat' (first
    | ((first
      | with_reducible refine AWP.regionL tyOk fun K hK => ?_
      | ((first | with_reducible refine GOn.isT ?_ ?_ | with_reducible refine HOn.isT ?_ ?_ | with_reducible refine pickK.isT ?_ ?_); focus (first | with_reducible rfl | with_reducible assumption | (simp only [NM, LN]; first | done | with_reducible assumption | omega)))
      | ((first | with_reducible refine GOn.isF ?_ ?_ | with_reducible refine HOn.isF ?_ ?_ | with_reducible refine pickK.isF ?_ ?_); focus (first | with_reducible rfl | with_reducible assumption | (simp only [NM, LN]; first | done | with_reducible assumption | omega)))
      | ((first | with_reducible refine GOn.split (fun h => ?_) (fun h => ?_) | with_reducible refine HOn.split (fun h => ?_) (fun h => ?_) | with_reducible refine pickK.split (fun h => ?_) (fun h => ?_)) <;> (try simp only [NM] at h))
      | ((with_reducible refine CallJ.is ?_); (first | refine CallJ.pure (findTable_sat _ _ h1) ?_ | refine CallJ.pure (cloneTable_sat _ b1 b2) ?_ | ((first | refine CallJ.lent (findTable_sat _ _ h1) ?_ ?_; focus (simp -dsimp (disch := (first | omega | (simp only [LN]; omega))) only [go_sem, ↓reduceIte, Nat.reduceLT, Nat.reduceLeDiff, Nat.reduceEqDiff, Nat.reduceAdd, Nat.reduceMul, Nat.reduceSub, Nat.reduceBEq, Nat.reduceBNe, Int.reduceBEq, Int.reduceLT, Int.reduceLE, reduceCtorEq, Int.reduceToNat, e1, mx0_nat]; done) | refine CallJ.lent (cloneTable_sat _ b1 b2) ?_ ?_; focus (simp -dsimp (disch := (first | omega | (simp only [LN]; omega))) only [go_sem, ↓reduceIte, Nat.reduceLT, Nat.reduceLeDiff, Nat.reduceEqDiff, Nat.reduceAdd, Nat.reduceMul, Nat.reduceSub, Nat.reduceBEq, Nat.reduceBNe, Int.reduceBEq, Int.reduceLT, Int.reduceLE, reduceCtorEq, Int.reduceToNat, e1, mx0_nat]; done)))))
      | ((with_reducible refine CallH.is ?_); (first | refine CallH.intro (findTable_sat _ _ h1) ?_ | refine CallH.intro (cloneTable_sat _ b1 b2) ?_))) <;> simp -dsimp (disch := (first | omega | (simp only [LN]; omega))) only [go_sem, ↓reduceIte, Nat.reduceLT, Nat.reduceLeDiff, Nat.reduceEqDiff, Nat.reduceAdd, Nat.reduceMul, Nat.reduceSub, Nat.reduceBEq, Nat.reduceBNe, Int.reduceBEq, Int.reduceLT, Int.reduceLE, reduceCtorEq, Int.reduceToNat, e1, mx0_nat])
    | ((with_reducible refine hK _ ?_); clear hK K)
    | with_reducible refine AWP.seq ?_
    | with_reducible refine thenQ_normal ?_
    | with_reducible refine AWP.block ?_
    | with_reducible refine AWP.skip ?_
    | with_reducible refine AWP.ret ?_
    | with_reducible refine thenQ_ret ?_
    | with_reducible refine blockQ_ret ?_
    | with_reducible refine AWP.exit ?_
    | with_reducible refine thenQ_exit ?_
    | with_reducible refine blockQ_normal ?_
    | with_reducible refine blockQ_exit ?_
    | refine blockQ_exit_ne rfl ?_
    | (with_reducible refine And.intro (by (first | with_reducible rfl | with_reducible assumption | omega | (simp only [LN]; first | done | with_reducible rfl | omega) | (simp only [NM, LN]; first | done | with_reducible assumption | omega) | (and_intros <;> first | with_reducible assumption | omega | (simp only [LN]; omega)) | fail)) ?_)
    | ((with_reducible refine AWP.condG (T := TT) (b := ?_) ?_ ?_); rotate_left; exact rfl)
    | with_reducible refine CondG.t ?_
    | with_reducible refine CondG.f ?_
    | with_reducible refine CondG.not ?_
    | ((first | with_reducible refine CondG.isT ?_ ?_); focus (first | with_reducible rfl | with_reducible assumption | (simp only [NM, LN]; first | done | with_reducible assumption | omega)))
    | ((first | with_reducible refine CondG.isF ?_ ?_); focus (first | with_reducible rfl | with_reducible assumption | (simp only [NM, LN]; first | done | with_reducible assumption | omega)))
    | ((with_reducible refine CondG.split (fun h => ?_) (fun h => ?_)) <;> (try simp only [NM] at h)))
  · have sp : instTbl s i name = (s.tables[j], []) := by
      simp only [instTbl, e1, Int.toNat_natCast, getD_lt _ hj]
      rw [if_neg (by omega), if_pos (by omega)]
    rw [sp]
    simp -dsimp (disch := (first | omega | (simp only [LN]; omega))) only [retQ, Try.results75, resVals, cellRV, resOf, St.rest, St.freeze, RT, go_sem, ↓reduceIte, Nat.reduceLT, Nat.reduceLeDiff, Nat.reduceEqDiff, Nat.reduceAdd, Nat.reduceMul, Nat.reduceSub, Nat.reduceBEq, Nat.reduceBNe, Int.reduceBEq, Int.reduceLT, Int.reduceLE, reduceCtorEq, Int.reduceToNat]
    try simp [eRows, eTbl, eCols, eInts]
  have hji : j < i.length := by omega
  have sp : instTbl s i name = (s.tables[j], i[j].rows) := by
    simp only [instTbl, e1, Int.toNat_natCast, getD_lt _ hj, getD_lt _ hji]
    rw [if_neg (by omega), if_neg (by omega)]
  rw [sp]
  obtain ⟨b3, b4⟩ := h3 _ (List.getElem_mem hji)
  refine AWP.drawT tyOk mixed 7 8 (by kernel_rfl) rfl rfl fun K hK => ?_
  simp -dsimp (disch := (first | omega | (simp only [LN]; omega))) only [go_sem, ↓reduceIte, Nat.reduceLT, Nat.reduceLeDiff, Nat.reduceEqDiff, Nat.reduceAdd, Nat.reduceMul, Nat.reduceSub, Nat.reduceBEq, Nat.reduceBNe, Int.reduceBEq, Int.reduceLT, Int.reduceLE, reduceCtorEq, Int.reduceToNat]
  repeat' (first
    | ((first
      | with_reducible refine AWP.regionL tyOk fun K hK => ?_
      | ((first | with_reducible refine GOn.isT ?_ ?_ | with_reducible refine HOn.isT ?_ ?_ | with_reducible refine pickK.isT ?_ ?_); focus (first | with_reducible rfl | with_reducible assumption | (simp only [NM, LN]; first | done | with_reducible assumption | omega)))
      | ((first | with_reducible refine GOn.isF ?_ ?_ | with_reducible refine HOn.isF ?_ ?_ | with_reducible refine pickK.isF ?_ ?_); focus (first | with_reducible rfl | with_reducible assumption | (simp only [NM, LN]; first | done | with_reducible assumption | omega)))
      | ((first | with_reducible refine GOn.split (fun h => ?_) (fun h => ?_) | with_reducible refine HOn.split (fun h => ?_) (fun h => ?_) | with_reducible refine pickK.split (fun h => ?_) (fun h => ?_)) <;> (try simp only [NM] at h))
      | ((with_reducible refine CallJ.is ?_); (first | refine CallJ.pure (relClone_sat _ b3 b4) ?_ | ((first | refine CallJ.lent (relClone_sat _ b3 b4) ?_ ?_; focus (simp -dsimp (disch := (first | omega | (simp only [LN]; omega))) only [go_sem, ↓reduceIte, Nat.reduceLT, Nat.reduceLeDiff, Nat.reduceEqDiff, Nat.reduceAdd, Nat.reduceMul, Nat.reduceSub, Nat.reduceBEq, Nat.reduceBNe, Int.reduceBEq, Int.reduceLT, Int.reduceLE, reduceCtorEq, Int.reduceToNat]; done)))))
      | ((with_reducible refine CallH.is ?_); (first | refine CallH.intro (relClone_sat _ b3 b4) ?_))) <;> simp -dsimp (disch := (first | omega | (simp only [LN]; omega))) only [go_sem, ↓reduceIte, Nat.reduceLT, Nat.reduceLeDiff, Nat.reduceEqDiff, Nat.reduceAdd, Nat.reduceMul, Nat.reduceSub, Nat.reduceBEq, Nat.reduceBNe, Int.reduceBEq, Int.reduceLT, Int.reduceLE, reduceCtorEq, Int.reduceToNat])
    | ((with_reducible refine hK _ ?_); clear hK K)
    | with_reducible refine AWP.seq ?_
    | with_reducible refine thenQ_normal ?_
    | with_reducible refine AWP.block ?_
    | with_reducible refine AWP.skip ?_
    | with_reducible refine AWP.ret ?_
    | with_reducible refine thenQ_ret ?_
    | with_reducible refine blockQ_ret ?_
    | with_reducible refine AWP.exit ?_
    | with_reducible refine thenQ_exit ?_
    | with_reducible refine blockQ_normal ?_
    | with_reducible refine blockQ_exit ?_
    | refine blockQ_exit_ne rfl ?_
    | (with_reducible refine And.intro (by (first | with_reducible rfl | with_reducible assumption | omega | (simp only [LN]; first | done | with_reducible rfl | omega) | (simp only [NM, LN]; first | done | with_reducible assumption | omega) | (and_intros <;> first | with_reducible assumption | omega | (simp only [LN]; omega)) | fail)) ?_)
    | ((with_reducible refine AWP.condG (T := TT) (b := ?_) ?_ ?_); rotate_left; exact rfl)
    | with_reducible refine CondG.t ?_
    | with_reducible refine CondG.f ?_
    | with_reducible refine CondG.not ?_
    | ((first | with_reducible refine CondG.isT ?_ ?_); focus (first | with_reducible rfl | with_reducible assumption | (simp only [NM, LN]; first | done | with_reducible assumption | omega)))
    | ((first | with_reducible refine CondG.isF ?_ ?_); focus (first | with_reducible rfl | with_reducible assumption | (simp only [NM, LN]; first | done | with_reducible assumption | omega)))
    | ((with_reducible refine CondG.split (fun h => ?_) (fun h => ?_)) <;> (try simp only [NM] at h)))
  intro K hK
  simp -dsimp (disch := (first | omega | (simp only [LN]; omega))) only [go_sem, ↓reduceIte, Nat.reduceLT, Nat.reduceLeDiff, Nat.reduceEqDiff, Nat.reduceAdd, Nat.reduceMul, Nat.reduceSub, Nat.reduceBEq, Nat.reduceBNe, Int.reduceBEq, Int.reduceLT, Int.reduceLE, reduceCtorEq, Int.reduceToNat]
  repeat' (first
    | ((first
      | with_reducible refine AWP.regionL tyOk fun K hK => ?_
      | ((first | with_reducible refine GOn.isT ?_ ?_ | with_reducible refine HOn.isT ?_ ?_ | with_reducible refine pickK.isT ?_ ?_); focus (first | with_reducible rfl | with_reducible assumption | (simp only [NM, LN]; first | done | with_reducible assumption | omega)))
      | ((first | with_reducible refine GOn.isF ?_ ?_ | with_reducible refine HOn.isF ?_ ?_ | with_reducible refine pickK.isF ?_ ?_); focus (first | with_reducible rfl | with_reducible assumption | (simp only [NM, LN]; first | done | with_reducible assumption | omega)))
      | ((first | with_reducible refine GOn.split (fun h => ?_) (fun h => ?_) | with_reducible refine HOn.split (fun h => ?_) (fun h => ?_) | with_reducible refine pickK.split (fun h => ?_) (fun h => ?_)) <;> (try simp only [NM] at h))) <;> simp -dsimp (disch := (first | omega | (simp only [LN]; omega))) only [go_sem, ↓reduceIte, Nat.reduceLT, Nat.reduceLeDiff, Nat.reduceEqDiff, Nat.reduceAdd, Nat.reduceMul, Nat.reduceSub, Nat.reduceBEq, Nat.reduceBNe, Int.reduceBEq, Int.reduceLT, Int.reduceLE, reduceCtorEq, Int.reduceToNat])
    | ((with_reducible refine hK _ ?_); clear hK K)
    | with_reducible refine AWP.seq ?_
    | with_reducible refine thenQ_normal ?_
    | with_reducible refine AWP.block ?_
    | with_reducible refine AWP.skip ?_
    | with_reducible refine AWP.ret ?_
    | with_reducible refine thenQ_ret ?_
    | with_reducible refine blockQ_ret ?_
    | with_reducible refine AWP.exit ?_
    | with_reducible refine thenQ_exit ?_
    | with_reducible refine blockQ_normal ?_
    | with_reducible refine blockQ_exit ?_
    | refine blockQ_exit_ne rfl ?_
    | (with_reducible refine And.intro (by (first | with_reducible rfl | with_reducible assumption | omega | (simp only [LN]; first | done | with_reducible rfl | omega) | (simp only [NM, LN]; first | done | with_reducible assumption | omega) | (and_intros <;> first | with_reducible assumption | omega | (simp only [LN]; omega)) | fail)) ?_)
    | ((with_reducible refine AWP.condG (T := TT) (b := ?_) ?_ ?_); rotate_left; exact rfl)
    | with_reducible refine CondG.t ?_
    | with_reducible refine CondG.f ?_
    | with_reducible refine CondG.not ?_
    | ((first | with_reducible refine CondG.isT ?_ ?_); focus (first | with_reducible rfl | with_reducible assumption | (simp only [NM, LN]; first | done | with_reducible assumption | omega)))
    | ((first | with_reducible refine CondG.isF ?_ ?_); focus (first | with_reducible rfl | with_reducible assumption | (simp only [NM, LN]; first | done | with_reducible assumption | omega)))
    | ((with_reducible refine CondG.split (fun h => ?_) (fun h => ?_)) <;> (try simp only [NM] at h)))
  simp -dsimp (disch := (first | omega | (simp only [LN]; omega))) only [retQ, Try.results75, resVals, cellRV, resOf, St.rest, St.freeze, RT, go_sem, ↓reduceIte, Nat.reduceLT, Nat.reduceLeDiff, Nat.reduceEqDiff, Nat.reduceAdd, Nat.reduceMul, Nat.reduceSub, Nat.reduceBEq, Nat.reduceBNe, Int.reduceBEq, Int.reduceLT, Int.reduceLE, reduceCtorEq, Int.reduceToNat]

/-- relation.Find. -/
def atKey (t : Tbl) (key : Row) (r : Row) : Bool := decide (0 ≤ cmpRows (keyOf t.pk r) key)
def findPos (t : Tbl) (rows : List Row) (key : Row) : Int := idx (atKey t key) rows 0
def findI (t : Tbl) (rows : List Row) (key : Row) : Int := if findPos t rows key < 0 then rows.length else findPos t rows key
def findB (t : Tbl) (rows : List Row) (key : Row) : Bool := if findPos t rows key < 0 then false else cmpRows (keyOf t.pk (rows.getD (findPos t rows key).toNat [])) key == 0

set_option maxHeartbeats 8000000 in
theorem find_sat (t : Tbl) (rows : List Row) (key : Row) (h1 : t.pk.length ≤ 1099511627776) (h2 : rows.length ≤ 140737488355328) (h3 : key.length ≤ 140737488355328) :
    Sat Try.prog 22 [.agg (eTbl t), .one (eRows rows), .one (eRow key)] (.tup [oI (findI t rows key), oB (findB t rows key)]) := by
  refine sat_of_body tyOk Try.func22 rfl (by kernel_rfl) ⟨Nat.le_of_ble_eq_true rfl, Nat.le_of_ble_eq_true rfl⟩ fun w0 m0 F0 => ?_
  simp only [Try.ntmps22, envOf, Nat.reduceAdd]
  repeat' (first
    | ((first
      | with_reducible refine AWP.regionL tyOk fun K hK => ?_
      | ((first | with_reducible refine GOn.isT ?_ ?_ | with_reducible refine HOn.isT ?_ ?_ | with_reducible refine pickK.isT ?_ ?_); focus (first | with_reducible rfl | with_reducible assumption | (simp only [NM, LN]; first | done | with_reducible assumption | omega)))
      | ((first | with_reducible refine GOn.isF ?_ ?_ | with_reducible refine HOn.isF ?_ ?_ | with_reducible refine pickK.isF ?_ ?_); focus (first | with_reducible rfl | with_reducible assumption | (simp only [NM, LN]; first | done | with_reducible assumption | omega)))
      | ((first | with_reducible refine GOn.split (fun h => ?_) (fun h => ?_) | with_reducible refine HOn.split (fun h => ?_) (fun h => ?_) | with_reducible refine pickK.split (fun h => ?_) (fun h => ?_)) <;> (try simp only [NM] at h))
      | with_reducible refine AWP.drawAll tyOk mixed 6 (by kernel_rfl) fun K hK => ?_) <;> simp -dsimp (disch := (first | omega | (simp only [LN]; omega))) only [go_sem, ↓reduceIte, Nat.reduceLT, Nat.reduceLeDiff, Nat.reduceEqDiff, Nat.reduceAdd, Nat.reduceMul, Nat.reduceSub, Nat.reduceBEq, Nat.reduceBNe, Int.reduceBEq, Int.reduceLT, Int.reduceLE, reduceCtorEq, Int.reduceToNat])
    | ((with_reducible refine hK _ ?_); clear hK K)
    | with_reducible refine AWP.seq ?_
    | with_reducible refine thenQ_normal ?_
    | with_reducible refine AWP.block ?_
    | with_reducible refine AWP.skip ?_
    | with_reducible refine AWP.ret ?_
    | with_reducible refine thenQ_ret ?_
    | with_reducible refine blockQ_ret ?_
    | with_reducible refine AWP.exit ?_
    | with_reducible refine thenQ_exit ?_
    | with_reducible refine blockQ_normal ?_
    | with_reducible refine blockQ_exit ?_
    | refine blockQ_exit_ne rfl ?_
    | (with_reducible refine And.intro (by (first | with_reducible rfl | with_reducible assumption | omega | (simp only [LN]; first | done | with_reducible rfl | omega) | (simp only [NM, LN]; first | done | with_reducible assumption | omega) | (and_intros <;> first | with_reducible assumption | omega | (simp only [LN]; omega)) | fail)) ?_)
    | ((with_reducible refine AWP.condG (T := TT) (b := ?_) ?_ ?_); rotate_left; exact rfl)
    | with_reducible refine CondG.t ?_
    | with_reducible refine CondG.f ?_
    | with_reducible refine CondG.not ?_
    | ((first | with_reducible refine CondG.isT ?_ ?_); focus (first | with_reducible rfl | with_reducible assumption | (simp only [NM, LN]; first | done | with_reducible assumption | omega)))
    | ((first | with_reducible refine CondG.isF ?_ ?_); focus (first | with_reducible rfl | with_reducible assumption | (simp only [NM, LN]; first | done | with_reducible assumption | omega)))
    | ((with_reducible refine CondG.split (fun h => ?_) (fun h => ?_)) <;> (try simp only [NM] at h)))
  refine AWP.loop (ι := {k : Nat // k ≤ rows.length ∧ idx (atKey t key) (rows.drop k) k = findPos t rows key}) (fun k => ⟨31, [(3, .v (.one (.ptr 3 0))), (1, .v (.one (eRows rows))), (2, .v (.one (eRow key))), (11, .v (.one (eRows rows))), (12, .v (oI rows.length)), (13, .v (oI k.1))], [(3, eTbl t)], []⟩) (fun k => rows.length - k.1) ⟨0, Nat.zero_le _, rfl⟩ ?_ fun ⟨k, hkl, hi⟩ => ?_
  · exact St.le_mk (by simp only [LE, EN, Nat.reduceEqDiff, reduceIte, Nat.reduceSub, eTbl]) (by simp only [LE, EN, Nat.reduceEqDiff, reduceIte, Nat.reduceSub, eTbl]) (by simp only [LE, EN, Nat.reduceEqDiff, reduceIte, Nat.reduceSub, eTbl])
  rcases Nat.lt_or_ge k rows.length with hc | hc
  · have b1 : (keyOf t.pk rows[k]).length ≤ 140737488355328 := by rw [keyOf_length]; omega
    repeat' (first
      | ((first
        | with_reducible refine AWP.regionL tyOk fun K hK => ?_
        | ((first | with_reducible refine GOn.isT ?_ ?_ | with_reducible refine HOn.isT ?_ ?_ | with_reducible refine pickK.isT ?_ ?_); focus (first | with_reducible rfl | with_reducible assumption | (simp only [NM, LN]; first | done | with_reducible assumption | omega)))
        | ((first | with_reducible refine GOn.isF ?_ ?_ | with_reducible refine HOn.isF ?_ ?_ | with_reducible refine pickK.isF ?_ ?_); focus (first | with_reducible rfl | with_reducible assumption | (simp only [NM, LN]; first | done | with_reducible assumption | omega)))
        | ((first | with_reducible refine GOn.split (fun h => ?_) (fun h => ?_) | with_reducible refine HOn.split (fun h => ?_) (fun h => ?_) | with_reducible refine pickK.split (fun h => ?_) (fun h => ?_)) <;> (try simp only [NM] at h))
        | with_reducible refine AWP.drawAll tyOk mixed 6 (by kernel_rfl) fun K hK => ?_
        | ((with_reducible refine CallJ.is ?_); (first | refine CallJ.pure (key_sat t rows[k] h1) ?_ | refine CallJ.pure (compareRows_sat (keyOf t.pk rows[k]) key b1 h3) ?_ | ((first | refine CallJ.lent (key_sat t rows[k] h1) ?_ ?_; focus (simp -dsimp (disch := (first | omega | (simp only [LN]; omega))) only [go_sem, ↓reduceIte, Nat.reduceLT, Nat.reduceLeDiff, Nat.reduceEqDiff, Nat.reduceAdd, Nat.reduceMul, Nat.reduceSub, Nat.reduceBEq, Nat.reduceBNe, Int.reduceBEq, Int.reduceLT, Int.reduceLE, reduceCtorEq, Int.reduceToNat]; done) | refine CallJ.lent (compareRows_sat (keyOf t.pk rows[k]) key b1 h3) ?_ ?_; focus (simp -dsimp (disch := (first | omega | (simp only [LN]; omega))) only [go_sem, ↓reduceIte, Nat.reduceLT, Nat.reduceLeDiff, Nat.reduceEqDiff, Nat.reduceAdd, Nat.reduceMul, Nat.reduceSub, Nat.reduceBEq, Nat.reduceBNe, Int.reduceBEq, Int.reduceLT, Int.reduceLE, reduceCtorEq, Int.reduceToNat]; done)))))
        | ((with_reducible refine CallH.is ?_); (first | refine CallH.intro (key_sat t rows[k] h1) ?_ | refine CallH.intro (compareRows_sat (keyOf t.pk rows[k]) key b1 h3) ?_))) <;> simp -dsimp (disch := (first | omega | (simp only [LN]; omega))) only [go_sem, ↓reduceIte, Nat.reduceLT, Nat.reduceLeDiff, Nat.reduceEqDiff, Nat.reduceAdd, Nat.reduceMul, Nat.reduceSub, Nat.reduceBEq, Nat.reduceBNe, Int.reduceBEq, Int.reduceLT, Int.reduceLE, reduceCtorEq, Int.reduceToNat])
      | ((with_reducible refine hK _ ?_); clear hK K)
      | with_reducible refine AWP.seq ?_
      | with_reducible refine thenQ_normal ?_
      | with_reducible refine AWP.block ?_
      | with_reducible refine AWP.skip ?_
      | with_reducible refine AWP.ret ?_
      | with_reducible refine thenQ_ret ?_
      | with_reducible refine blockQ_ret ?_
      | with_reducible refine AWP.exit ?_
      | with_reducible refine thenQ_exit ?_
      | with_reducible refine blockQ_normal ?_
      | with_reducible refine blockQ_exit ?_
      | refine blockQ_exit_ne rfl ?_
      | (with_reducible refine And.intro (by (first | with_reducible rfl | with_reducible assumption | omega | (simp only [LN]; first | done | with_reducible rfl | omega) | (simp only [NM, LN]; first | done | with_reducible assumption | omega) | (and_intros <;> first | with_reducible assumption | omega | (simp only [LN]; omega)) | fail)) ?_)
      | ((with_reducible refine AWP.condG (T := TT) (b := ?_) ?_ ?_); rotate_left; exact rfl)
      | with_reducible refine CondG.t ?_
      | with_reducible refine CondG.f ?_
      | with_reducible refine CondG.not ?_
      | ((first | with_reducible refine CondG.isT ?_ ?_); focus (first | with_reducible rfl | with_reducible assumption | (simp only [NM, LN]; first | done | with_reducible assumption | omega)))
      | ((first | with_reducible refine CondG.isF ?_ ?_); focus (first | with_reducible rfl | with_reducible assumption | (simp only [NM, LN]; first | done | with_reducible assumption | omega)))
      | ((with_reducible refine CondG.split (fun h => ?_) (fun h => ?_)) <;> (try simp only [NM] at h)))
    · have hp : atKey t key rows[k] = true := by simp only [atKey, decide_eq_true_eq]; omega
      have hq : findPos t rows key = (k : Int) := by rw [← hi, idx_hit hc hp]
      simp -dsimp (disch := (first | omega | (simp only [LN]; omega))) only [retQ, Try.results22, resVals, cellRV, resOf, St.rest, St.freeze, RT, go_sem, ↓reduceIte, Nat.reduceLT, Nat.reduceLeDiff, Nat.reduceEqDiff, Nat.reduceAdd, Nat.reduceMul, Nat.reduceSub, Nat.reduceBEq, Nat.reduceBNe, Int.reduceBEq, Int.reduceLT, Int.reduceLE, reduceCtorEq, Int.reduceToNat]
      simp only [findI, findB, hq, Int.toNat_natCast, getD_lt _ hc]
      rw [if_neg (by omega), if_neg (by omega)]
    · have hp : atKey t key rows[k] = false := by simp only [atKey, decide_eq_false_iff_not]; omega
      refine ⟨⟨k + 1, by omega, by rw [idx_step hc hp, hi]⟩, by simp only; omega, ?_⟩
      exact St.le_mk (by simp only [LE, EN, Nat.reduceEqDiff, reduceIte, Nat.reduceSub, eTbl]) (by simp only [LE, EN, Nat.reduceEqDiff, reduceIte, Nat.reduceSub, eTbl]) (by simp only [LE, EN, Nat.reduceEqDiff, reduceIte, Nat.reduceSub, eTbl])
  · rw [idx_end (by omega)] at hi
    repeat' (first
      | ((first
        | with_reducible refine AWP.regionL tyOk fun K hK => ?_
        | ((first | with_reducible refine GOn.isT ?_ ?_ | with_reducible refine HOn.isT ?_ ?_ | with_reducible refine pickK.isT ?_ ?_); focus (first | with_reducible rfl | with_reducible assumption | (simp only [NM, LN]; first | done | with_reducible assumption | omega)))
        | ((first | with_reducible refine GOn.isF ?_ ?_ | with_reducible refine HOn.isF ?_ ?_ | with_reducible refine pickK.isF ?_ ?_); focus (first | with_reducible rfl | with_reducible assumption | (simp only [NM, LN]; first | done | with_reducible assumption | omega)))
        | ((first | with_reducible refine GOn.split (fun h => ?_) (fun h => ?_) | with_reducible refine HOn.split (fun h => ?_) (fun h => ?_) | with_reducible refine pickK.split (fun h => ?_) (fun h => ?_)) <;> (try simp only [NM] at h))
        | with_reducible refine AWP.drawAll tyOk mixed 6 (by kernel_rfl) fun K hK => ?_) <;> simp -dsimp (disch := (first | omega | (simp only [LN]; omega))) only [go_sem, ↓reduceIte, Nat.reduceLT, Nat.reduceLeDiff, Nat.reduceEqDiff, Nat.reduceAdd, Nat.reduceMul, Nat.reduceSub, Nat.reduceBEq, Nat.reduceBNe, Int.reduceBEq, Int.reduceLT, Int.reduceLE, reduceCtorEq, Int.reduceToNat])
      | ((with_reducible refine hK _ ?_); clear hK K)
      | with_reducible refine AWP.seq ?_
      | with_reducible refine thenQ_normal ?_
      | with_reducible refine AWP.block ?_
      | with_reducible refine AWP.skip ?_
      | with_reducible refine AWP.ret ?_
      | with_reducible refine thenQ_ret ?_
      | with_reducible refine blockQ_ret ?_
      | with_reducible refine AWP.exit ?_
      | with_reducible refine thenQ_exit ?_
      | with_reducible refine blockQ_normal ?_
      | with_reducible refine blockQ_exit ?_
      | refine blockQ_exit_ne rfl ?_
      | (with_reducible refine And.intro (by (first | with_reducible rfl | with_reducible assumption | omega | (simp only [LN]; first | done | with_reducible rfl | omega) | (simp only [NM, LN]; first | done | with_reducible assumption | omega) | (and_intros <;> first | with_reducible assumption | omega | (simp only [LN]; omega)) | fail)) ?_)
      | ((with_reducible refine AWP.condG (T := TT) (b := ?_) ?_ ?_); rotate_left; exact rfl)
      | with_reducible refine CondG.t ?_
      | with_reducible refine CondG.f ?_
      | with_reducible refine CondG.not ?_
      | ((first | with_reducible refine CondG.isT ?_ ?_); focus (first | with_reducible rfl | with_reducible assumption | (simp only [NM, LN]; first | done | with_reducible assumption | omega)))
      | ((first | with_reducible refine CondG.isF ?_ ?_); focus (first | with_reducible rfl | with_reducible assumption | (simp only [NM, LN]; first | done | with_reducible assumption | omega)))
      | ((with_reducible refine CondG.split (fun h => ?_) (fun h => ?_)) <;> (try simp only [NM] at h)))
    simp -dsimp (disch := (first | omega | (simp only [LN]; omega))) only [retQ, Try.results22, resVals, cellRV, resOf, St.rest, St.freeze, RT, go_sem, ↓reduceIte, Nat.reduceLT, Nat.reduceLeDiff, Nat.reduceEqDiff, Nat.reduceAdd, Nat.reduceMul, Nat.reduceSub, Nat.reduceBEq, Nat.reduceBNe, Int.reduceBEq, Int.reduceLT, Int.reduceLE, reduceCtorEq, Int.reduceToNat]
    simp [findI, findB, ← hi]

/-- instance.References. -/
def refKey (r : Row) : List Int → Option Row
  | [] => some []
  | c :: cs => if c < 0 ∨ (r.length : Int) ≤ c ∨ (r.getD c.toNat zV).kind = 0 then none else (refKey r cs).map ((r.getD c.toNat zV) :: ·)
def refOk (s : Sch) (i : Inst) (f : FK) (r : Row) : Bool := match refKey r f.cols with
  | none => true
  | some key => findB (instTbl s i f.ref).1 (instTbl s i f.ref).2 key

set_option maxHeartbeats 8000000 in
theorem references_sat (s : Sch) (i : Inst) (f : FK) (r : Row) (h1 : s.tables.length ≤ 140737488355328) (h2 : ∀ t ∈ s.tables, t.cols.length ≤ 1099511627776 ∧ t.pk.length ≤ 1099511627776)
    (h3 : ∀ r ∈ i, r.rows.length ≤ 1099511627776 ∧ ∀ x ∈ r.rows, x.length ≤ 1099511627776) (h4 : f.cols.length ≤ 1099511627776) (h5 : r.length ≤ 140737488355328)
    (h6 : (instTbl s i f.ref).1.pk.length ≤ 1099511627776) (h7 : (instTbl s i f.ref).2.length ≤ 140737488355328) :
    Sat Try.prog 78 [.agg (eSch s), .one (eInst i), .agg (eFK f), .one (eRow r)] (.v (oB (refOk s i f r))) := by
  refine sat_of_body tyOk Try.func78 rfl (by kernel_rfl) ⟨Nat.le_of_ble_eq_true rfl, Nat.le_of_ble_eq_true rfl⟩ fun w0 m0 F0 => ?_
  simp only [Try.ntmps78, envOf, Nat.reduceAdd]
  repeat' (first
    | ((first
      | with_reducible refine AWP.regionL tyOk fun K hK => ?_
      | ((first | with_reducible refine GOn.isT ?_ ?_ | with_reducible refine HOn.isT ?_ ?_ | with_reducible refine pickK.isT ?_ ?_); focus (first | with_reducible rfl | with_reducible assumption | (simp only [NM, LN]; first | done | with_reducible assumption | omega)))
      | ((first | with_reducible refine GOn.isF ?_ ?_ | with_reducible refine HOn.isF ?_ ?_ | with_reducible refine pickK.isF ?_ ?_); focus (first | with_reducible rfl | with_reducible assumption | (simp only [NM, LN]; first | done | with_reducible assumption | omega)))
      | ((first | with_reducible refine GOn.split (fun h => ?_) (fun h => ?_) | with_reducible refine HOn.split (fun h => ?_) (fun h => ?_) | with_reducible refine pickK.split (fun h => ?_) (fun h => ?_)) <;> (try simp only [NM] at h))
      | ((with_reducible refine CallJ.is ?_); (first | refine CallJ.pure (instTable_sat s i f.ref h1 h2 h3) ?_ | ((first | refine CallJ.lent (instTable_sat s i f.ref h1 h2 h3) ?_ ?_; focus (simp -dsimp (disch := (first | omega | (simp only [LN]; omega))) only [go_sem, ↓reduceIte, Nat.reduceLT, Nat.reduceLeDiff, Nat.reduceEqDiff, Nat.reduceAdd, Nat.reduceMul, Nat.reduceSub, Nat.reduceBEq, Nat.reduceBNe, Int.reduceBEq, Int.reduceLT, Int.reduceLE, reduceCtorEq, Int.reduceToNat]; done)))))
      | ((with_reducible refine CallH.is ?_); (first | refine CallH.intro (instTable_sat s i f.ref h1 h2 h3) ?_))) <;> simp -dsimp (disch := (first | omega | (simp only [LN]; omega))) only [go_sem, ↓reduceIte, Nat.reduceLT, Nat.reduceLeDiff, Nat.reduceEqDiff, Nat.reduceAdd, Nat.reduceMul, Nat.reduceSub, Nat.reduceBEq, Nat.reduceBNe, Int.reduceBEq, Int.reduceLT, Int.reduceLE, reduceCtorEq, Int.reduceToNat])
    | ((with_reducible refine hK _ ?_); clear hK K)
    | with_reducible refine AWP.seq ?_
    | with_reducible refine thenQ_normal ?_
    | with_reducible refine AWP.block ?_
    | with_reducible refine AWP.skip ?_
    | with_reducible refine AWP.ret ?_
    | with_reducible refine thenQ_ret ?_
    | with_reducible refine blockQ_ret ?_
    | with_reducible refine AWP.exit ?_
    | with_reducible refine thenQ_exit ?_
    | with_reducible refine blockQ_normal ?_
    | with_reducible refine blockQ_exit ?_
    | refine blockQ_exit_ne rfl ?_
    | (with_reducible refine And.intro (by (first | with_reducible rfl | with_reducible assumption | omega | (simp only [LN]; first | done | with_reducible rfl | omega) | (simp only [NM, LN]; first | done | with_reducible assumption | omega) | (and_intros <;> first | with_reducible assumption | omega | (simp only [LN]; omega)) | fail)) ?_)
    | ((with_reducible refine AWP.condG (T := TT) (b := ?_) ?_ ?_); rotate_left; exact rfl)
    | with_reducible refine CondG.t ?_
    | with_reducible refine CondG.f ?_
    | with_reducible refine CondG.not ?_
    | ((first | with_reducible refine CondG.isT ?_ ?_); focus (first | with_reducible rfl | with_reducible assumption | (simp only [NM, LN]; first | done | with_reducible assumption | omega)))
    | ((first | with_reducible refine CondG.isF ?_ ?_); focus (first | with_reducible rfl | with_reducible assumption | (simp only [NM, LN]; first | done | with_reducible assumption | omega)))
    | ((with_reducible refine CondG.split (fun h => ?_) (fun h => ?_)) <;> (try simp only [NM] at h)))
  refine AWP.loop (ι := {p : Nat × Row // p.1 ≤ f.cols.length ∧ p.2.length = p.1 ∧ refKey r f.cols = (refKey r (f.cols.drop p.1)).map (p.2 ++ ·)}) (fun p => ⟨63, [(9, .v (.one (.ptr 9 0))), (10, .v (.one (eRows (instTbl s i f.ref).2))), (3, .v (.one (eRow r))), (11, .v (.one (.ref 11 0 p.1.1))), (25, .v (.one (eInts f.cols))), (26, .v (oI f.cols.length)), (27, .v (oI p.1.1))], [(9, eTbl (instTbl s i f.ref).1)], [(11, ⟨3, p.1.2.map eVal, []⟩)]⟩) (fun p => f.cols.length - p.1.1) ⟨(0, []), Nat.zero_le _, rfl, by simp⟩ ?_ fun ⟨(k, pre), hkl, hpl, hi⟩ => ?_
  · exact St.le_mk (by simp only [LE, EN, Nat.reduceEqDiff, reduceIte, Nat.reduceSub, eTbl]) (by simp only [LE, EN, Nat.reduceEqDiff, reduceIte, Nat.reduceSub, eTbl]) (by simp only [LE, EN, Nat.reduceEqDiff, reduceIte, Nat.reduceSub, eTbl])
  simp only at hkl hpl hi
  rcases Nat.lt_or_ge k f.cols.length with hc | hc
  · rw [List.drop_eq_getElem_cons hc, refKey] at hi
    repeat' (first
      | ((first
        | with_reducible refine AWP.regionL tyOk fun K hK => ?_
        | ((first | with_reducible refine GOn.isT ?_ ?_ | with_reducible refine HOn.isT ?_ ?_ | with_reducible refine pickK.isT ?_ ?_); focus (first | with_reducible rfl | with_reducible assumption | (simp only [NM, LN]; first | done | with_reducible assumption | omega)))
        | ((first | with_reducible refine GOn.isF ?_ ?_ | with_reducible refine HOn.isF ?_ ?_ | with_reducible refine pickK.isF ?_ ?_); focus (first | with_reducible rfl | with_reducible assumption | (simp only [NM, LN]; first | done | with_reducible assumption | omega)))
        | ((first | with_reducible refine GOn.split (fun h => ?_) (fun h => ?_) | with_reducible refine HOn.split (fun h => ?_) (fun h => ?_) | with_reducible refine pickK.split (fun h => ?_) (fun h => ?_)) <;> (try simp only [NM] at h))) <;> simp -dsimp (disch := (first | omega | (simp only [LN]; omega))) only [go_sem, ↓reduceIte, Nat.reduceLT, Nat.reduceLeDiff, Nat.reduceEqDiff, Nat.reduceAdd, Nat.reduceMul, Nat.reduceSub, Nat.reduceBEq, Nat.reduceBNe, Int.reduceBEq, Int.reduceLT, Int.reduceLE, reduceCtorEq, Int.reduceToNat, hpl])
      | ((with_reducible refine hK _ ?_); clear hK K)
      | with_reducible refine AWP.seq ?_
      | with_reducible refine thenQ_normal ?_
      | with_reducible refine AWP.block ?_
      | with_reducible refine AWP.skip ?_
      | with_reducible refine AWP.ret ?_
      | with_reducible refine thenQ_ret ?_
      | with_reducible refine blockQ_ret ?_
      | with_reducible refine AWP.exit ?_
      | with_reducible refine thenQ_exit ?_
      | with_reducible refine blockQ_normal ?_
      | with_reducible refine blockQ_exit ?_
      | refine blockQ_exit_ne rfl ?_
      | (with_reducible refine And.intro (by (first | with_reducible rfl | with_reducible assumption | omega | (simp only [LN]; first | done | with_reducible rfl | omega) | (simp only [NM, LN]; first | done | with_reducible assumption | omega) | (and_intros <;> first | with_reducible assumption | omega | (simp only [LN]; omega)) | fail)) ?_)
      | ((with_reducible refine AWP.condG (T := TT) (b := ?_) ?_ ?_); rotate_left; exact rfl)
      | with_reducible refine CondG.t ?_
      | with_reducible refine CondG.f ?_
      | with_reducible refine CondG.not ?_
      | ((first | with_reducible refine CondG.isT ?_ ?_); focus (first | with_reducible rfl | with_reducible assumption | (simp only [NM, LN]; first | done | with_reducible assumption | omega)))
      | ((first | with_reducible refine CondG.isF ?_ ?_); focus (first | with_reducible rfl | with_reducible assumption | (simp only [NM, LN]; first | done | with_reducible assumption | omega)))
      | ((with_reducible refine CondG.split (fun h => ?_) (fun h => ?_)) <;> (try simp only [NM] at h)))
    · rw [if_pos (by omega)] at hi
      simp -dsimp (disch := (first | omega | (simp only [LN]; omega))) only [retQ, Try.results78, resVals, cellRV, resOf, St.rest, St.freeze, RT, go_sem, ↓reduceIte, Nat.reduceLT, Nat.reduceLeDiff, Nat.reduceEqDiff, Nat.reduceAdd, Nat.reduceMul, Nat.reduceSub, Nat.reduceBEq, Nat.reduceBNe, Int.reduceBEq, Int.reduceLT, Int.reduceLE, reduceCtorEq, Int.reduceToNat]
      simp [refOk, hi]
    · rw [if_pos (by omega)] at hi
      simp -dsimp (disch := (first | omega | (simp only [LN]; omega))) only [retQ, Try.results78, resVals, cellRV, resOf, St.rest, St.freeze, RT, go_sem, ↓reduceIte, Nat.reduceLT, Nat.reduceLeDiff, Nat.reduceEqDiff, Nat.reduceAdd, Nat.reduceMul, Nat.reduceSub, Nat.reduceBEq, Nat.reduceBNe, Int.reduceBEq, Int.reduceLT, Int.reduceLE, reduceCtorEq, Int.reduceToNat]
      simp [refOk, hi]
    · have h2' : f.cols[k].toNat < r.length := by omega
      rw [getD_lt _ h2', if_pos (by omega)] at hi
      simp -dsimp (disch := (first | omega | (simp only [LN]; omega))) only [retQ, Try.results78, resVals, cellRV, resOf, St.rest, St.freeze, RT, go_sem, ↓reduceIte, Nat.reduceLT, Nat.reduceLeDiff, Nat.reduceEqDiff, Nat.reduceAdd, Nat.reduceMul, Nat.reduceSub, Nat.reduceBEq, Nat.reduceBNe, Int.reduceBEq, Int.reduceLT, Int.reduceLE, reduceCtorEq, Int.reduceToNat]
      simp [refOk, hi]
    · have h2' : f.cols[k].toNat < r.length := by omega
      rw [getD_lt _ h2', if_neg (by omega)] at hi
      refine ⟨⟨(k + 1, pre ++ [r[f.cols[k].toNat]'h2']), by simp only; omega, by simp [hpl], ?_⟩, by simp only; omega, ?_⟩
      · rw [hi]
        cases refKey r (f.cols.drop (k + 1)) <;> simp
      · exact St.le_mk (by simp only [LE, EN, Nat.reduceEqDiff, reduceIte, Nat.reduceSub, eTbl]) (by simp only [LE, EN, Nat.reduceEqDiff, reduceIte, Nat.reduceSub, eTbl]) (by simp only [LE, EN, Nat.reduceEqDiff, reduceIte, Nat.reduceSub, eTbl])
  · rw [List.drop_of_length_le hc, refKey] at hi
    have hk : pre.length ≤ 140737488355328 := by omega
    have hi' : refKey r f.cols = some pre := by rw [hi]; simp
    repeat' (first
      | ((first
        | with_reducible refine AWP.regionL tyOk fun K hK => ?_
        | ((first | with_reducible refine GOn.isT ?_ ?_ | with_reducible refine HOn.isT ?_ ?_ | with_reducible refine pickK.isT ?_ ?_); focus (first | with_reducible rfl | with_reducible assumption | (simp only [NM, LN]; first | done | with_reducible assumption | omega)))
        | ((first | with_reducible refine GOn.isF ?_ ?_ | with_reducible refine HOn.isF ?_ ?_ | with_reducible refine pickK.isF ?_ ?_); focus (first | with_reducible rfl | with_reducible assumption | (simp only [NM, LN]; first | done | with_reducible assumption | omega)))
        | ((first | with_reducible refine GOn.split (fun h => ?_) (fun h => ?_) | with_reducible refine HOn.split (fun h => ?_) (fun h => ?_) | with_reducible refine pickK.split (fun h => ?_) (fun h => ?_)) <;> (try simp only [NM] at h))
        | ((with_reducible refine CallJ.is ?_); (first | refine CallJ.pure (find_sat (instTbl s i f.ref).1 (instTbl s i f.ref).2 pre h6 h7 hk) ?_ | ((first | refine CallJ.lent (find_sat (instTbl s i f.ref).1 (instTbl s i f.ref).2 pre h6 h7 hk) ?_ ?_; focus (simp -dsimp (disch := (first | omega | (simp only [LN]; omega))) only [go_sem, ↓reduceIte, Nat.reduceLT, Nat.reduceLeDiff, Nat.reduceEqDiff, Nat.reduceAdd, Nat.reduceMul, Nat.reduceSub, Nat.reduceBEq, Nat.reduceBNe, Int.reduceBEq, Int.reduceLT, Int.reduceLE, reduceCtorEq, Int.reduceToNat, hpl]; done)))))
        | ((with_reducible refine CallH.is ?_); (first | refine CallH.intro (find_sat (instTbl s i f.ref).1 (instTbl s i f.ref).2 pre h6 h7 hk) ?_))) <;> simp -dsimp (disch := (first | omega | (simp only [LN]; omega))) only [go_sem, ↓reduceIte, Nat.reduceLT, Nat.reduceLeDiff, Nat.reduceEqDiff, Nat.reduceAdd, Nat.reduceMul, Nat.reduceSub, Nat.reduceBEq, Nat.reduceBNe, Int.reduceBEq, Int.reduceLT, Int.reduceLE, reduceCtorEq, Int.reduceToNat, hpl])
      | ((with_reducible refine hK _ ?_); clear hK K)
      | with_reducible refine AWP.seq ?_
      | with_reducible refine thenQ_normal ?_
      | with_reducible refine AWP.block ?_
      | with_reducible refine AWP.skip ?_
      | with_reducible refine AWP.ret ?_
      | with_reducible refine thenQ_ret ?_
      | with_reducible refine blockQ_ret ?_
      | with_reducible refine AWP.exit ?_
      | with_reducible refine thenQ_exit ?_
      | with_reducible refine blockQ_normal ?_
      | with_reducible refine blockQ_exit ?_
      | refine blockQ_exit_ne rfl ?_
      | (with_reducible refine And.intro (by (first | with_reducible rfl | with_reducible assumption | omega | (simp only [LN]; first | done | with_reducible rfl | omega) | (simp only [NM, LN]; first | done | with_reducible assumption | omega) | (and_intros <;> first | with_reducible assumption | omega | (simp only [LN]; omega)) | fail)) ?_)
      | ((with_reducible refine AWP.condG (T := TT) (b := ?_) ?_ ?_); rotate_left; exact rfl)
      | with_reducible refine CondG.t ?_
      | with_reducible refine CondG.f ?_
      | with_reducible refine CondG.not ?_
      | ((first | with_reducible refine CondG.isT ?_ ?_); focus (first | with_reducible rfl | with_reducible assumption | (simp only [NM, LN]; first | done | with_reducible assumption | omega)))
      | ((first | with_reducible refine CondG.isF ?_ ?_); focus (first | with_reducible rfl | with_reducible assumption | (simp only [NM, LN]; first | done | with_reducible assumption | omega)))
      | ((with_reducible refine CondG.split (fun h => ?_) (fun h => ?_)) <;> (try simp only [NM] at h)))
    simp -dsimp (disch := (first | omega | (simp only [LN]; omega))) only [retQ, Try.results78, resVals, cellRV, resOf, St.rest, St.freeze, RT, go_sem, ↓reduceIte, Nat.reduceLT, Nat.reduceLeDiff, Nat.reduceEqDiff, Nat.reduceAdd, Nat.reduceMul, Nat.reduceSub, Nat.reduceBEq, Nat.reduceBNe, Int.reduceBEq, Int.reduceLT, Int.reduceLE, reduceCtorEq, Int.reduceToNat]
    simp [refOk, hi']

/-- Bounds that an instance's checks ask. -/
structure Bounds (s : Sch) (i : Inst) : Prop where
  tables : s.tables.length ≤ 140737488355328
  table : ∀ t ∈ s.tables, t.cols.length ≤ 1099511627776 ∧ t.pk.length ≤ 1099511627776
  fk : ∀ f ∈ s.fks, f.cols.length ≤ 1099511627776
  rel : ∀ r ∈ i, r.rows.length ≤ 1099511627776 ∧ ∀ x ∈ r.rows, x.length ≤ 1099511627776
/-- The same, ahead of the check: what the reach gives. -/
structure Bounds0 (s : Sch) (i : Inst) : Prop where
  tables : s.tables.length ≤ 140737488355328
  table : ∀ t ∈ s.tables, t.cols.length ≤ 1099511627776 ∧ t.pk.length ≤ 1099511627776
  fk : ∀ f ∈ s.fks, f.cols.length ≤ 1099511627776
  fks : s.fks.length ≤ 140737488355328
  cons : s.cons.length ≤ 140737488355328
  rel : ∀ r ∈ i, r.rows.length ≤ 140737488355328 ∧ ∀ x ∈ r.rows, x.length ≤ 140737488355328
theorem instTbl_bounds {s : Sch} {i : Inst} (h : Bounds s i) (name : ByteArray) : (instTbl s i name).1.pk.length ≤ 1099511627776 ∧ (instTbl s i name).2.length ≤ 1099511627776 ∧ ∀ x ∈ (instTbl s i name).2, x.length ≤ 1099511627776 := by
  unfold instTbl
  split
  · exact ⟨by simp, by simp, fun x hx => by simp at hx⟩
  · rename_i h0
    refine ⟨?_, ?_⟩
    · rcases Nat.lt_or_ge (tblAt s.tables name).toNat s.tables.length with hl | hl
      · simp only [getD_lt _ hl]
        exact (h.table _ (List.getElem_mem hl)).2
      · simp [List.getD, List.getElem?_eq_none hl, zTbl]
    · split
      · exact ⟨by simp, fun x hx => by simp at hx⟩
      · rename_i h1
        have hl : (tblAt s.tables name).toNat < i.length := by omega
        simp only [getD_lt _ hl]
        exact h.rel _ (List.getElem_mem hl)

theorem validate1i_sat (s : Sch) (i : Inst) (f : FK) (x : Row) (h : Bounds s i) (hf : f.cols.length ≤ 1099511627776) (hx : x.length ≤ 140737488355328) :
    Sat Try.prog 77 [.one (eRow x), .one (.fz (eSch s)), .one (.fz [eInst i]), .one (.fz (eFK f))] (.v (oB (!refOk s i f x))) := by
  obtain ⟨b1, b2, _⟩ := instTbl_bounds h f.ref
  refine sat_of_body tyOk Try.func77 rfl (by kernel_rfl) ⟨Nat.le_of_ble_eq_true rfl, Nat.le_of_ble_eq_true rfl⟩ fun w0 m0 F0 => ?_
  simp only [Try.ntmps77, envOf, Nat.reduceAdd]
  repeat' (first
    | ((first
      | with_reducible refine AWP.regionL tyOk fun K hK => ?_
      | ((first | with_reducible refine GOn.isT ?_ ?_ | with_reducible refine HOn.isT ?_ ?_ | with_reducible refine pickK.isT ?_ ?_); focus (first | with_reducible rfl | with_reducible assumption | (simp only [NM, LN]; first | done | with_reducible assumption | omega)))
      | ((first | with_reducible refine GOn.isF ?_ ?_ | with_reducible refine HOn.isF ?_ ?_ | with_reducible refine pickK.isF ?_ ?_); focus (first | with_reducible rfl | with_reducible assumption | (simp only [NM, LN]; first | done | with_reducible assumption | omega)))
      | ((first | with_reducible refine GOn.split (fun h => ?_) (fun h => ?_) | with_reducible refine HOn.split (fun h => ?_) (fun h => ?_) | with_reducible refine pickK.split (fun h => ?_) (fun h => ?_)) <;> (try simp only [NM] at h))
      | with_reducible refine AWP.drawAll tyOk mixed 6 (by kernel_rfl) fun K hK => ?_
      | ((with_reducible refine CallJ.is ?_); (first | refine CallJ.pure (references_sat s i f x h.tables h.table h.rel hf hx b1 (by omega)) ?_ | ((first | refine CallJ.lent (references_sat s i f x h.tables h.table h.rel hf hx b1 (by omega)) ?_ ?_; focus (simp -dsimp (disch := (first | omega | (simp only [LN]; omega))) only [go_sem, ↓reduceIte, Nat.reduceLT, Nat.reduceLeDiff, Nat.reduceEqDiff, Nat.reduceAdd, Nat.reduceMul, Nat.reduceSub, Nat.reduceBEq, Nat.reduceBNe, Int.reduceBEq, Int.reduceLT, Int.reduceLE, reduceCtorEq, Int.reduceToNat]; done)))))
      | ((with_reducible refine CallH.is ?_); (first | refine CallH.intro (references_sat s i f x h.tables h.table h.rel hf hx b1 (by omega)) ?_))) <;> simp -dsimp (disch := (first | omega | (simp only [LN]; omega))) only [go_sem, ↓reduceIte, Nat.reduceLT, Nat.reduceLeDiff, Nat.reduceEqDiff, Nat.reduceAdd, Nat.reduceMul, Nat.reduceSub, Nat.reduceBEq, Nat.reduceBNe, Int.reduceBEq, Int.reduceLT, Int.reduceLE, reduceCtorEq, Int.reduceToNat])
    | ((with_reducible refine hK _ ?_); clear hK K)
    | with_reducible refine AWP.seq ?_
    | with_reducible refine thenQ_normal ?_
    | with_reducible refine AWP.block ?_
    | with_reducible refine AWP.skip ?_
    | with_reducible refine AWP.ret ?_
    | with_reducible refine thenQ_ret ?_
    | with_reducible refine blockQ_ret ?_
    | with_reducible refine AWP.exit ?_
    | with_reducible refine thenQ_exit ?_
    | with_reducible refine blockQ_normal ?_
    | with_reducible refine blockQ_exit ?_
    | refine blockQ_exit_ne rfl ?_
    | (with_reducible refine And.intro (by (first | with_reducible rfl | with_reducible assumption | omega | (simp only [LN]; first | done | with_reducible rfl | omega) | (simp only [NM, LN]; first | done | with_reducible assumption | omega) | (and_intros <;> first | with_reducible assumption | omega | (simp only [LN]; omega)) | fail)) ?_)
    | ((with_reducible refine AWP.condG (T := TT) (b := ?_) ?_ ?_); rotate_left; exact rfl)
    | with_reducible refine CondG.t ?_
    | with_reducible refine CondG.f ?_
    | with_reducible refine CondG.not ?_
    | ((first | with_reducible refine CondG.isT ?_ ?_); focus (first | with_reducible rfl | with_reducible assumption | (simp only [NM, LN]; first | done | with_reducible assumption | omega)))
    | ((first | with_reducible refine CondG.isF ?_ ?_); focus (first | with_reducible rfl | with_reducible assumption | (simp only [NM, LN]; first | done | with_reducible assumption | omega)))
    | ((with_reducible refine CondG.split (fun h => ?_) (fun h => ?_)) <;> (try simp only [NM] at h)))
  simp -dsimp (disch := (first | omega | (simp only [LN]; omega))) only [retQ, Try.results77, resVals, cellRV, resOf, St.rest, St.freeze, RT, go_sem, ↓reduceIte, Nat.reduceLT, Nat.reduceLeDiff, Nat.reduceEqDiff, Nat.reduceAdd, Nat.reduceMul, Nat.reduceSub, Nat.reduceBEq, Nat.reduceBNe, Int.reduceBEq, Int.reduceLT, Int.reduceLE, reduceCtorEq, Int.reduceToNat]
theorem validate2i_sat (c : Con) (x : Row) (hx : x.length ≤ 140737488355328) : Sat Try.prog 79 [.one (eRow x), .one (.fz (eCon c))] (.v (oB (!holdsC c x))) := by
  refine sat_of_body tyOk Try.func79 rfl (by kernel_rfl) ⟨Nat.le_of_ble_eq_true rfl, Nat.le_of_ble_eq_true rfl⟩ fun w0 m0 F0 => ?_
  simp only [Try.ntmps79, envOf, Nat.reduceAdd]
  repeat' (first
    | ((first
      | with_reducible refine AWP.regionL tyOk fun K hK => ?_
      | ((first | with_reducible refine GOn.isT ?_ ?_ | with_reducible refine HOn.isT ?_ ?_ | with_reducible refine pickK.isT ?_ ?_); focus (first | with_reducible rfl | with_reducible assumption | (simp only [NM, LN]; first | done | with_reducible assumption | omega)))
      | ((first | with_reducible refine GOn.isF ?_ ?_ | with_reducible refine HOn.isF ?_ ?_ | with_reducible refine pickK.isF ?_ ?_); focus (first | with_reducible rfl | with_reducible assumption | (simp only [NM, LN]; first | done | with_reducible assumption | omega)))
      | ((first | with_reducible refine GOn.split (fun h => ?_) (fun h => ?_) | with_reducible refine HOn.split (fun h => ?_) (fun h => ?_) | with_reducible refine pickK.split (fun h => ?_) (fun h => ?_)) <;> (try simp only [NM] at h))
      | with_reducible refine AWP.drawAll tyOk mixed 6 (by kernel_rfl) fun K hK => ?_
      | ((with_reducible refine CallJ.is ?_); (first | refine CallJ.pure (instSatisfies_sat c x hx) ?_ | ((first | refine CallJ.lent (instSatisfies_sat c x hx) ?_ ?_; focus (simp -dsimp (disch := (first | omega | (simp only [LN]; omega))) only [go_sem, ↓reduceIte, Nat.reduceLT, Nat.reduceLeDiff, Nat.reduceEqDiff, Nat.reduceAdd, Nat.reduceMul, Nat.reduceSub, Nat.reduceBEq, Nat.reduceBNe, Int.reduceBEq, Int.reduceLT, Int.reduceLE, reduceCtorEq, Int.reduceToNat]; done)))))
      | ((with_reducible refine CallH.is ?_); (first | refine CallH.intro (instSatisfies_sat c x hx) ?_))) <;> simp -dsimp (disch := (first | omega | (simp only [LN]; omega))) only [go_sem, ↓reduceIte, Nat.reduceLT, Nat.reduceLeDiff, Nat.reduceEqDiff, Nat.reduceAdd, Nat.reduceMul, Nat.reduceSub, Nat.reduceBEq, Nat.reduceBNe, Int.reduceBEq, Int.reduceLT, Int.reduceLE, reduceCtorEq, Int.reduceToNat])
    | ((with_reducible refine hK _ ?_); clear hK K)
    | with_reducible refine AWP.seq ?_
    | with_reducible refine thenQ_normal ?_
    | with_reducible refine AWP.block ?_
    | with_reducible refine AWP.skip ?_
    | with_reducible refine AWP.ret ?_
    | with_reducible refine thenQ_ret ?_
    | with_reducible refine blockQ_ret ?_
    | with_reducible refine AWP.exit ?_
    | with_reducible refine thenQ_exit ?_
    | with_reducible refine blockQ_normal ?_
    | with_reducible refine blockQ_exit ?_
    | refine blockQ_exit_ne rfl ?_
    | (with_reducible refine And.intro (by (first | with_reducible rfl | with_reducible assumption | omega | (simp only [LN]; first | done | with_reducible rfl | omega) | (simp only [NM, LN]; first | done | with_reducible assumption | omega) | (and_intros <;> first | with_reducible assumption | omega | (simp only [LN]; omega)) | fail)) ?_)
    | ((with_reducible refine AWP.condG (T := TT) (b := ?_) ?_ ?_); rotate_left; exact rfl)
    | with_reducible refine CondG.t ?_
    | with_reducible refine CondG.f ?_
    | with_reducible refine CondG.not ?_
    | ((first | with_reducible refine CondG.isT ?_ ?_); focus (first | with_reducible rfl | with_reducible assumption | (simp only [NM, LN]; first | done | with_reducible assumption | omega)))
    | ((first | with_reducible refine CondG.isF ?_ ?_); focus (first | with_reducible rfl | with_reducible assumption | (simp only [NM, LN]; first | done | with_reducible assumption | omega)))
    | ((with_reducible refine CondG.split (fun h => ?_) (fun h => ?_)) <;> (try simp only [NM] at h)))
  simp -dsimp (disch := (first | omega | (simp only [LN]; omega))) only [retQ, Try.results79, resVals, cellRV, resOf, St.rest, St.freeze, RT, go_sem, ↓reduceIte, Nat.reduceLT, Nat.reduceLeDiff, Nat.reduceEqDiff, Nat.reduceAdd, Nat.reduceMul, Nat.reduceSub, Nat.reduceBEq, Nat.reduceBNe, Int.reduceBEq, Int.reduceLT, Int.reduceLE, reduceCtorEq, Int.reduceToNat]

/-- instance.Conforms. -/
def pairE (t : Tbl) (rows : List Row) (j : Nat) (x : Row) : Option Int :=
  if rowE t x ≠ 0 then some (rowE t x) else if j = 0 then none else
  if cmpRows (keyOf t.pk (rows.getD ((j : Int) - 1).toNat [])) (keyOf t.pk x) = 0 then some 9 else if 0 < cmpRows (keyOf t.pk (rows.getD ((j : Int) - 1).toNat [])) (keyOf t.pk x) then some 6 else none
def relE (s : Sch) (k : Nat) (r : Rel) : Option Int :=
  if sEq r.table (s.tables.getD k zTbl).name = false then some 3 else if 24 < r.rows.length then some 2 else scan (pairE (s.tables.getD k zTbl) r.rows) r.rows 0
def confE (s : Sch) (i : Inst) : Int :=
  if i.length ≠ s.tables.length then 3 else match scan (relE s) i 0 with
    | some e => e
    | none => 0
set_option maxHeartbeats 16000000 in
theorem conforms_sat (s : Sch) (i : Inst) (hB : Bounds0 s i) (hi : i.length ≤ 140737488355328) : Sat Try.prog 34 [.agg (eSch s), .one (eInst i)] (.v (oI (confE s i))) := by
  refine sat_of_body tyOk Try.func34 rfl (by kernel_rfl) ⟨Nat.le_of_ble_eq_true rfl, Nat.le_of_ble_eq_true rfl⟩ fun w0 m0 F0 => ?_
  simp only [Try.ntmps34, envOf, Nat.reduceAdd]
  repeat' (first
    | ((first
      | with_reducible refine AWP.regionL tyOk fun K hK => ?_
      | ((first | with_reducible refine GOn.isT ?_ ?_ | with_reducible refine HOn.isT ?_ ?_ | with_reducible refine pickK.isT ?_ ?_); focus (first | with_reducible rfl | with_reducible assumption | (simp only [NM, LN]; first | done | with_reducible assumption | omega)))
      | ((first | with_reducible refine GOn.isF ?_ ?_ | with_reducible refine HOn.isF ?_ ?_ | with_reducible refine pickK.isF ?_ ?_); focus (first | with_reducible rfl | with_reducible assumption | (simp only [NM, LN]; first | done | with_reducible assumption | omega)))
      | ((first | with_reducible refine GOn.split (fun h => ?_) (fun h => ?_) | with_reducible refine HOn.split (fun h => ?_) (fun h => ?_) | with_reducible refine pickK.split (fun h => ?_) (fun h => ?_)) <;> (try simp only [NM] at h))
      | with_reducible refine AWP.drawAll tyOk mixed 6 (by kernel_rfl) fun K hK => ?_) <;> simp -dsimp (disch := (first | omega | (simp only [LN]; omega))) only [go_sem, ↓reduceIte, Nat.reduceLT, Nat.reduceLeDiff, Nat.reduceEqDiff, Nat.reduceAdd, Nat.reduceMul, Nat.reduceSub, Nat.reduceBEq, Nat.reduceBNe, Int.reduceBEq, Int.reduceLT, Int.reduceLE, reduceCtorEq, Int.reduceToNat])
    | ((with_reducible refine hK _ ?_); clear hK K)
    | with_reducible refine AWP.seq ?_
    | with_reducible refine thenQ_normal ?_
    | with_reducible refine AWP.block ?_
    | with_reducible refine AWP.skip ?_
    | with_reducible refine AWP.ret ?_
    | with_reducible refine thenQ_ret ?_
    | with_reducible refine blockQ_ret ?_
    | with_reducible refine AWP.exit ?_
    | with_reducible refine thenQ_exit ?_
    | with_reducible refine blockQ_normal ?_
    | with_reducible refine blockQ_exit ?_
    | refine blockQ_exit_ne rfl ?_
    | (with_reducible refine And.intro (by (first | with_reducible rfl | with_reducible assumption | omega | (simp only [LN]; first | done | with_reducible rfl | omega) | (simp only [NM, LN]; first | done | with_reducible assumption | omega) | (and_intros <;> first | with_reducible assumption | omega | (simp only [LN]; omega)) | fail)) ?_)
    | ((with_reducible refine AWP.condG (T := TT) (b := ?_) ?_ ?_); rotate_left; exact rfl)
    | with_reducible refine CondG.t ?_
    | with_reducible refine CondG.f ?_
    | with_reducible refine CondG.not ?_
    | ((first | with_reducible refine CondG.isT ?_ ?_); focus (first | with_reducible rfl | with_reducible assumption | (simp only [NM, LN]; first | done | with_reducible assumption | omega)))
    | ((first | with_reducible refine CondG.isF ?_ ?_); focus (first | with_reducible rfl | with_reducible assumption | (simp only [NM, LN]; first | done | with_reducible assumption | omega)))
    | ((with_reducible refine CondG.split (fun h => ?_) (fun h => ?_)) <;> (try simp only [NM] at h)))
  rotate_left
  · simp -dsimp (disch := (first | omega | (simp only [LN]; omega))) only [retQ, Try.results34, resVals, cellRV, resOf, St.rest, St.freeze, RT, go_sem, ↓reduceIte, Nat.reduceLT, Nat.reduceLeDiff, Nat.reduceEqDiff, Nat.reduceAdd, Nat.reduceMul, Nat.reduceSub, Nat.reduceBEq, Nat.reduceBNe, Int.reduceBEq, Int.reduceLT, Int.reduceLE, reduceCtorEq, Int.reduceToNat]
    have : i.length ≠ s.tables.length := by omega
    simp [confE, this]
  have hl : i.length = s.tables.length := by omega
  have spec : confE s i = match scan (relE s) i 0 with
    | some e => e
    | none => 0 := by simp [confE, hl]
  rw [spec]
  refine AWP.loop (ι := {k : Nat // k ≤ i.length ∧ scan (relE s) (i.drop k) k = scan (relE s) i 0}) (fun k => ⟨75, [(2, .v (.one (.ptr 2 0))), (18, .v (.one (eInst i))), (19, .v (oI i.length)), (20, .v (oI k.1))], [(2, eSch s)], []⟩) (fun k => i.length - k.1) ⟨0, Nat.zero_le _, rfl⟩ ?_ fun ⟨k, hkl, hi⟩ => ?_
  · exact St.le_mk (by simp only [LE, EN, Nat.reduceEqDiff, reduceIte, Nat.reduceSub, eSch]) (by simp only [LE, EN, Nat.reduceEqDiff, reduceIte, Nat.reduceSub, eSch]) (by simp only [LE, EN, Nat.reduceEqDiff, reduceIte, Nat.reduceSub, eSch])
  rcases Nat.lt_or_ge k i.length with hc | hc
  · have hcs : k < s.tables.length := by omega
    repeat' (first
      | ((first
        | with_reducible refine AWP.regionL tyOk fun K hK => ?_
        | ((first | with_reducible refine GOn.isT ?_ ?_ | with_reducible refine HOn.isT ?_ ?_ | with_reducible refine pickK.isT ?_ ?_); focus (first | with_reducible rfl | with_reducible assumption | (simp only [NM, LN]; first | done | with_reducible assumption | omega)))
        | ((first | with_reducible refine GOn.isF ?_ ?_ | with_reducible refine HOn.isF ?_ ?_ | with_reducible refine pickK.isF ?_ ?_); focus (first | with_reducible rfl | with_reducible assumption | (simp only [NM, LN]; first | done | with_reducible assumption | omega)))
        | ((first | with_reducible refine GOn.split (fun h => ?_) (fun h => ?_) | with_reducible refine HOn.split (fun h => ?_) (fun h => ?_) | with_reducible refine pickK.split (fun h => ?_) (fun h => ?_)) <;> (try simp only [NM] at h))
        | with_reducible refine AWP.drawAll tyOk mixed 6 (by kernel_rfl) fun K hK => ?_) <;> simp -dsimp (disch := (first | omega | (simp only [LN]; omega))) only [go_sem, ↓reduceIte, Nat.reduceLT, Nat.reduceLeDiff, Nat.reduceEqDiff, Nat.reduceAdd, Nat.reduceMul, Nat.reduceSub, Nat.reduceBEq, Nat.reduceBNe, Int.reduceBEq, Int.reduceLT, Int.reduceLE, reduceCtorEq, Int.reduceToNat])
      | ((with_reducible refine hK _ ?_); clear hK K)
      | with_reducible refine AWP.seq ?_
      | with_reducible refine thenQ_normal ?_
      | with_reducible refine AWP.block ?_
      | with_reducible refine AWP.skip ?_
      | with_reducible refine AWP.ret ?_
      | with_reducible refine thenQ_ret ?_
      | with_reducible refine blockQ_ret ?_
      | with_reducible refine AWP.exit ?_
      | with_reducible refine thenQ_exit ?_
      | with_reducible refine blockQ_normal ?_
      | with_reducible refine blockQ_exit ?_
      | refine blockQ_exit_ne rfl ?_
      | (with_reducible refine And.intro (by (first | with_reducible rfl | with_reducible assumption | omega | (simp only [LN]; first | done | with_reducible rfl | omega) | (simp only [NM, LN]; first | done | with_reducible assumption | omega) | (and_intros <;> first | with_reducible assumption | omega | (simp only [LN]; omega)) | fail)) ?_)
      | ((with_reducible refine AWP.condG (T := TT) (b := ?_) ?_ ?_); rotate_left; exact rfl)
      | with_reducible refine CondG.t ?_
      | with_reducible refine CondG.f ?_
      | with_reducible refine CondG.not ?_
      | ((first | with_reducible refine CondG.isT ?_ ?_); focus (first | with_reducible rfl | with_reducible assumption | (simp only [NM, LN]; first | done | with_reducible assumption | omega)))
      | ((first | with_reducible refine CondG.isF ?_ ?_); focus (first | with_reducible rfl | with_reducible assumption | (simp only [NM, LN]; first | done | with_reducible assumption | omega)))
      | ((with_reducible refine CondG.split (fun h => ?_) (fun h => ?_)) <;> (try simp only [NM] at h)))
    rotate_left
    rotate_left
    · have hs : relE s k i[k] = some 3 := by
        simp (disch := omega) only [relE, getD_lt]
        rw [if_pos]
        simp_all [sEq]
      simp -dsimp (disch := (first | omega | (simp only [LN]; omega))) only [retQ, Try.results34, resVals, cellRV, resOf, St.rest, St.freeze, RT, go_sem, ↓reduceIte, Nat.reduceLT, Nat.reduceLeDiff, Nat.reduceEqDiff, Nat.reduceAdd, Nat.reduceMul, Nat.reduceSub, Nat.reduceBEq, Nat.reduceBNe, Int.reduceBEq, Int.reduceLT, Int.reduceLE, reduceCtorEq, Int.reduceToNat]
      rw [scan_leaf (by omega) hs hi]
    · have hs : relE s k i[k] = some 2 := by
        simp (disch := omega) only [relE, getD_lt]
        rw [if_neg (by simp_all [sEq]), if_pos (by omega)]
      simp -dsimp (disch := (first | omega | (simp only [LN]; omega))) only [retQ, Try.results34, resVals, cellRV, resOf, St.rest, St.freeze, RT, go_sem, ↓reduceIte, Nat.reduceLT, Nat.reduceLeDiff, Nat.reduceEqDiff, Nat.reduceAdd, Nat.reduceMul, Nat.reduceSub, Nat.reduceBEq, Nat.reduceBNe, Int.reduceBEq, Int.reduceLT, Int.reduceLE, reduceCtorEq, Int.reduceToNat]
      rw [scan_leaf (by omega) hs hi]
    have hrel : relE s k i[k] = scan (pairE s.tables[k] i[k].rows) i[k].rows 0 := by
      simp (disch := omega) only [relE, getD_lt]
      rw [if_neg (by simp_all [sEq]), if_neg (by omega)]
    obtain ⟨t1, t2⟩ := hB.table _ (List.getElem_mem hcs)
    obtain ⟨r1, r2⟩ := hB.rel _ (List.getElem_mem hc)
    refine AWP.loop (ι := {j : Nat // j ≤ i[k].rows.length ∧ scan (pairE s.tables[k] i[k].rows) (i[k].rows.drop j) j = scan (pairE s.tables[k] i[k].rows) i[k].rows 0}) (fun j => ⟨75, [(2, .v (.one (.ptr 2 0))), (18, .v (.one (eInst i))), (19, .v (oI i.length)), (20, .v (oI k)), (6, .v (.one (.ptr 6 0))), (7, .v (.one (.ptr 7 0))), (40, .v (.one (eRows i[k].rows))), (41, .v (oI i[k].rows.length)), (42, .v (oI j.1))], [(7, eTbl s.tables[k]), (6, eRel i[k]), (2, eSch s)], []⟩) (fun j => i[k].rows.length - j.1) ⟨0, Nat.zero_le _, rfl⟩ ?_ fun ⟨j, hjl, hj⟩ => ?_
    · exact St.le_mk (by simp only [LE, EN, Nat.reduceEqDiff, reduceIte, Nat.reduceSub, eSch, eTbl, eRel]) (by simp only [LE, EN, Nat.reduceEqDiff, reduceIte, Nat.reduceSub, eSch, eTbl, eRel]) (by simp only [LE, EN, Nat.reduceEqDiff, reduceIte, Nat.reduceSub, eSch, eTbl, eRel])
    rcases Nat.lt_or_ge j i[k].rows.length with hcj | hcj
    · have x1 := r2 _ (List.getElem_mem hcj)
      rcases Nat.eq_zero_or_pos j with hj0 | hj0
      · repeat' (first
          | ((first
            | with_reducible refine AWP.regionL tyOk fun K hK => ?_
            | ((first | with_reducible refine GOn.isT ?_ ?_ | with_reducible refine HOn.isT ?_ ?_ | with_reducible refine pickK.isT ?_ ?_); focus (first | with_reducible rfl | with_reducible assumption | (simp only [NM, LN]; first | done | with_reducible assumption | omega)))
            | ((first | with_reducible refine GOn.isF ?_ ?_ | with_reducible refine HOn.isF ?_ ?_ | with_reducible refine pickK.isF ?_ ?_); focus (first | with_reducible rfl | with_reducible assumption | (simp only [NM, LN]; first | done | with_reducible assumption | omega)))
            | ((first | with_reducible refine GOn.split (fun h => ?_) (fun h => ?_) | with_reducible refine HOn.split (fun h => ?_) (fun h => ?_) | with_reducible refine pickK.split (fun h => ?_) (fun h => ?_)) <;> (try simp only [NM] at h))
            | with_reducible refine AWP.drawAll tyOk mixed 6 (by kernel_rfl) fun K hK => ?_
            | ((with_reducible refine CallJ.is ?_); (first | refine CallJ.pure (conformsRow_sat s.tables[k] i[k].rows[j] (by omega) (by omega)) ?_ | ((first | refine CallJ.lent (conformsRow_sat s.tables[k] i[k].rows[j] (by omega) (by omega)) ?_ ?_; focus (simp -dsimp (disch := (first | omega | (simp only [LN]; omega))) only [go_sem, ↓reduceIte, Nat.reduceLT, Nat.reduceLeDiff, Nat.reduceEqDiff, Nat.reduceAdd, Nat.reduceMul, Nat.reduceSub, Nat.reduceBEq, Nat.reduceBNe, Int.reduceBEq, Int.reduceLT, Int.reduceLE, reduceCtorEq, Int.reduceToNat]; done)))))
            | ((with_reducible refine CallH.is ?_); (first | refine CallH.intro (conformsRow_sat s.tables[k] i[k].rows[j] (by omega) (by omega)) ?_))) <;> simp -dsimp (disch := (first | omega | (simp only [LN]; omega))) only [go_sem, ↓reduceIte, Nat.reduceLT, Nat.reduceLeDiff, Nat.reduceEqDiff, Nat.reduceAdd, Nat.reduceMul, Nat.reduceSub, Nat.reduceBEq, Nat.reduceBNe, Int.reduceBEq, Int.reduceLT, Int.reduceLE, reduceCtorEq, Int.reduceToNat])
          | ((with_reducible refine hK _ ?_); clear hK K)
          | with_reducible refine AWP.seq ?_
          | with_reducible refine thenQ_normal ?_
          | with_reducible refine AWP.block ?_
          | with_reducible refine AWP.skip ?_
          | with_reducible refine AWP.ret ?_
          | with_reducible refine thenQ_ret ?_
          | with_reducible refine blockQ_ret ?_
          | with_reducible refine AWP.exit ?_
          | with_reducible refine thenQ_exit ?_
          | with_reducible refine blockQ_normal ?_
          | with_reducible refine blockQ_exit ?_
          | refine blockQ_exit_ne rfl ?_
          | (with_reducible refine And.intro (by (first | with_reducible rfl | with_reducible assumption | omega | (simp only [LN]; first | done | with_reducible rfl | omega) | (simp only [NM, LN]; first | done | with_reducible assumption | omega) | (and_intros <;> first | with_reducible assumption | omega | (simp only [LN]; omega)) | fail)) ?_)
          | ((with_reducible refine AWP.condG (T := TT) (b := ?_) ?_ ?_); rotate_left; exact rfl)
          | with_reducible refine CondG.t ?_
          | with_reducible refine CondG.f ?_
          | with_reducible refine CondG.not ?_
          | ((first | with_reducible refine CondG.isT ?_ ?_); focus (first | with_reducible rfl | with_reducible assumption | (simp only [NM, LN]; first | done | with_reducible assumption | omega)))
          | ((first | with_reducible refine CondG.isF ?_ ?_); focus (first | with_reducible rfl | with_reducible assumption | (simp only [NM, LN]; first | done | with_reducible assumption | omega)))
          | ((with_reducible refine CondG.split (fun h => ?_) (fun h => ?_)) <;> (try simp only [NM] at h)))
        all_goals first
          | (have hs : pairE s.tables[k] i[k].rows j i[k].rows[j] = none := by
               (simp (disch := omega) only [pairE, getD_lt]; (repeat' split) <;> first | rfl | with_reducible assumption | omega | (exfalso; omega) | (simp_all; done) | (simp_all; omega))
             refine ⟨⟨j + 1, by omega, by rw [scan_step hcj hs, hj]⟩, by simp only; omega, ?_⟩
             exact St.le_mk (by simp only [LE, EN, Nat.reduceEqDiff, reduceIte, Nat.reduceSub, eSch, eTbl, eRel]) (by simp only [LE, EN, Nat.reduceEqDiff, reduceIte, Nat.reduceSub, eSch, eTbl, eRel]) (by simp only [LE, EN, Nat.reduceEqDiff, reduceIte, Nat.reduceSub, eSch, eTbl, eRel])
             done)
          | (
             simp -dsimp (disch := (first | omega | (simp only [LN]; omega))) only [retQ, Try.results34, resVals, cellRV, resOf, St.rest, St.freeze, RT, go_sem, ↓reduceIte, Nat.reduceLT, Nat.reduceLeDiff, Nat.reduceEqDiff, Nat.reduceAdd, Nat.reduceMul, Nat.reduceSub, Nat.reduceBEq, Nat.reduceBNe, Int.reduceBEq, Int.reduceLT, Int.reduceLE, reduceCtorEq, Int.reduceToNat]
             rw [scan_leaf hc (hrel.trans (scan_leaf hcj ?_ hj)) hi]
             all_goals first
               | with_reducible rfl
               | (
                  (simp (disch := omega) only [pairE, getD_lt]; (repeat' split) <;> first | rfl | with_reducible assumption | omega | (exfalso; omega) | (simp_all; done) | (simp_all; omega))
                  done)
               | rfl
             done)
      · have hjp : j - 1 < i[k].rows.length := by omega
        repeat' (first
          | ((first
            | with_reducible refine AWP.regionL tyOk fun K hK => ?_
            | ((first | with_reducible refine GOn.isT ?_ ?_ | with_reducible refine HOn.isT ?_ ?_ | with_reducible refine pickK.isT ?_ ?_); focus (first | with_reducible rfl | with_reducible assumption | (simp only [NM, LN]; first | done | with_reducible assumption | omega)))
            | ((first | with_reducible refine GOn.isF ?_ ?_ | with_reducible refine HOn.isF ?_ ?_ | with_reducible refine pickK.isF ?_ ?_); focus (first | with_reducible rfl | with_reducible assumption | (simp only [NM, LN]; first | done | with_reducible assumption | omega)))
            | ((first | with_reducible refine GOn.split (fun h => ?_) (fun h => ?_) | with_reducible refine HOn.split (fun h => ?_) (fun h => ?_) | with_reducible refine pickK.split (fun h => ?_) (fun h => ?_)) <;> (try simp only [NM] at h))
            | with_reducible refine AWP.drawAll tyOk mixed 6 (by kernel_rfl) fun K hK => ?_
            | ((with_reducible refine CallJ.is ?_); (first | refine CallJ.pure (conformsRow_sat s.tables[k] i[k].rows[j] (by omega) (by omega)) ?_ | refine CallJ.pure (key_sat s.tables[k] _ t2) ?_ | refine CallJ.pure (compareRows_sat _ _ (by rw [keyOf_length]; omega) (by rw [keyOf_length]; omega)) ?_ | ((first | refine CallJ.lent (conformsRow_sat s.tables[k] i[k].rows[j] (by omega) (by omega)) ?_ ?_; focus (simp -dsimp (disch := (first | omega | (simp only [LN]; omega))) only [go_sem, ↓reduceIte, Nat.reduceLT, Nat.reduceLeDiff, Nat.reduceEqDiff, Nat.reduceAdd, Nat.reduceMul, Nat.reduceSub, Nat.reduceBEq, Nat.reduceBNe, Int.reduceBEq, Int.reduceLT, Int.reduceLE, reduceCtorEq, Int.reduceToNat]; done) | refine CallJ.lent (key_sat s.tables[k] _ t2) ?_ ?_; focus (simp -dsimp (disch := (first | omega | (simp only [LN]; omega))) only [go_sem, ↓reduceIte, Nat.reduceLT, Nat.reduceLeDiff, Nat.reduceEqDiff, Nat.reduceAdd, Nat.reduceMul, Nat.reduceSub, Nat.reduceBEq, Nat.reduceBNe, Int.reduceBEq, Int.reduceLT, Int.reduceLE, reduceCtorEq, Int.reduceToNat]; done) | refine CallJ.lent (compareRows_sat _ _ (by rw [keyOf_length]; omega) (by rw [keyOf_length]; omega)) ?_ ?_; focus (simp -dsimp (disch := (first | omega | (simp only [LN]; omega))) only [go_sem, ↓reduceIte, Nat.reduceLT, Nat.reduceLeDiff, Nat.reduceEqDiff, Nat.reduceAdd, Nat.reduceMul, Nat.reduceSub, Nat.reduceBEq, Nat.reduceBNe, Int.reduceBEq, Int.reduceLT, Int.reduceLE, reduceCtorEq, Int.reduceToNat]; done)))))
            | ((with_reducible refine CallH.is ?_); (first | refine CallH.intro (conformsRow_sat s.tables[k] i[k].rows[j] (by omega) (by omega)) ?_ | refine CallH.intro (key_sat s.tables[k] _ t2) ?_ | refine CallH.intro (compareRows_sat _ _ (by rw [keyOf_length]; omega) (by rw [keyOf_length]; omega)) ?_))) <;> simp -dsimp (disch := (first | omega | (simp only [LN]; omega))) only [go_sem, ↓reduceIte, Nat.reduceLT, Nat.reduceLeDiff, Nat.reduceEqDiff, Nat.reduceAdd, Nat.reduceMul, Nat.reduceSub, Nat.reduceBEq, Nat.reduceBNe, Int.reduceBEq, Int.reduceLT, Int.reduceLE, reduceCtorEq, Int.reduceToNat])
          | ((with_reducible refine hK _ ?_); clear hK K)
          | with_reducible refine AWP.seq ?_
          | with_reducible refine thenQ_normal ?_
          | with_reducible refine AWP.block ?_
          | with_reducible refine AWP.skip ?_
          | with_reducible refine AWP.ret ?_
          | with_reducible refine thenQ_ret ?_
          | with_reducible refine blockQ_ret ?_
          | with_reducible refine AWP.exit ?_
          | with_reducible refine thenQ_exit ?_
          | with_reducible refine blockQ_normal ?_
          | with_reducible refine blockQ_exit ?_
          | refine blockQ_exit_ne rfl ?_
          | (with_reducible refine And.intro (by (first | with_reducible rfl | with_reducible assumption | omega | (simp only [LN]; first | done | with_reducible rfl | omega) | (simp only [NM, LN]; first | done | with_reducible assumption | omega) | (and_intros <;> first | with_reducible assumption | omega | (simp only [LN]; omega)) | fail)) ?_)
          | ((with_reducible refine AWP.condG (T := TT) (b := ?_) ?_ ?_); rotate_left; exact rfl)
          | with_reducible refine CondG.t ?_
          | with_reducible refine CondG.f ?_
          | with_reducible refine CondG.not ?_
          | ((first | with_reducible refine CondG.isT ?_ ?_); focus (first | with_reducible rfl | with_reducible assumption | (simp only [NM, LN]; first | done | with_reducible assumption | omega)))
          | ((first | with_reducible refine CondG.isF ?_ ?_); focus (first | with_reducible rfl | with_reducible assumption | (simp only [NM, LN]; first | done | with_reducible assumption | omega)))
          | ((with_reducible refine CondG.split (fun h => ?_) (fun h => ?_)) <;> (try simp only [NM] at h)))
        all_goals first
          | (have hs : pairE s.tables[k] i[k].rows j i[k].rows[j] = none := by
               (simp (disch := omega) only [pairE, getD_lt]; (repeat' split) <;> first | rfl | with_reducible assumption | omega | (exfalso; omega) | (simp_all; done) | (simp_all; omega))
             refine ⟨⟨j + 1, by omega, by rw [scan_step hcj hs, hj]⟩, by simp only; omega, ?_⟩
             exact St.le_mk (by simp only [LE, EN, Nat.reduceEqDiff, reduceIte, Nat.reduceSub, eSch, eTbl, eRel]) (by simp only [LE, EN, Nat.reduceEqDiff, reduceIte, Nat.reduceSub, eSch, eTbl, eRel]) (by simp only [LE, EN, Nat.reduceEqDiff, reduceIte, Nat.reduceSub, eSch, eTbl, eRel])
             done)
          | (
             simp -dsimp (disch := (first | omega | (simp only [LN]; omega))) only [retQ, Try.results34, resVals, cellRV, resOf, St.rest, St.freeze, RT, go_sem, ↓reduceIte, Nat.reduceLT, Nat.reduceLeDiff, Nat.reduceEqDiff, Nat.reduceAdd, Nat.reduceMul, Nat.reduceSub, Nat.reduceBEq, Nat.reduceBNe, Int.reduceBEq, Int.reduceLT, Int.reduceLE, reduceCtorEq, Int.reduceToNat]
             rw [scan_leaf hc (hrel.trans (scan_leaf hcj ?_ hj)) hi]
             all_goals first
               | with_reducible rfl
               | (
                  (simp (disch := omega) only [pairE, getD_lt]; (repeat' split) <;> first | rfl | with_reducible assumption | omega | (exfalso; omega) | (simp_all; done) | (simp_all; omega))
                  done)
               | rfl
             done)
    · rw [scan_end (by omega)] at hj
      repeat' (first
        | ((first
          | with_reducible refine AWP.regionL tyOk fun K hK => ?_
          | ((first | with_reducible refine GOn.isT ?_ ?_ | with_reducible refine HOn.isT ?_ ?_ | with_reducible refine pickK.isT ?_ ?_); focus (first | with_reducible rfl | with_reducible assumption | (simp only [NM, LN]; first | done | with_reducible assumption | omega)))
          | ((first | with_reducible refine GOn.isF ?_ ?_ | with_reducible refine HOn.isF ?_ ?_ | with_reducible refine pickK.isF ?_ ?_); focus (first | with_reducible rfl | with_reducible assumption | (simp only [NM, LN]; first | done | with_reducible assumption | omega)))
          | ((first | with_reducible refine GOn.split (fun h => ?_) (fun h => ?_) | with_reducible refine HOn.split (fun h => ?_) (fun h => ?_) | with_reducible refine pickK.split (fun h => ?_) (fun h => ?_)) <;> (try simp only [NM] at h))
          | with_reducible refine AWP.drawAll tyOk mixed 6 (by kernel_rfl) fun K hK => ?_) <;> simp -dsimp (disch := (first | omega | (simp only [LN]; omega))) only [go_sem, ↓reduceIte, Nat.reduceLT, Nat.reduceLeDiff, Nat.reduceEqDiff, Nat.reduceAdd, Nat.reduceMul, Nat.reduceSub, Nat.reduceBEq, Nat.reduceBNe, Int.reduceBEq, Int.reduceLT, Int.reduceLE, reduceCtorEq, Int.reduceToNat])
        | ((with_reducible refine hK _ ?_); clear hK K)
        | with_reducible refine AWP.seq ?_
        | with_reducible refine thenQ_normal ?_
        | with_reducible refine AWP.block ?_
        | with_reducible refine AWP.skip ?_
        | with_reducible refine AWP.ret ?_
        | with_reducible refine thenQ_ret ?_
        | with_reducible refine blockQ_ret ?_
        | with_reducible refine AWP.exit ?_
        | with_reducible refine thenQ_exit ?_
        | with_reducible refine blockQ_normal ?_
        | with_reducible refine blockQ_exit ?_
        | refine blockQ_exit_ne rfl ?_
        | (with_reducible refine And.intro (by (first | with_reducible rfl | with_reducible assumption | omega | (simp only [LN]; first | done | with_reducible rfl | omega) | (simp only [NM, LN]; first | done | with_reducible assumption | omega) | (and_intros <;> first | with_reducible assumption | omega | (simp only [LN]; omega)) | fail)) ?_)
        | ((with_reducible refine AWP.condG (T := TT) (b := ?_) ?_ ?_); rotate_left; exact rfl)
        | with_reducible refine CondG.t ?_
        | with_reducible refine CondG.f ?_
        | with_reducible refine CondG.not ?_
        | ((first | with_reducible refine CondG.isT ?_ ?_); focus (first | with_reducible rfl | with_reducible assumption | (simp only [NM, LN]; first | done | with_reducible assumption | omega)))
        | ((first | with_reducible refine CondG.isF ?_ ?_); focus (first | with_reducible rfl | with_reducible assumption | (simp only [NM, LN]; first | done | with_reducible assumption | omega)))
        | ((with_reducible refine CondG.split (fun h => ?_) (fun h => ?_)) <;> (try simp only [NM] at h)))
      have hs : relE s k i[k] = none := by rw [hrel, ← hj]
      refine ⟨⟨k + 1, by omega, by rw [scan_step hc hs, hi]⟩, by simp only; omega, ?_⟩
      exact St.le_mk (by simp only [LE, EN, Nat.reduceEqDiff, reduceIte, Nat.reduceSub, eSch]) (by simp only [LE, EN, Nat.reduceEqDiff, reduceIte, Nat.reduceSub, eSch]) (by simp only [LE, EN, Nat.reduceEqDiff, reduceIte, Nat.reduceSub, eSch])
  · rw [scan_end (by omega)] at hi
    repeat' (first
      | ((first
        | with_reducible refine AWP.regionL tyOk fun K hK => ?_
        | ((first | with_reducible refine GOn.isT ?_ ?_ | with_reducible refine HOn.isT ?_ ?_ | with_reducible refine pickK.isT ?_ ?_); focus (first | with_reducible rfl | with_reducible assumption | (simp only [NM, LN]; first | done | with_reducible assumption | omega)))
        | ((first | with_reducible refine GOn.isF ?_ ?_ | with_reducible refine HOn.isF ?_ ?_ | with_reducible refine pickK.isF ?_ ?_); focus (first | with_reducible rfl | with_reducible assumption | (simp only [NM, LN]; first | done | with_reducible assumption | omega)))
        | ((first | with_reducible refine GOn.split (fun h => ?_) (fun h => ?_) | with_reducible refine HOn.split (fun h => ?_) (fun h => ?_) | with_reducible refine pickK.split (fun h => ?_) (fun h => ?_)) <;> (try simp only [NM] at h))
        | with_reducible refine AWP.drawAll tyOk mixed 6 (by kernel_rfl) fun K hK => ?_) <;> simp -dsimp (disch := (first | omega | (simp only [LN]; omega))) only [go_sem, ↓reduceIte, Nat.reduceLT, Nat.reduceLeDiff, Nat.reduceEqDiff, Nat.reduceAdd, Nat.reduceMul, Nat.reduceSub, Nat.reduceBEq, Nat.reduceBNe, Int.reduceBEq, Int.reduceLT, Int.reduceLE, reduceCtorEq, Int.reduceToNat])
      | ((with_reducible refine hK _ ?_); clear hK K)
      | with_reducible refine AWP.seq ?_
      | with_reducible refine thenQ_normal ?_
      | with_reducible refine AWP.block ?_
      | with_reducible refine AWP.skip ?_
      | with_reducible refine AWP.ret ?_
      | with_reducible refine thenQ_ret ?_
      | with_reducible refine blockQ_ret ?_
      | with_reducible refine AWP.exit ?_
      | with_reducible refine thenQ_exit ?_
      | with_reducible refine blockQ_normal ?_
      | with_reducible refine blockQ_exit ?_
      | refine blockQ_exit_ne rfl ?_
      | (with_reducible refine And.intro (by (first | with_reducible rfl | with_reducible assumption | omega | (simp only [LN]; first | done | with_reducible rfl | omega) | (simp only [NM, LN]; first | done | with_reducible assumption | omega) | (and_intros <;> first | with_reducible assumption | omega | (simp only [LN]; omega)) | fail)) ?_)
      | ((with_reducible refine AWP.condG (T := TT) (b := ?_) ?_ ?_); rotate_left; exact rfl)
      | with_reducible refine CondG.t ?_
      | with_reducible refine CondG.f ?_
      | with_reducible refine CondG.not ?_
      | ((first | with_reducible refine CondG.isT ?_ ?_); focus (first | with_reducible rfl | with_reducible assumption | (simp only [NM, LN]; first | done | with_reducible assumption | omega)))
      | ((first | with_reducible refine CondG.isF ?_ ?_); focus (first | with_reducible rfl | with_reducible assumption | (simp only [NM, LN]; first | done | with_reducible assumption | omega)))
      | ((with_reducible refine CondG.split (fun h => ?_) (fun h => ?_)) <;> (try simp only [NM] at h)))
    simp -dsimp (disch := (first | omega | (simp only [LN]; omega))) only [retQ, Try.results34, resVals, cellRV, resOf, St.rest, St.freeze, RT, go_sem, ↓reduceIte, Nat.reduceLT, Nat.reduceLeDiff, Nat.reduceEqDiff, Nat.reduceAdd, Nat.reduceMul, Nat.reduceSub, Nat.reduceBEq, Nat.reduceBNe, Int.reduceBEq, Int.reduceLT, Int.reduceLE, reduceCtorEq, Int.reduceToNat]
    rw [← hi]
end Go.Bw

namespace Go.Bw
open Go.Proofs
theorem scan_ne {α : Type} {f : Nat → α → Option Int} (h : ∀ k x e, f k x = some e → e ≠ 0) : ∀ {l : List α} {k : Nat} {e : Int}, scan f l k = some e → e ≠ 0
  | [], k, e, he => by cases he
  | x :: l, k, e, he => by
    unfold scan at he
    split at he
    · rename_i e' he'
      injection he with he
      subst he
      exact h _ _ _ he'
    · exact scan_ne h he
theorem scan_all {α : Type} {f : Nat → α → Option Int} : ∀ {l : List α} {k : Nat}, (∀ j, ∀ h : j < l.length, f (k + j) l[j] = none) → scan f l k = none
  | [], _, _ => rfl
  | x :: l, k, h => by
    have h0 := h 0 (by simp)
    simp only [Nat.add_zero, List.getElem_cons_zero] at h0
    rw [scan, h0]
    exact scan_all fun j hj => by
      have := h (j + 1) (by simpa using hj)
      rw [show k + 1 + j = k + (j + 1) by omega]
      simpa using this
theorem scan_eq_none {α : Type} {f : Nat → α → Option Int} {l : List α} : scan f l 0 = none ↔ ∀ j, ∀ h : j < l.length, f j l[j] = none :=
  ⟨fun h j hj => by have := scan_none h j hj; rwa [Nat.zero_add] at this, fun h => scan_all fun j hj => by rw [Nat.zero_add]; exact h j hj⟩
def orE (x : Option Int) (y : Int) : Int := match x with | some e => e | none => y
theorem scan_zero {α : Type} {f : Nat → α → Option Int} {l : List α} {k : Nat} {y : Int} (h : ∀ k x e, f k x = some e → e ≠ 0) : orE (scan f l k) y = 0 ↔ scan f l k = none ∧ y = 0 := by
  cases hs : scan f l k with
  | none => simp [orE]
  | some e => simp [orE, scan_ne h hs]

theorem tblsE_ne (ts : List Tbl) : ∀ k x e, tblsE ts k x = some e → e ≠ 0 := by
  intro k x e h
  unfold tblsE at h
  split at h
  · rename_i hne; injection h with h; rw [← h]; exact hne
  · split at h
    · injection h with h; omega
    · cases h
theorem fksE_ne (s : Sch) : ∀ k x e, fksE s k x = some e → e ≠ 0 := by
  intro k x e h
  unfold fksE at h
  split at h
  · rename_i hne; injection h with h; rw [← h]; exact hne
  · split at h
    · injection h with h; omega
    · cases h
theorem consE_ne (s : Sch) : ∀ k x e, consE s k x = some e → e ≠ 0 := by
  intro k x e h
  unfold consE at h
  split at h
  · rename_i hne; injection h with h; rw [← h]; exact hne
  · split at h
    · injection h with h; omega
    · cases h
theorem schE_zero (s : Sch) : schE s = 0 ↔ (s.tables.length ≤ 6 ∧ s.fks.length ≤ 8 ∧ s.cons.length ≤ 8) ∧ (∀ j, ∀ h : j < s.tables.length, tblsE s.tables j s.tables[j] = none) ∧
    (∀ j, ∀ h : j < s.fks.length, fksE s j s.fks[j] = none) ∧ ∀ j, ∀ h : j < s.cons.length, consE s j s.cons[j] = none := by
  unfold schE
  split
  · simp only [false_iff, not_and, reduceCtorEq, show (2 : Int) ≠ 0 by decide]
    omega
  · change orE (scan (tblsE s.tables) s.tables 0) (orE (scan (fksE s) s.fks 0) (orE (scan (consE s) s.cons 0) 0)) = 0 ↔ _
    rw [scan_zero (tblsE_ne _), scan_zero (fksE_ne s), scan_zero (consE_ne s), scan_eq_none, scan_eq_none, scan_eq_none]
    constructor
    · rintro ⟨h1, h2, h3, _⟩; exact ⟨by omega, h1, h2, h3⟩
    · rintro ⟨_, h1, h2, h3⟩; exact ⟨h1, h2, h3, rfl⟩

theorem OkTbl.pk_ge {t : Tbl} (h : OkTbl t) : ∀ k, ∀ hk : k < t.pk.length, (k : Int) ≤ t.pk[k]
  | 0, hk => (h.key 0 hk).1
  | k + 1, hk => by
    have h1 := pk_ge h k (by omega)
    have h2 := (h.key (k + 1) hk).2.2.2 (by omega)
    simp only [Nat.add_sub_cancel] at h2
    omega
theorem OkTbl.pk6 {t : Tbl} (h : OkTbl t) : t.pk.length ≤ t.cols.length := by
  rcases Nat.eq_zero_or_pos t.pk.length with h0 | h0
  · omega
  · have h1 := h.pk_ge (t.pk.length - 1) (by omega)
    have h2 := (h.key (t.pk.length - 1) (by omega)).2.1
    omega

theorem fkE_zero {s : Sch} {f : FK} (h : fkE s f = 0) : ∃ i q, ∃ hi : i < s.tables.length, ∃ hq : q < s.tables.length, tblAt s.tables f.table = (i : Int) ∧ tblAt s.tables f.ref = (q : Int) ∧ f.cols.length = s.tables[q].pk.length ∧
    ∀ j, ∀ hj : j < f.cols.length, 0 ≤ f.cols[j] ∧ f.cols[j] < s.tables[i].cols.length := by
  unfold fkE at h
  split at h
  · cases h
  rename_i h0
  rcases idx_cases (fun t => sEq t.name f.table) s.tables 0 with ⟨e1, _⟩ | ⟨i, hi, e1, _⟩
  · have e1 : tblAt s.tables f.table = -1 := e1
    omega
  rcases idx_cases (fun t => sEq t.name f.ref) s.tables 0 with ⟨e2, _⟩ | ⟨q, hq, e2, _⟩
  · have e2 : tblAt s.tables f.ref = -1 := e2
    omega
  have e1 : tblAt s.tables f.table = (i : Int) := by unfold tblAt; simpa using e1
  have e2 : tblAt s.tables f.ref = (q : Int) := by unfold tblAt; simpa using e2
  simp only [e1, e2, Int.toNat_natCast, getD_lt _ hi, getD_lt _ hq, fkTE] at h
  split at h
  · cases h
  rename_i h1
  change orE (scan (fkColE s.tables[i] s.tables[q]) f.cols 0) 0 = 0 at h
  rw [scan_zero (fun k x e he => by
    unfold fkColE at he
    split at he
    · injection he with he; omega
    · split at he
      · injection he with he; omega
      · cases he), scan_eq_none] at h
  refine ⟨i, q, hi, hq, e1, e2, by omega, fun j hj => ?_⟩
  have := h.1 j hj
  unfold fkColE at this
  split at this
  · cases this
  · omega

/-- The sizes of a valid schema. -/
structure Small (s : Sch) : Prop where
  tables : s.tables.length ≤ 6
  table : ∀ t ∈ s.tables, t.cols.length ≤ 6 ∧ t.pk.length ≤ 6
  fks : s.fks.length ≤ 8
  fk : ∀ f ∈ s.fks, f.cols.length ≤ 6
  cons : s.cons.length ≤ 8
theorem small_of {s : Sch} (h : schE s = 0) : Small s := by
  have ok := okSch_of h
  obtain ⟨h1, h2, h3, h4⟩ := (schE_zero s).1 h
  refine ⟨h1.1, fun t ht => ?_, h1.2.1, fun f hf => ?_, h1.2.2⟩
  · have o := ok.tbl t ht
    have := o.pk6
    have := o.cols6
    omega
  · obtain ⟨j, hj, rfl⟩ := List.mem_iff_getElem.1 hf
    have h5 := h3 j hj
    unfold fksE at h5
    split at h5
    · cases h5
    rename_i h6
    obtain ⟨i, q, hi, hq, _, _, h7, _⟩ := fkE_zero (s := s) (f := s.fks[j]) (by simpa using h6)
    have o := ok.tbl _ (List.getElem_mem hq)
    have := o.pk6
    have := o.cols6
    omega

theorem cellE_ne (t : Tbl) : ∀ k x e, cellE t k x = some e → e ≠ 0 := by
  intro k x e h
  unfold cellE at h
  split at h
  · rename_i hne; injection h with h; rw [← h]; exact hne
  · split at h
    · injection h with h; omega
    · split at h
      · injection h with h; omega
      · cases h
theorem rowE_zero (t : Tbl) (r : Row) : rowE t r = 0 ↔ r.length = t.cols.length ∧ ∀ j, ∀ h : j < r.length, cellE t j r[j] = none := by
  unfold rowE
  split
  · rename_i h
    simp [show (3 : Int) ≠ 0 by decide, h]
  · rename_i h
    change orE (scan (cellE t) r 0) 0 = 0 ↔ _
    rw [scan_zero (cellE_ne t), scan_eq_none]
    simp only [and_true]
    exact ⟨fun h1 => ⟨by omega, h1⟩, fun h1 => h1.2⟩
theorem pairE_ne (t : Tbl) (rows : List Row) : ∀ k x e, pairE t rows k x = some e → e ≠ 0 := by
  intro k x e h
  unfold pairE at h
  split at h
  · rename_i hne; injection h with h; rw [← h]; exact hne
  · split at h
    · cases h
    · split at h
      · injection h with h; omega
      · split at h
        · injection h with h; omega
        · cases h
theorem relE_ne (s : Sch) : ∀ k x e, relE s k x = some e → e ≠ 0 := by
  intro k x e h
  unfold relE at h
  split at h
  · injection h with h; omega
  · split at h
    · injection h with h; omega
    · exact scan_ne (pairE_ne _ _) h

/-- A relation that conforms to its table. -/
structure OkRel (t : Tbl) (rows : List Row) : Prop where
  n24 : rows.length ≤ 24
  row : ∀ j, ∀ h : j < rows.length, rowE t rows[j] = 0
  ord : ∀ j, ∀ h : j + 1 < rows.length, cmpRows (keyOf t.pk rows[j]) (keyOf t.pk rows[j + 1]) < 0
theorem pairs_none (t : Tbl) (rows : List Row) : scan (pairE t rows) rows 0 = none ↔ (∀ j, ∀ h : j < rows.length, rowE t rows[j] = 0) ∧ ∀ j, ∀ h : j + 1 < rows.length, cmpRows (keyOf t.pk rows[j]) (keyOf t.pk rows[j + 1]) < 0 := by
  rw [scan_eq_none]
  constructor
  · intro h
    refine ⟨fun j hj => ?_, fun j hj => ?_⟩
    · have := h j hj
      unfold pairE at this
      split at this
      · cases this
      · rename_i h1; simpa using h1
    · have := h (j + 1) hj
      unfold pairE at this
      split at this
      · cases this
      split at this
      · omega
      rw [show ((j + 1 : Nat) : Int) - 1 = (j : Int) by omega, Int.toNat_natCast, getD_lt _ (by omega : j < rows.length)] at this
      split at this
      · cases this
      split at this
      · cases this
      · omega
  · rintro ⟨h1, h2⟩ j hj
    unfold pairE
    rw [if_neg (by simpa using h1 j hj)]
    cases j with
    | zero => rfl
    | succ j =>
      have := h2 j hj
      rw [if_neg (by omega), show ((j + 1 : Nat) : Int) - 1 = (j : Int) by omega, Int.toNat_natCast, getD_lt _ (by omega : j < rows.length), if_neg (by omega), if_neg (by omega)]
theorem confE_zero (s : Sch) (i : Inst) : confE s i = 0 ↔ i.length = s.tables.length ∧ ∀ k, ∀ h : k < i.length, sEq i[k].table (s.tables.getD k zTbl).name = true ∧ OkRel (s.tables.getD k zTbl) i[k].rows := by
  unfold confE
  split
  · rename_i h
    simp [show (3 : Int) ≠ 0 by decide, h]
  · rename_i h
    change orE (scan (relE s) i 0) 0 = 0 ↔ _
    rw [scan_zero (relE_ne s), scan_eq_none]
    simp only [and_true]
    constructor
    · intro h1
      refine ⟨by omega, fun k hk => ?_⟩
      have := h1 k hk
      unfold relE at this
      split at this
      · cases this
      split at this
      · cases this
      rename_i h2 h3
      obtain ⟨h4, h5⟩ := (pairs_none _ _).1 this
      exact ⟨by simpa using h2, by omega, h4, h5⟩
    · rintro ⟨_, h1⟩ k hk
      obtain ⟨h2, h3, h4, h5⟩ := h1 k hk
      unfold relE
      rw [if_neg (by rw [h2]; decide), if_neg (by omega)]
      exact (pairs_none _ _).2 ⟨h4, h5⟩

theorem bounds_of {s : Sch} {i : Inst} (hB : Bounds0 s i) (h : confE s i = 0) : Bounds s i := by
  obtain ⟨h1, h2⟩ := (confE_zero s i).1 h
  refine ⟨hB.tables, hB.table, hB.fk, fun r hr => ?_⟩
  obtain ⟨k, hk, rfl⟩ := List.mem_iff_getElem.1 hr
  obtain ⟨_, h3, h4, _⟩ := h2 k hk
  refine ⟨by omega, fun x hx => ?_⟩
  obtain ⟨j, hj, rfl⟩ := List.mem_iff_getElem.1 hx
  have h5 := ((rowE_zero _ _).1 (h4 j hj)).1
  rw [getD_lt _ (by omega : k < s.tables.length)] at h5
  have := (hB.table _ (List.getElem_mem (by omega : k < s.tables.length))).1
  omega
theorem Small.bounds0 {s : Sch} {i : Inst} (h : Small s) (hi : ∀ r ∈ i, r.rows.length ≤ 140737488355328 ∧ ∀ x ∈ r.rows, x.length ≤ 140737488355328) : Bounds0 s i :=
  ⟨by have := h.tables; omega, fun t ht => by have := h.table t ht; omega, fun f hf => by have := h.fk f hf; omega, by have := h.fks; omega, by have := h.cons; omega, hi⟩

/-- One element is gone. -/
def cutAt {α : Type} (l : List α) (k : Nat) : List α := l.take k ++ l.drop (k + 1)
theorem cutAt_sub {α : Type} (l : List α) (k : Nat) : (cutAt l k).Sublist l := by
  have h : (l.take k ++ l.drop (k + 1)).Sublist (l.take k ++ l.drop k) := (List.Sublist.refl _).append (by
    have : (l.drop k).drop 1 = l.drop (k + 1) := by rw [List.drop_drop]
    rw [← this]
    exact List.drop_sublist _ _)
  rwa [List.take_append_drop] at h
theorem cutAt_length {α : Type} (l : List α) {k : Nat} (h : k < l.length) : (cutAt l k).length = l.length - 1 := by
  simp [cutAt]; omega
theorem Sch.Fits.sub {s : Sch} (h : s.Fits) {fks : List FK} {cons : List Con} (hf : fks.Sublist s.fks) (hc : cons.Sublist s.cons) : (⟨s.tables, fks, cons⟩ : Sch).Fits :=
  ⟨h.tables, h.table, Nat.le_trans hf.length_le h.fks, fun f hf' => h.fk f (hf.subset hf'), Nat.le_trans hc.length_le h.cons⟩

theorem frzCut {α : Type} {e : α → List L} (hz : ∀ l : List α, (l.map e).map (fun x => x.map (L.frzN 4)) = l.map e) (l : List α) {k : Nat} (hk : k < l.length) (z : List L) :
    List.take (l.length - 1) (List.map (fun x => List.map (L.frzN 4) x) (List.take k (l.map e) ++ List.drop (k + 1) (l.map e) ++ [z])) = (cutAt l k).map e := by
  have e0 : List.take k (l.map e) ++ List.drop (k + 1) (l.map e) = (cutAt l k).map e := by simp [cutAt, List.map_take, List.map_drop]
  rw [e0, List.map_append, hz]
  exact List.take_left' (by rw [List.length_map, cutAt_length l hk])
theorem lenCut {α : Type} (e : α → List L) (l : List α) {k : Nat} (hk : k < l.length) : (List.take k (l.map e)).length + (List.drop (k + 1) (l.map e)).length + 1 = l.length := by simp; omega
end Go.Bw

namespace Go.Bw
open Go.Proofs
attribute [local go_sem ↓] VOps_nil VOps_cons VOp_callJ VVal_callH VOps_guard GOn_tt GOn_ff GOn_tf GOn_ft GOn_not GOn_none HOn_none HOn_tt HOn_ff HOn_tf HOn_ft HOn_not VHead_nil VHead_cons VHead_guard VVal_move VVal_assign VVal_pickE pickK_true pickK_false VVal_not VVal_load loadK_fz loadK_ptr loadK_eptr VVal_fieldAddr VVal_field VVal_indexAddr idxK_sl idxK_ref VVal_index indexK_str VVal_extract VVal_binOp binK_one binK_agg VVal_build VVal_buildSlice VVal_makeFunc VVal_slice sliceK_str sliceK_sl sliceK_ref VVal_slice3 VVal_nilCheck VVal_convert convKk_int convKk_str VVal_len VVal_max VVal_min VOp_assign assignK_int assignK_bool assignK_str assignK_clo assignK_sl assignK_nil assignK_ref assignK_agg assignK_fz assignK_ptr assignK_eptr assignK_any VOp_box VOp_alloc VOp_store storeK_ptr storeK_eptr VOp_buildSlice VOp_append appK_rr appK_rs appK_rn appK_ri appK_nl appStd_eq VOp_copy copyK_ref VOp_clear clearK_ref VOp_cap VOp_eqNil VOp_move VOp_pick VOp_not VOp_load VOp_fieldAddr VOp_field VOp_indexAddr VOp_index VOp_extract VOp_binTmp VOp_binInt VOp_binStr VOp_build VOp_makeFunc VOp_slice VOp_nilCheck VOp_convert VOp_len VOp_max VOp_min mO_some mT_some pk_some pk_none look_cons del_cons
attribute [local go_sem] guardB gOf int_bne beq_true beq_false Bool.not_not gSlot pickK_true pickK_false loadK_fz loadK_ptr loadK_eptr idxK_sl idxK_ref indexK_str binK_one binK_agg sliceK_str sliceK_sl sliceK_ref convKk_int convKk_str maxL minL assignK_int assignK_bool assignK_str assignK_clo assignK_sl assignK_nil assignK_ref assignK_agg assignK_fz assignK_ptr assignK_eptr assignK_any nilRow_eq takeRow_eq appended_eq storeK_ptr storeK_eptr store_mk appIn_eq appMk_eq marked_eq ovOut_nil ovOut_cons ovIn_nil ovIn_cons padRow_eq ysC capK_ref ioSt_mk outB_nil outR_nil outB outR inB_nil inB_cons inR_nil inR_cons L.kl L.kl0 L.ids L.ids0 Option.getD_some evalO constA mO_some mT_some put_mk putO_some putO_none okD_some okD_none pk_some pk_none look_nil del_nil sput noBox_mk noRow_mk newBox_eq newRow0_eq St.killRow RowC.kill rowMap_mk rowOf ovAll ovAdd ovDel ovGet ovShift dstOf ysOf overlay_nil overlay_nil' overlay A.map V.map L.noPtr L.noPtr0 L.noRow L.noRow0 L.peek L.norm L.flat clos_int clos_bool clos_str clos_sl clos_nil clos_any clos_fz L.clos L.isFz L.kd moveL fieldOff eqCells eqCell eqOp oneOf boolOf intOfA tupOf vOf aggOf isPtrLike isSlice lenKind lenL nL elemTI loadV asV binL intBin intDivL shrL boolBin strBin boundN partCells fillL placesOf setL chunks repL capsOf capL callOf argsOf frzV_int frzV_bool frzV_str frzV_sl frzV_nil frzV_fz frzV_any frzV_own frzV_clo frzV_ref frzV_eptr frzV_ptr frzRow_nil frzRow_ov frzRs_nil frzRs_cons frzCs_nil frzCs_cons frzO_some frzO_none frzN_int frzN_bool frzN_str frzN_sl frzN_nil frzN_any frzN_own List.map_cons List.map_nil List.cons_append List.nil_append List.append_nil List.length_cons List.length_nil List.length_map List.length_append List.headD_cons List.tail_cons List.getElem?_cons_zero List.getElem?_cons_succ List.drop_zero List.drop_succ_cons List.drop_nil List.take_succ_cons List.take_zero List.take_nil List.take_length List.filter_cons List.filter_nil List.elem_cons List.elem_nil List.all_cons List.all_nil Option.bind_some Option.map_some Option.some.injEq bne_self_eq_false beq_self_eq_true if_true if_false Bool.false_eq_true true_and and_true and_self Nat.zero_add Nat.add_zero Nat.zero_le Int.toNat_natCast Int.toNat_zero Option.isSome_some List.getElem?_toArray decide_true decide_false ge_iff_le gt_iff_lt Bool.not_true Bool.not_false Nat.le_refl Bool.and_true Bool.true_and Bool.and_false Bool.false_and eVal eRow eRow1 eRows eInt1 eInts eCol eCols eTbl eTbls eFK eFKs eCon eCons eSch eRel eInst eChg eChgs szOf getD_map_lt wrap_nat wrap_in List.take_of_length_le frz_eVal frz_eRow1 frz_eInt1 frz_eCol frz_eTbl frz_eFK frz_eCon frz_eRel frz_eChg noOwn_nil noOwn_cons noOwn_append L.isOwn noOwn_eVal noOwn_eRow1 noOwn_eInt1 noOwn_eCol noOwn_eTbl noOwn_eFK noOwn_eCon noOwn_eRel noOwn_eChg convK_2 convK_3 convK_5 convK_12 convK_21 convK_28 convK_156 convK_164 TT_2 TT_3 TT_4 TT_5 TT_9 TT_12 TT_13 TT_21 TT_22 TT_23 TT_24 TT_25 TT_26 TT_28 TT_30 TT_31 TT_32 TT_33 TT_37 TT_38 TT_41 TT_42 TT_43 TT_54 TT_55 TT_58 TT_59 TT_60 TT_61 TT_65 TT_66 TT_70 TT_71 TT_78 TT_82 TT_83 TT_102 TT_126 TT_130 TT_156 TT_164 boolTy_4 eqK_38 eqK_59 eqK_61
attribute [local congr] VOps.congr VHead.congr VOp.congr VVal.congr pk.congr assignK.congr appK.congr appStd.congr copyK.congr clearK.congr storeK.congr loadK.congr idxK.congr sliceK.congr indexK.congr binK.congr convKk.congr
/-- instance.Validate. -/
def refE (s : Sch) (i : Inst) (_k : Nat) (f : FK) : Option Int := if 0 ≤ idx (fun x => !refOk s i f x) (instTbl s i f.table).2 0 then some 10 else none
def holdE (s : Sch) (i : Inst) (_k : Nat) (c : Con) : Option Int := if 0 ≤ idx (fun x => !holdsC c x) (instTbl s i c.table).2 0 then some 11 else none
def instE (s : Sch) (i : Inst) : Int :=
  if confE s i ≠ 0 then confE s i else match scan (refE s i) s.fks 0 with
    | some e => e
    | none => match scan (holdE s i) s.cons 0 with
      | some e => e
      | none => 0
set_option maxHeartbeats 16000000 in
theorem instValidate_sat (s : Sch) (i : Inst) (hB0 : Bounds0 s i) (hl : i.length ≤ 140737488355328) : Sat Try.prog 32 [.agg (eSch s), .one (eInst i)] (.v (oI (instE s i))) := by
  refine sat_of_body tyOk Try.func32 rfl (by kernel_rfl) ⟨Nat.le_of_ble_eq_true rfl, Nat.le_of_ble_eq_true rfl⟩ fun w0 m0 F0 => ?_
  simp only [Try.ntmps32, envOf, Nat.reduceAdd]
  repeat' (first
    | ((first
      | with_reducible refine AWP.regionL tyOk fun K hK => ?_
      | ((first | with_reducible refine GOn.isT ?_ ?_ | with_reducible refine HOn.isT ?_ ?_ | with_reducible refine pickK.isT ?_ ?_); focus (first | with_reducible rfl | with_reducible assumption | (simp only [NM, LN]; first | done | with_reducible assumption | omega)))
      | ((first | with_reducible refine GOn.isF ?_ ?_ | with_reducible refine HOn.isF ?_ ?_ | with_reducible refine pickK.isF ?_ ?_); focus (first | with_reducible rfl | with_reducible assumption | (simp only [NM, LN]; first | done | with_reducible assumption | omega)))
      | ((first | with_reducible refine GOn.split (fun h => ?_) (fun h => ?_) | with_reducible refine HOn.split (fun h => ?_) (fun h => ?_) | with_reducible refine pickK.split (fun h => ?_) (fun h => ?_)) <;> (try simp only [NM] at h))
      | with_reducible refine AWP.drawAll tyOk mixed 6 (by kernel_rfl) fun K hK => ?_
      | ((with_reducible refine CallJ.is ?_); (first | refine CallJ.pure (conforms_sat s i hB0 hl) ?_ | ((first | refine CallJ.lent (conforms_sat s i hB0 hl) ?_ ?_; focus (simp -dsimp (disch := (first | omega | (simp only [LN]; omega))) only [go_sem, ↓reduceIte, Nat.reduceLT, Nat.reduceLeDiff, Nat.reduceEqDiff, Nat.reduceAdd, Nat.reduceMul, Nat.reduceSub, Nat.reduceBEq, Nat.reduceBNe, Int.reduceBEq, Int.reduceLT, Int.reduceLE, reduceCtorEq, Int.reduceToNat]; done)))))
      | ((with_reducible refine CallH.is ?_); (first | refine CallH.intro (conforms_sat s i hB0 hl) ?_))) <;> simp -dsimp (disch := (first | omega | (simp only [LN]; omega))) only [go_sem, ↓reduceIte, Nat.reduceLT, Nat.reduceLeDiff, Nat.reduceEqDiff, Nat.reduceAdd, Nat.reduceMul, Nat.reduceSub, Nat.reduceBEq, Nat.reduceBNe, Int.reduceBEq, Int.reduceLT, Int.reduceLE, reduceCtorEq, Int.reduceToNat])
    | ((with_reducible refine hK _ ?_); clear hK K)
    | with_reducible refine AWP.seq ?_
    | with_reducible refine thenQ_normal ?_
    | with_reducible refine AWP.block ?_
    | with_reducible refine AWP.skip ?_
    | with_reducible refine AWP.ret ?_
    | with_reducible refine thenQ_ret ?_
    | with_reducible refine blockQ_ret ?_
    | with_reducible refine AWP.exit ?_
    | with_reducible refine thenQ_exit ?_
    | with_reducible refine blockQ_normal ?_
    | with_reducible refine blockQ_exit ?_
    | refine blockQ_exit_ne rfl ?_
    | (with_reducible refine And.intro (by (first | with_reducible rfl | with_reducible assumption | omega | (simp only [LN]; first | done | with_reducible rfl | omega) | (simp only [NM, LN]; first | done | with_reducible assumption | omega) | (and_intros <;> first | with_reducible assumption | omega | (simp only [LN]; omega)) | fail)) ?_)
    | ((with_reducible refine AWP.condG (T := TT) (b := ?_) ?_ ?_); rotate_left; exact rfl)
    | with_reducible refine CondG.t ?_
    | with_reducible refine CondG.f ?_
    | with_reducible refine CondG.not ?_
    | ((first | with_reducible refine CondG.isT ?_ ?_); focus (first | with_reducible rfl | with_reducible assumption | (simp only [NM, LN]; first | done | with_reducible assumption | omega)))
    | ((first | with_reducible refine CondG.isF ?_ ?_); focus (first | with_reducible rfl | with_reducible assumption | (simp only [NM, LN]; first | done | with_reducible assumption | omega)))
    | ((with_reducible refine CondG.split (fun h => ?_) (fun h => ?_)) <;> (try simp only [NM] at h)))
  rotate_left
  · simp -dsimp (disch := (first | omega | (simp only [LN]; omega))) only [retQ, Try.results32, resVals, cellRV, resOf, St.rest, St.freeze, RT, go_sem, ↓reduceIte, Nat.reduceLT, Nat.reduceLeDiff, Nat.reduceEqDiff, Nat.reduceAdd, Nat.reduceMul, Nat.reduceSub, Nat.reduceBEq, Nat.reduceBNe, Int.reduceBEq, Int.reduceLT, Int.reduceLE, reduceCtorEq, Int.reduceToNat]
    simp [instE, h]
  have hB := bounds_of hB0 h
  have c1 := hB0.fks
  have c2 := hB0.cons
  have spec : instE s i = match scan (refE s i) s.fks 0 with
    | some e => e
    | none => match scan (holdE s i) s.cons 0 with
      | some e => e
      | none => 0 := by simp [instE, h]
  rw [spec]
  refine AWP.loop (ι := {k : Nat // k ≤ s.fks.length ∧ scan (refE s i) (s.fks.drop k) k = scan (refE s i) s.fks 0}) (fun k => ⟨58, [(2, .v (.one (.ptr 2 0))), (3, .v (.one (.ptr 3 0))), (21, .v (.one (.sl 3 (s.fks.map eFK)))), (22, .v (oI s.fks.length)), (23, .v (oI k.1))], [(3, [eInst i]), (2, eSch s)], []⟩) (fun k => s.fks.length - k.1) ⟨0, Nat.zero_le _, rfl⟩ ?_ fun ⟨k, hkl, hi⟩ => ?_
  · exact St.le_mk (by simp only [LE, EN, Nat.reduceEqDiff, reduceIte, Nat.reduceSub, eSch]) (by simp only [LE, EN, Nat.reduceEqDiff, reduceIte, Nat.reduceSub, eSch]) (by simp only [LE, EN, Nat.reduceEqDiff, reduceIte, Nat.reduceSub, eSch])
  rcases Nat.lt_or_ge k s.fks.length with hc | hc
  · have b1 := hB.fk _ (List.getElem_mem hc)
    obtain ⟨b2, b3, b4⟩ := instTbl_bounds hB s.fks[k].table
    have hp : ∀ x ∈ (instTbl s i s.fks[k].table).2, Sat Try.prog 77 (.one (eRow x) :: [L.fz (eSch s), .fz [eInst i], .fz (eFK s.fks[k])].map .one) (.v (oB (!refOk s i s.fks[k] x))) := fun x hx => validate1i_sat s i s.fks[k] x hB b1 (Nat.le_trans (b4 x hx) (by omega))
    repeat' (first
      | ((first
        | with_reducible refine AWP.regionL tyOk fun K hK => ?_
        | ((first | with_reducible refine GOn.isT ?_ ?_ | with_reducible refine HOn.isT ?_ ?_ | with_reducible refine pickK.isT ?_ ?_); focus (first | with_reducible rfl | with_reducible assumption | (simp only [NM, LN]; first | done | with_reducible assumption | omega)))
        | ((first | with_reducible refine GOn.isF ?_ ?_ | with_reducible refine HOn.isF ?_ ?_ | with_reducible refine pickK.isF ?_ ?_); focus (first | with_reducible rfl | with_reducible assumption | (simp only [NM, LN]; first | done | with_reducible assumption | omega)))
        | ((first | with_reducible refine GOn.split (fun h => ?_) (fun h => ?_) | with_reducible refine HOn.split (fun h => ?_) (fun h => ?_) | with_reducible refine pickK.split (fun h => ?_) (fun h => ?_)) <;> (try simp only [NM] at h))
        | ((with_reducible refine CallJ.is ?_); (first | refine CallJ.pure (instTable_sat s i s.fks[k].table hB.tables hB.table hB.rel) ?_ | refine CallJ.pure (containsRow_sat (instTbl s i s.fks[k].table).2 _ _ _ (by omega) hp) ?_ | ((first | refine CallJ.lent (instTable_sat s i s.fks[k].table hB.tables hB.table hB.rel) ?_ ?_; focus (simp -dsimp (disch := (first | omega | (simp only [LN]; omega))) only [go_sem, ↓reduceIte, Nat.reduceLT, Nat.reduceLeDiff, Nat.reduceEqDiff, Nat.reduceAdd, Nat.reduceMul, Nat.reduceSub, Nat.reduceBEq, Nat.reduceBNe, Int.reduceBEq, Int.reduceLT, Int.reduceLE, reduceCtorEq, Int.reduceToNat]; done) | refine CallJ.lent (containsRow_sat (instTbl s i s.fks[k].table).2 _ _ _ (by omega) hp) ?_ ?_; focus (simp -dsimp (disch := (first | omega | (simp only [LN]; omega))) only [go_sem, ↓reduceIte, Nat.reduceLT, Nat.reduceLeDiff, Nat.reduceEqDiff, Nat.reduceAdd, Nat.reduceMul, Nat.reduceSub, Nat.reduceBEq, Nat.reduceBNe, Int.reduceBEq, Int.reduceLT, Int.reduceLE, reduceCtorEq, Int.reduceToNat]; done)))))
        | ((with_reducible refine CallH.is ?_); (first | refine CallH.intro (instTable_sat s i s.fks[k].table hB.tables hB.table hB.rel) ?_ | refine CallH.intro (containsRow_sat (instTbl s i s.fks[k].table).2 _ _ _ (by omega) hp) ?_))) <;> simp -dsimp (disch := (first | omega | (simp only [LN]; omega))) only [go_sem, ↓reduceIte, Nat.reduceLT, Nat.reduceLeDiff, Nat.reduceEqDiff, Nat.reduceAdd, Nat.reduceMul, Nat.reduceSub, Nat.reduceBEq, Nat.reduceBNe, Int.reduceBEq, Int.reduceLT, Int.reduceLE, reduceCtorEq, Int.reduceToNat])
      | ((with_reducible refine hK _ ?_); clear hK K)
      | with_reducible refine AWP.seq ?_
      | with_reducible refine thenQ_normal ?_
      | with_reducible refine AWP.block ?_
      | with_reducible refine AWP.skip ?_
      | with_reducible refine AWP.ret ?_
      | with_reducible refine thenQ_ret ?_
      | with_reducible refine blockQ_ret ?_
      | with_reducible refine AWP.exit ?_
      | with_reducible refine thenQ_exit ?_
      | with_reducible refine blockQ_normal ?_
      | with_reducible refine blockQ_exit ?_
      | refine blockQ_exit_ne rfl ?_
      | (with_reducible refine And.intro (by (first | with_reducible rfl | with_reducible assumption | omega | (simp only [LN]; first | done | with_reducible rfl | omega) | (simp only [NM, LN]; first | done | with_reducible assumption | omega) | (and_intros <;> first | with_reducible assumption | omega | (simp only [LN]; omega)) | fail)) ?_)
      | ((with_reducible refine AWP.condG (T := TT) (b := ?_) ?_ ?_); rotate_left; exact rfl)
      | with_reducible refine CondG.t ?_
      | with_reducible refine CondG.f ?_
      | with_reducible refine CondG.not ?_
      | ((first | with_reducible refine CondG.isT ?_ ?_); focus (first | with_reducible rfl | with_reducible assumption | (simp only [NM, LN]; first | done | with_reducible assumption | omega)))
      | ((first | with_reducible refine CondG.isF ?_ ?_); focus (first | with_reducible rfl | with_reducible assumption | (simp only [NM, LN]; first | done | with_reducible assumption | omega)))
      | ((with_reducible refine CondG.split (fun h => ?_) (fun h => ?_)) <;> (try simp only [NM] at h)))
    all_goals
      first
        | (have hs : (refE s i) k s.fks[k] = none := by
             (simp (disch := omega) only [refE, getD_lt]; (repeat' split) <;> first | rfl | with_reducible assumption | omega | (exfalso; omega) | (simp_all; done) | (simp_all; omega))
           refine ⟨⟨k + 1, by omega, by rw [scan_step (by omega) hs, hi]⟩, by simp only; omega, ?_⟩
           exact St.le_mk (by simp only [LE, EN, Nat.reduceEqDiff, reduceIte, Nat.reduceSub, eSch]) (by simp only [LE, EN, Nat.reduceEqDiff, reduceIte, Nat.reduceSub, eSch]) (by simp only [LE, EN, Nat.reduceEqDiff, reduceIte, Nat.reduceSub, eSch])
           done)
        | (simp -dsimp (disch := (first | omega | (simp only [LN]; omega))) only [retQ, Try.results32, resVals, cellRV, resOf, St.rest, St.freeze, RT, go_sem, ↓reduceIte, Nat.reduceLT, Nat.reduceLeDiff, Nat.reduceEqDiff, Nat.reduceAdd, Nat.reduceMul, Nat.reduceSub, Nat.reduceBEq, Nat.reduceBNe, Int.reduceBEq, Int.reduceLT, Int.reduceLE, reduceCtorEq, Int.reduceToNat]
           rw [scan_leaf (by omega) ?_ hi]
           all_goals first | with_reducible rfl | ((simp (disch := omega) only [refE, getD_lt]; (repeat' split) <;> first | rfl | with_reducible assumption | omega | (exfalso; omega) | (simp_all; done) | (simp_all; omega)); done) | rfl
           done)
  · rw [scan_end (by omega)] at hi
    have hi0 := hi.symm
    clear hi
    repeat' (first
      | ((first
        | with_reducible refine AWP.regionL tyOk fun K hK => ?_
        | ((first | with_reducible refine GOn.isT ?_ ?_ | with_reducible refine HOn.isT ?_ ?_ | with_reducible refine pickK.isT ?_ ?_); focus (first | with_reducible rfl | with_reducible assumption | (simp only [NM, LN]; first | done | with_reducible assumption | omega)))
        | ((first | with_reducible refine GOn.isF ?_ ?_ | with_reducible refine HOn.isF ?_ ?_ | with_reducible refine pickK.isF ?_ ?_); focus (first | with_reducible rfl | with_reducible assumption | (simp only [NM, LN]; first | done | with_reducible assumption | omega)))
        | ((first | with_reducible refine GOn.split (fun h => ?_) (fun h => ?_) | with_reducible refine HOn.split (fun h => ?_) (fun h => ?_) | with_reducible refine pickK.split (fun h => ?_) (fun h => ?_)) <;> (try simp only [NM] at h))
        | with_reducible refine AWP.drawAll tyOk mixed 6 (by kernel_rfl) fun K hK => ?_) <;> simp -dsimp (disch := (first | omega | (simp only [LN]; omega))) only [go_sem, ↓reduceIte, Nat.reduceLT, Nat.reduceLeDiff, Nat.reduceEqDiff, Nat.reduceAdd, Nat.reduceMul, Nat.reduceSub, Nat.reduceBEq, Nat.reduceBNe, Int.reduceBEq, Int.reduceLT, Int.reduceLE, reduceCtorEq, Int.reduceToNat])
      | ((with_reducible refine hK _ ?_); clear hK K)
      | with_reducible refine AWP.seq ?_
      | with_reducible refine thenQ_normal ?_
      | with_reducible refine AWP.block ?_
      | with_reducible refine AWP.skip ?_
      | with_reducible refine AWP.ret ?_
      | with_reducible refine thenQ_ret ?_
      | with_reducible refine blockQ_ret ?_
      | with_reducible refine AWP.exit ?_
      | with_reducible refine thenQ_exit ?_
      | with_reducible refine blockQ_normal ?_
      | with_reducible refine blockQ_exit ?_
      | refine blockQ_exit_ne rfl ?_
      | (with_reducible refine And.intro (by (first | with_reducible rfl | with_reducible assumption | omega | (simp only [LN]; first | done | with_reducible rfl | omega) | (simp only [NM, LN]; first | done | with_reducible assumption | omega) | (and_intros <;> first | with_reducible assumption | omega | (simp only [LN]; omega)) | fail)) ?_)
      | ((with_reducible refine AWP.condG (T := TT) (b := ?_) ?_ ?_); rotate_left; exact rfl)
      | with_reducible refine CondG.t ?_
      | with_reducible refine CondG.f ?_
      | with_reducible refine CondG.not ?_
      | ((first | with_reducible refine CondG.isT ?_ ?_); focus (first | with_reducible rfl | with_reducible assumption | (simp only [NM, LN]; first | done | with_reducible assumption | omega)))
      | ((first | with_reducible refine CondG.isF ?_ ?_); focus (first | with_reducible rfl | with_reducible assumption | (simp only [NM, LN]; first | done | with_reducible assumption | omega)))
      | ((with_reducible refine CondG.split (fun h => ?_) (fun h => ?_)) <;> (try simp only [NM] at h)))
    rw [hi0]
    simp only
    clear hi0
    refine AWP.loop (ι := {k : Nat // k ≤ s.cons.length ∧ scan (holdE s i) (s.cons.drop k) k = scan (holdE s i) s.cons 0}) (fun k => ⟨58, [(2, .v (.one (.ptr 2 0))), (3, .v (.one (.ptr 3 0))), (40, .v (.one (.sl 7 (s.cons.map eCon)))), (41, .v (oI s.cons.length)), (42, .v (oI k.1))], [(3, [eInst i]), (2, eSch s)], []⟩) (fun k => s.cons.length - k.1) ⟨0, Nat.zero_le _, rfl⟩ ?_ fun ⟨k, hkl, hi⟩ => ?_
    · exact St.le_mk (by simp only [LE, EN, Nat.reduceEqDiff, reduceIte, Nat.reduceSub, eSch]) (by simp only [LE, EN, Nat.reduceEqDiff, reduceIte, Nat.reduceSub, eSch]) (by simp only [LE, EN, Nat.reduceEqDiff, reduceIte, Nat.reduceSub, eSch])
    rcases Nat.lt_or_ge k s.cons.length with hc | hc
    · obtain ⟨b2, b3, b4⟩ := instTbl_bounds hB s.cons[k].table
      have hp : ∀ x ∈ (instTbl s i s.cons[k].table).2, Sat Try.prog 79 (.one (eRow x) :: [L.fz (eCon s.cons[k])].map .one) (.v (oB (!holdsC s.cons[k] x))) := fun x hx => validate2i_sat s.cons[k] x (Nat.le_trans (b4 x hx) (by omega))
      repeat' (first
        | ((first
          | with_reducible refine AWP.regionL tyOk fun K hK => ?_
          | ((first | with_reducible refine GOn.isT ?_ ?_ | with_reducible refine HOn.isT ?_ ?_ | with_reducible refine pickK.isT ?_ ?_); focus (first | with_reducible rfl | with_reducible assumption | (simp only [NM, LN]; first | done | with_reducible assumption | omega)))
          | ((first | with_reducible refine GOn.isF ?_ ?_ | with_reducible refine HOn.isF ?_ ?_ | with_reducible refine pickK.isF ?_ ?_); focus (first | with_reducible rfl | with_reducible assumption | (simp only [NM, LN]; first | done | with_reducible assumption | omega)))
          | ((first | with_reducible refine GOn.split (fun h => ?_) (fun h => ?_) | with_reducible refine HOn.split (fun h => ?_) (fun h => ?_) | with_reducible refine pickK.split (fun h => ?_) (fun h => ?_)) <;> (try simp only [NM] at h))
          | ((with_reducible refine CallJ.is ?_); (first | refine CallJ.pure (instTable_sat s i s.cons[k].table hB.tables hB.table hB.rel) ?_ | refine CallJ.pure (containsRow_sat (instTbl s i s.cons[k].table).2 _ _ _ (by omega) hp) ?_ | ((first | refine CallJ.lent (instTable_sat s i s.cons[k].table hB.tables hB.table hB.rel) ?_ ?_; focus (simp -dsimp (disch := (first | omega | (simp only [LN]; omega))) only [go_sem, ↓reduceIte, Nat.reduceLT, Nat.reduceLeDiff, Nat.reduceEqDiff, Nat.reduceAdd, Nat.reduceMul, Nat.reduceSub, Nat.reduceBEq, Nat.reduceBNe, Int.reduceBEq, Int.reduceLT, Int.reduceLE, reduceCtorEq, Int.reduceToNat]; done) | refine CallJ.lent (containsRow_sat (instTbl s i s.cons[k].table).2 _ _ _ (by omega) hp) ?_ ?_; focus (simp -dsimp (disch := (first | omega | (simp only [LN]; omega))) only [go_sem, ↓reduceIte, Nat.reduceLT, Nat.reduceLeDiff, Nat.reduceEqDiff, Nat.reduceAdd, Nat.reduceMul, Nat.reduceSub, Nat.reduceBEq, Nat.reduceBNe, Int.reduceBEq, Int.reduceLT, Int.reduceLE, reduceCtorEq, Int.reduceToNat]; done)))))
          | ((with_reducible refine CallH.is ?_); (first | refine CallH.intro (instTable_sat s i s.cons[k].table hB.tables hB.table hB.rel) ?_ | refine CallH.intro (containsRow_sat (instTbl s i s.cons[k].table).2 _ _ _ (by omega) hp) ?_))) <;> simp -dsimp (disch := (first | omega | (simp only [LN]; omega))) only [go_sem, ↓reduceIte, Nat.reduceLT, Nat.reduceLeDiff, Nat.reduceEqDiff, Nat.reduceAdd, Nat.reduceMul, Nat.reduceSub, Nat.reduceBEq, Nat.reduceBNe, Int.reduceBEq, Int.reduceLT, Int.reduceLE, reduceCtorEq, Int.reduceToNat])
        | ((with_reducible refine hK _ ?_); clear hK K)
        | with_reducible refine AWP.seq ?_
        | with_reducible refine thenQ_normal ?_
        | with_reducible refine AWP.block ?_
        | with_reducible refine AWP.skip ?_
        | with_reducible refine AWP.ret ?_
        | with_reducible refine thenQ_ret ?_
        | with_reducible refine blockQ_ret ?_
        | with_reducible refine AWP.exit ?_
        | with_reducible refine thenQ_exit ?_
        | with_reducible refine blockQ_normal ?_
        | with_reducible refine blockQ_exit ?_
        | refine blockQ_exit_ne rfl ?_
        | (with_reducible refine And.intro (by (first | with_reducible rfl | with_reducible assumption | omega | (simp only [LN]; first | done | with_reducible rfl | omega) | (simp only [NM, LN]; first | done | with_reducible assumption | omega) | (and_intros <;> first | with_reducible assumption | omega | (simp only [LN]; omega)) | fail)) ?_)
        | ((with_reducible refine AWP.condG (T := TT) (b := ?_) ?_ ?_); rotate_left; exact rfl)
        | with_reducible refine CondG.t ?_
        | with_reducible refine CondG.f ?_
        | with_reducible refine CondG.not ?_
        | ((first | with_reducible refine CondG.isT ?_ ?_); focus (first | with_reducible rfl | with_reducible assumption | (simp only [NM, LN]; first | done | with_reducible assumption | omega)))
        | ((first | with_reducible refine CondG.isF ?_ ?_); focus (first | with_reducible rfl | with_reducible assumption | (simp only [NM, LN]; first | done | with_reducible assumption | omega)))
        | ((with_reducible refine CondG.split (fun h => ?_) (fun h => ?_)) <;> (try simp only [NM] at h)))
      all_goals
        first
          | (have hs : (holdE s i) k s.cons[k] = none := by
               (simp (disch := omega) only [holdE, getD_lt]; (repeat' split) <;> first | rfl | with_reducible assumption | omega | (exfalso; omega) | (simp_all; done) | (simp_all; omega))
             refine ⟨⟨k + 1, by omega, by rw [scan_step (by omega) hs, hi]⟩, by simp only; omega, ?_⟩
             exact St.le_mk (by simp only [LE, EN, Nat.reduceEqDiff, reduceIte, Nat.reduceSub, eSch]) (by simp only [LE, EN, Nat.reduceEqDiff, reduceIte, Nat.reduceSub, eSch]) (by simp only [LE, EN, Nat.reduceEqDiff, reduceIte, Nat.reduceSub, eSch])
             done)
          | (simp -dsimp (disch := (first | omega | (simp only [LN]; omega))) only [retQ, Try.results32, resVals, cellRV, resOf, St.rest, St.freeze, RT, go_sem, ↓reduceIte, Nat.reduceLT, Nat.reduceLeDiff, Nat.reduceEqDiff, Nat.reduceAdd, Nat.reduceMul, Nat.reduceSub, Nat.reduceBEq, Nat.reduceBNe, Int.reduceBEq, Int.reduceLT, Int.reduceLE, reduceCtorEq, Int.reduceToNat]
             rw [scan_leaf (by omega) ?_ hi]
             all_goals first | with_reducible rfl | ((simp (disch := omega) only [holdE, getD_lt]; (repeat' split) <;> first | rfl | with_reducible assumption | omega | (exfalso; omega) | (simp_all; done) | (simp_all; omega)); done) | rfl
             done)
    · rw [scan_end (by omega)] at hi
      have hi0 := hi.symm
      clear hi
      repeat' (first
        | ((first
          | with_reducible refine AWP.regionL tyOk fun K hK => ?_
          | ((first | with_reducible refine GOn.isT ?_ ?_ | with_reducible refine HOn.isT ?_ ?_ | with_reducible refine pickK.isT ?_ ?_); focus (first | with_reducible rfl | with_reducible assumption | (simp only [NM, LN]; first | done | with_reducible assumption | omega)))
          | ((first | with_reducible refine GOn.isF ?_ ?_ | with_reducible refine HOn.isF ?_ ?_ | with_reducible refine pickK.isF ?_ ?_); focus (first | with_reducible rfl | with_reducible assumption | (simp only [NM, LN]; first | done | with_reducible assumption | omega)))
          | ((first | with_reducible refine GOn.split (fun h => ?_) (fun h => ?_) | with_reducible refine HOn.split (fun h => ?_) (fun h => ?_) | with_reducible refine pickK.split (fun h => ?_) (fun h => ?_)) <;> (try simp only [NM] at h))
          | with_reducible refine AWP.drawAll tyOk mixed 6 (by kernel_rfl) fun K hK => ?_) <;> simp -dsimp (disch := (first | omega | (simp only [LN]; omega))) only [go_sem, ↓reduceIte, Nat.reduceLT, Nat.reduceLeDiff, Nat.reduceEqDiff, Nat.reduceAdd, Nat.reduceMul, Nat.reduceSub, Nat.reduceBEq, Nat.reduceBNe, Int.reduceBEq, Int.reduceLT, Int.reduceLE, reduceCtorEq, Int.reduceToNat])
        | ((with_reducible refine hK _ ?_); clear hK K)
        | with_reducible refine AWP.seq ?_
        | with_reducible refine thenQ_normal ?_
        | with_reducible refine AWP.block ?_
        | with_reducible refine AWP.skip ?_
        | with_reducible refine AWP.ret ?_
        | with_reducible refine thenQ_ret ?_
        | with_reducible refine blockQ_ret ?_
        | with_reducible refine AWP.exit ?_
        | with_reducible refine thenQ_exit ?_
        | with_reducible refine blockQ_normal ?_
        | with_reducible refine blockQ_exit ?_
        | refine blockQ_exit_ne rfl ?_
        | (with_reducible refine And.intro (by (first | with_reducible rfl | with_reducible assumption | omega | (simp only [LN]; first | done | with_reducible rfl | omega) | (simp only [NM, LN]; first | done | with_reducible assumption | omega) | (and_intros <;> first | with_reducible assumption | omega | (simp only [LN]; omega)) | fail)) ?_)
        | ((with_reducible refine AWP.condG (T := TT) (b := ?_) ?_ ?_); rotate_left; exact rfl)
        | with_reducible refine CondG.t ?_
        | with_reducible refine CondG.f ?_
        | with_reducible refine CondG.not ?_
        | ((first | with_reducible refine CondG.isT ?_ ?_); focus (first | with_reducible rfl | with_reducible assumption | (simp only [NM, LN]; first | done | with_reducible assumption | omega)))
        | ((first | with_reducible refine CondG.isF ?_ ?_); focus (first | with_reducible rfl | with_reducible assumption | (simp only [NM, LN]; first | done | with_reducible assumption | omega)))
        | ((with_reducible refine CondG.split (fun h => ?_) (fun h => ?_)) <;> (try simp only [NM] at h)))
      rw [hi0]
      simp -dsimp (disch := (first | omega | (simp only [LN]; omega))) only [retQ, Try.results32, resVals, cellRV, resOf, St.rest, St.freeze, RT, go_sem, ↓reduceIte, Nat.reduceLT, Nat.reduceLeDiff, Nat.reduceEqDiff, Nat.reduceAdd, Nat.reduceMul, Nat.reduceSub, Nat.reduceBEq, Nat.reduceBNe, Int.reduceBEq, Int.reduceLT, Int.reduceLE, reduceCtorEq, Int.reduceToNat]
end Go.Bw
