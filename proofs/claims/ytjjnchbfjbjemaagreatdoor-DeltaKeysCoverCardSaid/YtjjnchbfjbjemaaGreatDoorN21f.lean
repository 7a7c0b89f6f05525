/-
  WHAT IS PROVED HERE, of this translation: find_cases, noOwn_rows, relDelete_sat, relUpsert_sat, validateKey_sat, chgValidate_sat, toList_inj, sEq_iff, IsCmp.refl, IsCmp.le_trans, cmpInts_is, cmpL_is, cmpS_is, lexC_is, cmpV_is, cmpCell_shift, cmpRows_nil_nil, cmpRows_nil_cons, cmpRows_cons_nil, cmpRows_cons, cmpRows_is, val_eq, take_eq_succ, get_of_eq, equalRow_sat, project_sat, rKeyOf_sat, idx_succ, findPos_cons, findI_cons, .., rd_val, rd_col, rd_cols, rd_ints, rd_tbl, rd_tbls, rd_fk, rd_fks, rd_con, rd_cons, rd_sch, reachBytes_eq, Sch.Ok.fits, laid, ownK, cells_oneC, cells_Row, cells_s_Row, bytes_Value, bytes_Row, rd_row, rd_rows, cells_Relation, bytes_Relation, rd_rel, rd_inst, InstOk.fits, confFits, apply_sat.
  A theorem that ends in sat says what the function it names returns, whatever the state it is called in; the bounds on its arguments stand ahead of it.
-/
import Derived.Laws.Strings
import Derived.ChangeArms
import Derived.SizedLaws
import Derived.JoinedOf
import Derived.ChangeSame
import Derived.RowKit
import Derived.Carry
import Derived.Test.YtjjnchbfjbjemaaGreatDoorN21e
set_option linter.unusedSimpArgs false
set_option linter.unusedVariables false

namespace Go.Bw
open Go.Proofs
attribute [local go_sem ↓] VOps_nil VOps_cons VOp_callJ VVal_callH VOps_guard GOn_tt GOn_ff GOn_tf GOn_ft GOn_not GOn_none HOn_none HOn_tt HOn_ff HOn_tf HOn_ft HOn_not VHead_nil VHead_cons VHead_guard VVal_move VVal_assign VVal_pickE pickK_true pickK_false VVal_not VVal_neg negK_int VVal_load loadK_fz loadK_ptr loadK_eptr VVal_fieldAddr VVal_field VVal_indexAddr idxK_sl idxK_ref VVal_index indexK_str VVal_extract VVal_binOp binK_one binK_agg VVal_build VVal_buildSlice VVal_makeFunc VVal_slice sliceK_str sliceK_sl sliceK_nil sliceK_ref VVal_slice3 VVal_nilCheck VVal_convert convKk_int convKk_str VVal_len VVal_max VVal_min VOp_assign assignK_int assignK_bool assignK_str assignK_clo assignK_sl assignK_nil assignK_ref assignK_agg assignK_fz assignK_ptr assignK_eptr assignK_any VOp_box VOp_alloc VOp_store storeK_ptr storeK_eptr VOp_buildSlice VOp_append appK_rr appK_rs appK_rn appK_ri appK_nr appK_ns appK_nn appK_ni appStd_eq VOp_copy copyK_ref VOp_clear clearK_ref VOp_cap VOp_eqNil VOp_move VOp_pick VOp_not VOp_neg VOp_load VOp_fieldAddr VOp_field VOp_indexAddr VOp_index VOp_extract VOp_binTmp VOp_binInt VOp_binStr VOp_binPtr VOp_build VOp_makeFunc VOp_slice VOp_nilCheck VOp_convert VOp_len VOp_max VOp_min mO_some mT_some pk_some pk_none look_cons del_cons
attribute [local go_sem] guardB gOf int_bne beq_true beq_false Bool.not_not gSlot pickK_true pickK_false negK_int loadK_fz loadK_ptr loadK_eptr idxK_sl idxK_ref indexK_str binK_one binK_agg sliceK_str sliceK_sl sliceK_nil sliceK_ref convKk_int convKk_str maxL minL assignK_int assignK_bool assignK_str assignK_clo assignK_sl assignK_nil assignK_ref assignK_agg assignK_fz assignK_ptr assignK_eptr assignK_any nilRow_eq takeRow_eq appended_eq storeK_ptr storeK_eptr store_mk appIn_eq appMk_eq marked_eq ovOut_nil ovOut_cons ovIn_nil ovIn_cons padRow_eq ysC capK_nil capK_ref ioSt_mk outB_nil outR_nil outB outR inB_nil inB_cons inR_nil inR_cons L.kl L.kl0 L.ids L.ids0 Option.getD_some evalO constA mO_some mT_some put_mk putO_some putO_none okD_some okD_none pk_some pk_none look_nil del_nil sput noBox_mk noRow_mk newBox_eq newRow0_eq St.killRow RowC.kill rowMap_mk rowOf ovAll ovAdd ovDel ovGet ovShift dstOf ysOf overlay_nil overlay_nil' overlay A.map V.map L.noPtr L.noPtr0 L.noRow L.noRow0 L.peek L.norm L.flat clos_int clos_bool clos_str clos_sl clos_nil clos_any clos_fz L.clos L.isFz L.kd moveL fieldOff eqCells eqCell eqOp oneOf boolOf intOfA tupOf vOf aggOf isPtrLike isSlice lenKind lenL nL elemTI loadV asV binL intBin intDivL shrL boolBin strBin strAdd ptrNil boundN partCells fillL placesOf setL chunks repL capsOf capL callOf argsOf frzV_int frzV_bool frzV_str frzV_sl frzV_nil frzV_fz frzV_any frzV_own frzV_clo frzV_ref frzV_eptr frzV_ptr frzRow_nil frzRow_ov frzRs_nil frzRs_cons frzCs_nil frzCs_cons frzO_some frzO_none frzN_int frzN_bool frzN_str frzN_sl frzN_nil frzN_any frzN_own List.map_cons List.map_nil List.cons_append List.nil_append List.append_nil List.length_cons List.length_nil List.length_map List.length_append List.headD_cons List.tail_cons List.getElem?_cons_zero List.getElem?_cons_succ List.drop_zero List.drop_succ_cons List.drop_nil List.take_succ_cons List.take_zero List.take_nil List.take_length List.filter_cons List.filter_nil List.elem_cons List.elem_nil List.all_cons List.all_nil Option.bind_some Option.map_some Option.some.injEq bne_self_eq_false beq_self_eq_true if_true if_false Bool.false_eq_true true_and and_true and_self Nat.zero_add Nat.add_zero Nat.zero_le Int.toNat_natCast Int.toNat_zero Option.isSome_some List.getElem?_toArray decide_true decide_false ge_iff_le gt_iff_lt Bool.not_true Bool.not_false Nat.le_refl Bool.and_true Bool.true_and Bool.and_false Bool.false_and eVal eRow eRow1 eRows eInt1 eInts eCol eCols eTbl eTbls eFK eFKs eCon eCons eSch eRel eInst eChg eChgs szOf getD_map_lt wrap_nat wrap_in List.take_of_length_le frz_eVal frz_eRow1 frz_eInt1 frz_eCol frz_eTbl frz_eFK frz_eCon frz_eRel frz_eChg noOwn_nil noOwn_cons noOwn_append L.isOwn noOwn_eVal noOwn_eRow1 noOwn_eInt1 noOwn_eCol noOwn_eTbl noOwn_eFK noOwn_eCon noOwn_eRel noOwn_eChg convK_2 convK_3 convK_5 convK_12 convK_21 convK_31 convK_115 convK_136 convK_144 convK_146 convK_155 TT_2 TT_3 TT_4 TT_5 TT_9 TT_12 TT_13 TT_21 TT_22 TT_23 TT_24 TT_25 TT_26 TT_27 TT_28 TT_29 TT_31 TT_36 TT_39 TT_40 TT_41 TT_42 TT_43 TT_52 TT_53 TT_54 TT_55 TT_57 TT_58 TT_59 TT_60 TT_71 TT_77 TT_78 TT_79 TT_90 TT_91 TT_93 TT_94 TT_99 TT_100 TT_115 TT_136 TT_144 TT_146 TT_155 boolTy_4 eqK_60 eqK_91 eqK_100
attribute [local congr] VOps.congr VHead.congr VOp.congr VVal.congr pk.congr assignK.congr appK.congr appStd.congr copyK.congr clearK.congr storeK.congr loadK.congr idxK.congr sliceK.congr indexK.congr binK.congr convKk.congr
def upsertR (t : Tbl) (rows : List Row) (row : Row) : List Row :=
  if findB t rows (keyOf t.pk row) then rows.set (findI t rows (keyOf t.pk row)).toNat row else rows.take (findI t rows (keyOf t.pk row)).toNat ++ [row] ++ rows.drop (findI t rows (keyOf t.pk row)).toNat
def deleteR (t : Tbl) (rows : List Row) (key : Row) : List Row :=
  if findB t rows key then rows.take (findI t rows key).toNat ++ rows.drop ((findI t rows key).toNat + 1) else rows

theorem find_cases (t : Tbl) (rows : List Row) (key : Row) : (findB t rows key = false ∧ ∃ k : Nat, k ≤ rows.length ∧ findI t rows key = (k : Int)) ∨ (findB t rows key = true ∧ ∃ k : Nat, k < rows.length ∧ findI t rows key = (k : Int)) := by
  unfold findB findI findPos
  rcases idx_cases (atKey t key) rows 0 with ⟨h1, h2⟩ | ⟨j, hj, h1, h2, h3⟩
  · rw [h1]
    exact .inl ⟨rfl, rows.length, Nat.le_refl _, rfl⟩
  · rw [h1, Nat.zero_add]
    rw [if_neg (by omega), if_neg (by omega)]
    cases hb : (cmpRows (keyOf t.pk (rows.getD ((j : Nat) : Int).toNat [])) key == 0) with
    | false => exact .inl ⟨rfl, j, Nat.le_of_lt hj, rfl⟩
    | true => exact .inr ⟨rfl, j, hj, rfl⟩
theorem noOwn_rows (l : List Row) : noOwn (l.map eRow1) := by
  have := noOwn_eRow1 l
  rw [this]; trivial

set_option maxHeartbeats 16000000 in
theorem relDelete_sat (t : Tbl) (rows : List Row) (key : Row) (h1 : t.pk.length ≤ 1099511627776) (h2 : rows.length ≤ 1099511627776) (h3 : key.length ≤ 140737488355328) (h4 : ∀ r ∈ rows, r.length ≤ 1099511627776) :
    Sat Tryz.prog 22 [.agg (eTbl t), .one (eRows rows), .one (eRow key)] (.tup [.one (eRows (deleteR t rows key)), oB (findB t rows key)]) := by
  rcases find_cases t rows key with ⟨hb, k, hk, hi⟩ | ⟨hb, k, hk, hi⟩
  · have sp : deleteR t rows key = rows := by rw [deleteR, hb]; rfl
    rw [sp, hb]
    refine sat_of_body tyOk Tryz.func22 rfl (by kernel_rfl) ⟨Nat.le_of_ble_eq_true rfl, Nat.le_of_ble_eq_true rfl⟩ fun w0 m0 F0 => ?_
    simp only [Tryz.ntmps22, envOf, Nat.reduceAdd]
    repeat' (first | ((first | with_reducible refine qV tyOk fun K hK => ?_ | (with_reducible first | refine qG ?_ | refine qH ?_ | refine qP ?_ | refine qGx ?_ | refine qHx ?_ | refine qPx ?_) | ((with_reducible first | refine qS ?_ ?_ | refine qT ?_ ?_ | refine qU ?_ ?_) <;> (intro h; try simp only [NM] at h)) | with_reducible refine yD tyOk mixed 6 (by kernel_rfl) fun K hK => ?_ | ((with_reducible refine CallJ.is ?_); refine CallJ.io [] [] [] [(2, 12)] [] [12] [] [12] (relClone_own rows h2 h4) rfl ⟨rfl, rfl, rfl, rfl⟩ ?_ ?_ ?_; (focus (simp -dsimp (disch := (first | omega | (simp only [LN]; omega))) only [go_sem, ↓reduceIte, seval, hb, hi, dropL_nil, dropL_nil', dropL_cons]; done)); (focus (simp -dsimp (disch := (first | omega | (simp only [LN]; omega))) only [go_sem, ↓reduceIte, seval, hb, hi, dropL_nil, dropL_nil', dropL_cons]; done))) | ((with_reducible refine CallJ.is ?_); (first | refine CallJ.pure (find_sat t rows key h1 (by omega) h3) ?_ | ((apply CallJ.lentI); (focus (simp -dsimp (disch := (first | omega | (simp only [LN]; omega))) only [go_sem, ↓reduceIte, seval, hb, hi, dropL_nil, dropL_nil', dropL_cons]; rfl)); (focus (first | exact (find_sat t rows key h1 (by omega) h3)))))) | ((with_reducible refine CallH.is ?_); (first | refine CallH.intro (find_sat t rows key h1 (by omega) h3) ?_))) <;> simp -dsimp (disch := (first | omega | (simp only [LN]; omega))) only [go_sem, ↓reduceIte, seval, hb, hi, dropL_nil, dropL_nil', dropL_cons]) | ((with_reducible refine hK _ ?_); clear hK K) | (with_reducible first | refine qA ?_ | refine qB ?_ | refine qC ?_ | refine qD ?_ | refine qE ?_ | refine qF ?_ | refine qL ?_ | refine qM ?_ | refine qN ?_ | refine qO ?_ | refine qQ ?_) | refine qR rfl ?_ | (with_reducible refine AI ?_) | ((with_reducible refine qW (T := TT) (b := ?_) ?_ ?_); rotate_left; exact rfl) | (with_reducible first | refine qX ?_ | refine qY ?_ | refine qZ ?_) | (with_reducible first | refine qI ?_ | refine qIx ?_ | fail) | ((with_reducible refine yS ?_ ?_) <;> (intro h; try simp only [NM] at h)))
    simp -dsimp (disch := (first | omega | (simp only [LN]; omega))) only [retQ, Tryz.results22, resVals, cellRV, resOf, St.rest, St.freeze, RT, go_sem, ↓reduceIte, seval]
  · have sp : deleteR t rows key = rows.take k ++ rows.drop (k + 1) := by rw [deleteR, hb, hi]; rfl
    rw [sp, hb]
    have hl : (rows.map eRow1).length = rows.length := by simp
    have fz := frz_eRow1 (rows.take k ++ rows.drop (k + 1))
    refine sat_of_body tyOk Tryz.func22 rfl (by kernel_rfl) ⟨Nat.le_of_ble_eq_true rfl, Nat.le_of_ble_eq_true rfl⟩ fun w0 m0 F0 => ?_
    simp only [Tryz.ntmps22, envOf, Nat.reduceAdd]
    repeat' (first | ((first | with_reducible refine qV tyOk fun K hK => ?_ | (with_reducible first | refine qG ?_ | refine qH ?_ | refine qP ?_ | refine qGx ?_ | refine qHx ?_ | refine qPx ?_) | ((with_reducible first | refine qS ?_ ?_ | refine qT ?_ ?_ | refine qU ?_ ?_) <;> (intro h; try simp only [NM] at h)) | with_reducible refine yD tyOk mixed 6 (by kernel_rfl) fun K hK => ?_ | ((with_reducible refine CallJ.is ?_); refine CallJ.io [] [] [] [(2, 12)] [] [12] [] [12] (relClone_own rows h2 h4) rfl ⟨rfl, rfl, rfl, rfl⟩ ?_ ?_ ?_; (focus (simp -dsimp (disch := (first | omega | (simp only [LN]; omega))) only [go_sem, ↓reduceIte, seval, hb, hi, dropL_nil, dropL_nil', dropL_cons]; done)); (focus (simp -dsimp (disch := (first | omega | (simp only [LN]; omega))) only [go_sem, ↓reduceIte, seval, hb, hi, dropL_nil, dropL_nil', dropL_cons]; done))) | ((with_reducible refine CallJ.is ?_); refine CallJ.io [] [(1000, 8)] [] [(6, 27)] [] [8, 27] [] [8, 27] (deleteRows_own (rows.map eRow1) k (by omega) (by omega) (noOwn_rows rows)) rfl ⟨rfl, rfl, rfl, rfl⟩ ?_ ?_ ?_; (focus (simp -dsimp (disch := (first | omega | (simp only [LN]; omega))) only [go_sem, ↓reduceIte, seval, hb, hi, dropL_nil, dropL_nil', dropL_cons]; done)); (focus (simp -dsimp (disch := (first | omega | (simp only [LN]; omega))) only [go_sem, ↓reduceIte, seval, hb, hi, dropL_nil, dropL_nil', dropL_cons]; done))) | ((with_reducible refine CallJ.is ?_); (first | refine CallJ.pure (find_sat t rows key h1 (by omega) h3) ?_ | ((apply CallJ.lentI); (focus (simp -dsimp (disch := (first | omega | (simp only [LN]; omega))) only [go_sem, ↓reduceIte, seval, hb, hi, dropL_nil, dropL_nil', dropL_cons]; rfl)); (focus (first | exact (find_sat t rows key h1 (by omega) h3)))))) | ((with_reducible refine CallH.is ?_); (first | refine CallH.intro (find_sat t rows key h1 (by omega) h3) ?_))) <;> simp -dsimp (disch := (first | omega | (simp only [LN]; omega))) only [go_sem, ↓reduceIte, seval, hb, hi, dropL_nil, dropL_nil', dropL_cons]) | ((with_reducible refine hK _ ?_); clear hK K) | (with_reducible first | refine qA ?_ | refine qB ?_ | refine qC ?_ | refine qD ?_ | refine qE ?_ | refine qF ?_ | refine qL ?_ | refine qM ?_ | refine qN ?_ | refine qO ?_ | refine qQ ?_) | refine qR rfl ?_ | (with_reducible refine AI ?_) | ((with_reducible refine qW (T := TT) (b := ?_) ?_ ?_); rotate_left; exact rfl) | (with_reducible first | refine qX ?_ | refine qY ?_ | refine qZ ?_) | (with_reducible first | refine qI ?_ | refine qIx ?_ | fail) | ((with_reducible refine yS ?_ ?_) <;> (intro h; try simp only [NM] at h)))
    simp -dsimp (disch := (first | omega | (simp only [LN]; omega))) only [retQ, Tryz.results22, resVals, cellRV, resOf, St.rest, St.freeze, RT, go_sem, ↓reduceIte, seval]
    have el : (List.take k (rows.map eRow1)).length + (List.drop (k + 1) (rows.map eRow1)).length + 1 = rows.length := by simp; omega
    have ex : List.take (rows.length - 1) (List.map (fun x => List.map (L.frzN 4) x) (List.take k (rows.map eRow1) ++ List.drop (k + 1) (rows.map eRow1) ++ [[L.sl 3 []]])) = (rows.take k ++ rows.drop (k + 1)).map eRow1 := by
      have e0 : List.take k (rows.map eRow1) ++ List.drop (k + 1) (rows.map eRow1) = (rows.take k ++ rows.drop (k + 1)).map eRow1 := by simp [List.map_take, List.map_drop]
      rw [e0, List.map_append, fz]
      exact List.take_left' (by simp; omega)
    rw [if_pos (by omega), ex]

set_option maxHeartbeats 16000000 in
theorem relUpsert_sat (t : Tbl) (rows : List Row) (row : Row) (h1 : t.pk.length ≤ 1099511627776) (h2 : rows.length ≤ 1099511627776) (h3 : row.length ≤ 1099511627776) (h4 : ∀ r ∈ rows, r.length ≤ 1099511627776) :
    Sat Tryz.prog 21 [.agg (eTbl t), .one (eRows rows), .one (eRow row)] (.v (.one (eRows (upsertR t rows row)))) := by
  have b1 : (keyOf t.pk row).length ≤ 140737488355328 := by rw [keyOf_length]; omega
  rcases find_cases t rows (keyOf t.pk row) with ⟨hb, k, hk, hi⟩ | ⟨hb, k, hk, hi⟩
  · have sp : upsertR t rows row = rows.take k ++ [row] ++ rows.drop k := by rw [upsertR, hb, hi]; rfl
    rw [sp]
    have hl : (rows.map eRow1).length = rows.length := by simp
    refine sat_of_body tyOk Tryz.func21 rfl (by kernel_rfl) ⟨Nat.le_of_ble_eq_true rfl, Nat.le_of_ble_eq_true rfl⟩ fun w0 m0 F0 => ?_
    simp only [Tryz.ntmps21, envOf, Nat.reduceAdd]
    repeat' (first | ((first | with_reducible refine qV tyOk fun K hK => ?_ | (with_reducible first | refine qG ?_ | refine qH ?_ | refine qP ?_ | refine qGx ?_ | refine qHx ?_ | refine qPx ?_) | ((with_reducible first | refine qS ?_ ?_ | refine qT ?_ ?_ | refine qU ?_ ?_) <;> (intro h; try simp only [NM] at h)) | with_reducible refine yD tyOk mixed 6 (by kernel_rfl) fun K hK => ?_ | ((with_reducible refine CallJ.is ?_); refine CallJ.io [] [] [] [(2, 11)] [] [11] [] [11] (relClone_own rows h2 h4) rfl ⟨rfl, rfl, rfl, rfl⟩ ?_ ?_ ?_; (focus (simp -dsimp (disch := (first | omega | (simp only [LN]; omega))) only [go_sem, ↓reduceIte, seval, hb, hi, dropL_nil, dropL_nil', dropL_cons]; done)); (focus (simp -dsimp (disch := (first | omega | (simp only [LN]; omega))) only [go_sem, ↓reduceIte, seval, hb, hi, dropL_nil, dropL_nil', dropL_cons]; done))) | ((with_reducible refine CallJ.is ?_); refine CallJ.io [] [(1000, 7), (1001, 32)] [] [(6, 33)] [] [7, 32, 33] [] [7, 32, 33] (insertRow_own (rows.map eRow1) (row.map eVal) k (by omega) (by omega) (noOwn_rows rows)) rfl ⟨rfl, rfl, rfl, rfl⟩ ?_ ?_ ?_; (focus (simp -dsimp (disch := (first | omega | (simp only [LN]; omega))) only [go_sem, ↓reduceIte, seval, hb, hi, dropL_nil, dropL_nil', dropL_cons]; done)); (focus (simp -dsimp (disch := (first | omega | (simp only [LN]; omega))) only [go_sem, ↓reduceIte, seval, hb, hi, dropL_nil, dropL_nil', dropL_cons]; done))) | ((with_reducible refine CallJ.is ?_); (first | refine CallJ.pure (cloneRow_sat row h3) ?_ | refine CallJ.pure (key_sat t row h1) ?_ | refine CallJ.pure (find_sat t rows (keyOf t.pk row) h1 (by omega) b1) ?_ | ((apply CallJ.lentI); (focus (simp -dsimp (disch := (first | omega | (simp only [LN]; omega))) only [go_sem, ↓reduceIte, seval, hb, hi, dropL_nil, dropL_nil', dropL_cons]; rfl)); (focus (first | exact (cloneRow_sat row h3) | exact (key_sat t row h1) | exact (find_sat t rows (keyOf t.pk row) h1 (by omega) b1)))))) | ((with_reducible refine CallH.is ?_); (first | refine CallH.intro (cloneRow_sat row h3) ?_ | refine CallH.intro (key_sat t row h1) ?_ | refine CallH.intro (find_sat t rows (keyOf t.pk row) h1 (by omega) b1) ?_ | ((first | refine CallH.lent (cloneRow_sat row h3) ?_ ?_; focus (simp -dsimp (disch := (first | omega | (simp only [LN]; omega))) only [go_sem, ↓reduceIte, seval, hb, hi, dropL_nil, dropL_nil', dropL_cons]; done) | refine CallH.lent (key_sat t row h1) ?_ ?_; focus (simp -dsimp (disch := (first | omega | (simp only [LN]; omega))) only [go_sem, ↓reduceIte, seval, hb, hi, dropL_nil, dropL_nil', dropL_cons]; done) | refine CallH.lent (find_sat t rows (keyOf t.pk row) h1 (by omega) b1) ?_ ?_; focus (simp -dsimp (disch := (first | omega | (simp only [LN]; omega))) only [go_sem, ↓reduceIte, seval, hb, hi, dropL_nil, dropL_nil', dropL_cons]; done)))))) <;> simp -dsimp (disch := (first | omega | (simp only [LN]; omega))) only [go_sem, ↓reduceIte, seval, hb, hi, dropL_nil, dropL_nil', dropL_cons]) | ((with_reducible refine hK _ ?_); clear hK K) | (with_reducible first | refine qA ?_ | refine qB ?_ | refine qC ?_ | refine qD ?_ | refine qE ?_ | refine qF ?_ | refine qL ?_ | refine qM ?_ | refine qN ?_ | refine qO ?_ | refine qQ ?_) | refine qR rfl ?_ | (with_reducible refine AI ?_) | ((with_reducible refine qW (T := TT) (b := ?_) ?_ ?_); rotate_left; exact rfl) | (with_reducible first | refine qX ?_ | refine qY ?_ | refine qZ ?_) | (with_reducible first | refine qI ?_ | refine qIx ?_ | fail) | ((with_reducible refine yS ?_ ?_) <;> (intro h; try simp only [NM] at h)))
    have ex : List.take k (rows.map eRow1) ++ [[L.sl 3 (row.map eVal)]] ++ List.drop k (rows.map eRow1) = (rows.take k ++ [row] ++ rows.drop k).map eRow1 := by simp [List.map_take, List.map_drop, eRow1, eRow]
    have el : (rows.take k ++ [row] ++ rows.drop k).length = rows.length + 1 := by simp; omega
    simp only [ex]
    simp -dsimp (disch := (first | omega | (simp only [LN]; omega))) only [retQ, Tryz.results21, resVals, cellRV, resOf, St.rest, St.freeze, RT, go_sem, ↓reduceIte, seval]
    have el2 : (rows.take k).length + 1 + (rows.drop k).length = rows.length + 1 := by simp; omega
    rw [if_pos (by omega)]
  · have sp : upsertR t rows row = rows.set k row := by rw [upsertR, hb, hi]; rfl
    rw [sp]
    refine sat_of_body tyOk Tryz.func21 rfl (by kernel_rfl) ⟨Nat.le_of_ble_eq_true rfl, Nat.le_of_ble_eq_true rfl⟩ fun w0 m0 F0 => ?_
    simp only [Tryz.ntmps21, envOf, Nat.reduceAdd]
    repeat' (first | ((first | with_reducible refine qV tyOk fun K hK => ?_ | (with_reducible first | refine qG ?_ | refine qH ?_ | refine qP ?_ | refine qGx ?_ | refine qHx ?_ | refine qPx ?_) | ((with_reducible first | refine qS ?_ ?_ | refine qT ?_ ?_ | refine qU ?_ ?_) <;> (intro h; try simp only [NM] at h)) | with_reducible refine yD tyOk mixed 6 (by kernel_rfl) fun K hK => ?_ | ((with_reducible refine CallJ.is ?_); refine CallJ.io [] [] [] [(2, 11)] [] [11] [] [11] (relClone_own rows h2 h4) rfl ⟨rfl, rfl, rfl, rfl⟩ ?_ ?_ ?_; (focus (simp -dsimp (disch := (first | omega | (simp only [LN]; omega))) only [go_sem, ↓reduceIte, seval, hb, hi, dropL_nil, dropL_nil', dropL_cons]; done)); (focus (simp -dsimp (disch := (first | omega | (simp only [LN]; omega))) only [go_sem, ↓reduceIte, seval, hb, hi, dropL_nil, dropL_nil', dropL_cons]; done))) | ((with_reducible refine CallJ.is ?_); (first | refine CallJ.pure (cloneRow_sat row h3) ?_ | refine CallJ.pure (key_sat t row h1) ?_ | refine CallJ.pure (find_sat t rows (keyOf t.pk row) h1 (by omega) b1) ?_ | ((apply CallJ.lentI); (focus (simp -dsimp (disch := (first | omega | (simp only [LN]; omega))) only [go_sem, ↓reduceIte, seval, hb, hi, dropL_nil, dropL_nil', dropL_cons]; rfl)); (focus (first | exact (cloneRow_sat row h3) | exact (key_sat t row h1) | exact (find_sat t rows (keyOf t.pk row) h1 (by omega) b1)))))) | ((with_reducible refine CallH.is ?_); (first | refine CallH.intro (cloneRow_sat row h3) ?_ | refine CallH.intro (key_sat t row h1) ?_ | refine CallH.intro (find_sat t rows (keyOf t.pk row) h1 (by omega) b1) ?_ | ((first | refine CallH.lent (cloneRow_sat row h3) ?_ ?_; focus (simp -dsimp (disch := (first | omega | (simp only [LN]; omega))) only [go_sem, ↓reduceIte, seval, hb, hi, dropL_nil, dropL_nil', dropL_cons]; done) | refine CallH.lent (key_sat t row h1) ?_ ?_; focus (simp -dsimp (disch := (first | omega | (simp only [LN]; omega))) only [go_sem, ↓reduceIte, seval, hb, hi, dropL_nil, dropL_nil', dropL_cons]; done) | refine CallH.lent (find_sat t rows (keyOf t.pk row) h1 (by omega) b1) ?_ ?_; focus (simp -dsimp (disch := (first | omega | (simp only [LN]; omega))) only [go_sem, ↓reduceIte, seval, hb, hi, dropL_nil, dropL_nil', dropL_cons]; done)))))) <;> simp -dsimp (disch := (first | omega | (simp only [LN]; omega))) only [go_sem, ↓reduceIte, seval, hb, hi, dropL_nil, dropL_nil', dropL_cons]) | ((with_reducible refine hK _ ?_); clear hK K) | (with_reducible first | refine qA ?_ | refine qB ?_ | refine qC ?_ | refine qD ?_ | refine qE ?_ | refine qF ?_ | refine qL ?_ | refine qM ?_ | refine qN ?_ | refine qO ?_ | refine qQ ?_) | refine qR rfl ?_ | (with_reducible refine AI ?_) | ((with_reducible refine qW (T := TT) (b := ?_) ?_ ?_); rotate_left; exact rfl) | (with_reducible first | refine qX ?_ | refine qY ?_ | refine qZ ?_) | (with_reducible first | refine qI ?_ | refine qIx ?_ | fail) | ((with_reducible refine yS ?_ ?_) <;> (intro h; try simp only [NM] at h)))
    have ex : (rows.map eRow1).set k [L.sl 3 (row.map eVal)] = (rows.set k row).map eRow1 := by simp [List.map_set, eRow1, eRow]
    have el : (rows.set k row).length = rows.length := by simp
    simp only [ex]
    simp -dsimp (disch := (first | omega | (simp only [LN]; omega))) only [retQ, Tryz.results21, resVals, cellRV, resOf, St.rest, St.freeze, RT, go_sem, ↓reduceIte, seval]
    rw [if_pos (by omega)]

def keyCellE (t : Tbl) (k : Nat) (v : Val) : Option Int :=
  if valE v ≠ 0 then some (valE v) else if v.kind ≠ (t.cols.getD (t.pk.getD k 0).toNat zCol).kind then some 7 else none
def keyE (t : Tbl) (r : Row) : Int :=
  if r.length ≠ t.pk.length then 3 else match scan (keyCellE t) r 0 with
    | some e => e
    | none => 0
set_option maxHeartbeats 8000000 in
theorem validateKey_sat (t : Tbl) (r : Row) (h1 : r.length ≤ 140737488355328) (h2 : t.pk.length ≤ 140737488355328) (h3 : t.cols.length ≤ 140737488355328) (hk : ∀ k, ∀ h : k < t.pk.length, 0 ≤ t.pk[k] ∧ t.pk[k] < t.cols.length) :
    Sat Tryz.prog 44 [.agg (eTbl t), .one (eRow r)] (.v (oI (keyE t r))) := by
  refine sat_of_body tyOk Tryz.func44 rfl (by kernel_rfl) ⟨Nat.le_of_ble_eq_true rfl, Nat.le_of_ble_eq_true rfl⟩ fun w0 m0 F0 => ?_
  simp only [Tryz.ntmps44, envOf, Nat.reduceAdd]
  repeat' (first | ((first | with_reducible refine qV tyOk fun K hK => ?_ | (with_reducible first | refine qG ?_ | refine qH ?_ | refine qP ?_ | refine qGx ?_ | refine qHx ?_ | refine qPx ?_) | ((with_reducible first | refine qS ?_ ?_ | refine qT ?_ ?_ | refine qU ?_ ?_) <;> (intro h; try simp only [NM] at h)) | with_reducible refine yD tyOk mixed 6 (by kernel_rfl) fun K hK => ?_ | ((with_reducible refine CallJ.is ?_); (first | refine CallJ.pure (validate_sat _) ?_ | ((apply CallJ.lentI); (focus (simp -dsimp (disch := (first | omega | (simp only [LN]; omega))) only [go_sem, ↓reduceIte, seval]; rfl)); (focus (first | exact (validate_sat _)))))) | ((with_reducible refine CallH.is ?_); (first | refine CallH.intro (validate_sat _) ?_))) <;> simp -dsimp (disch := (first | omega | (simp only [LN]; omega))) only [go_sem, ↓reduceIte, seval]) | ((with_reducible refine hK _ ?_); clear hK K) | (with_reducible first | refine qA ?_ | refine qB ?_ | refine qC ?_ | refine qD ?_ | refine qE ?_ | refine qF ?_ | refine qL ?_ | refine qM ?_ | refine qN ?_ | refine qO ?_ | refine qQ ?_) | refine qR rfl ?_ | (with_reducible refine AI ?_) | ((with_reducible refine qW (T := TT) (b := ?_) ?_ ?_); rotate_left; exact rfl) | (with_reducible first | refine qX ?_ | refine qY ?_ | refine qZ ?_) | (with_reducible first | refine qI ?_ | refine qIx ?_ | fail) | ((with_reducible refine yS ?_ ?_) <;> (intro h; try simp only [NM] at h)))
  rotate_left
  · simp -dsimp (disch := (first | omega | (simp only [LN]; omega))) only [retQ, Tryz.results44, resVals, cellRV, resOf, St.rest, St.freeze, RT, go_sem, ↓reduceIte, seval]
    have : r.length ≠ t.pk.length := by omega
    simp [keyE, this]
  have hl : r.length = t.pk.length := by omega
  have spec : keyE t r = match scan (keyCellE t) r 0 with
    | some e => e
    | none => 0 := by simp [keyE, hl]
  rw [spec]
  refine AWP.loop (ι := {k : Nat // k ≤ r.length ∧ scan (keyCellE t) (r.drop k) k = scan (keyCellE t) r 0}) (fun k => ⟨40, [(2, .v (.one (.ptr 2 0))), (14, .v (.one (eRow r))), (15, .v (oI r.length)), (16, .v (oI k.1))], [(2, eTbl t)], []⟩) (fun k => r.length - k.1) ⟨0, Nat.zero_le _, rfl⟩ ?_ fun ⟨k, hkl, hi⟩ => ?_
  · refine St.le_mk ?_ ?_ ?_ <;> simp only [LE, EN, Nat.reduceEqDiff, reduceIte, Nat.reduceSub, eTbl]
  rcases Nat.lt_or_ge k r.length with hc | hc
  · have hc' : k < t.pk.length := by omega
    obtain ⟨p1, p2⟩ := hk k hc'
    repeat' (first | ((first | with_reducible refine qV tyOk fun K hK => ?_ | (with_reducible first | refine qG ?_ | refine qH ?_ | refine qP ?_ | refine qGx ?_ | refine qHx ?_ | refine qPx ?_) | ((with_reducible first | refine qS ?_ ?_ | refine qT ?_ ?_ | refine qU ?_ ?_) <;> (intro h; try simp only [NM] at h)) | with_reducible refine yD tyOk mixed 6 (by kernel_rfl) fun K hK => ?_ | ((with_reducible refine CallJ.is ?_); (first | refine CallJ.pure (validate_sat _) ?_ | ((apply CallJ.lentI); (focus (simp -dsimp (disch := (first | omega | (simp only [LN]; omega))) only [go_sem, ↓reduceIte, seval]; rfl)); (focus (first | exact (validate_sat _)))))) | ((with_reducible refine CallH.is ?_); (first | refine CallH.intro (validate_sat _) ?_))) <;> simp -dsimp (disch := (first | omega | (simp only [LN]; omega))) only [go_sem, ↓reduceIte, seval]) | ((with_reducible refine hK _ ?_); clear hK K) | (with_reducible first | refine qA ?_ | refine qB ?_ | refine qC ?_ | refine qD ?_ | refine qE ?_ | refine qF ?_ | refine qL ?_ | refine qM ?_ | refine qN ?_ | refine qO ?_ | refine qQ ?_) | refine qR rfl ?_ | (with_reducible refine AI ?_) | ((with_reducible refine qW (T := TT) (b := ?_) ?_ ?_); rotate_left; exact rfl) | (with_reducible first | refine qX ?_ | refine qY ?_ | refine qZ ?_) | (with_reducible first | refine qI ?_ | refine qIx ?_ | fail) | ((with_reducible refine yS ?_ ?_) <;> (intro h; try simp only [NM] at h)))
    all_goals
      first
        | (have hs : (keyCellE t) k r[k] = none := by
             (simp (disch := omega) only [keyCellE, getD_lt]; (repeat' split) <;> first | rfl | with_reducible assumption | omega | (exfalso; omega) | (simp_all; done) | (simp_all; omega))
           refine ⟨⟨k + 1, by omega, by rw [scan_step (by omega) hs, hi]⟩, by simp only; omega, ?_⟩
           refine St.le_mk ?_ ?_ ?_ <;> simp only [LE, EN, Nat.reduceEqDiff, reduceIte, Nat.reduceSub, eTbl]
           done)
        | (simp -dsimp (disch := (first | omega | (simp only [LN]; omega))) only [retQ, Tryz.results44, resVals, cellRV, resOf, St.rest, St.freeze, RT, go_sem, ↓reduceIte, seval]
           rw [scan_leaf (by omega) ?_ hi]
           all_goals first | with_reducible rfl | ((simp (disch := omega) only [keyCellE, getD_lt]; (repeat' split) <;> first | rfl | with_reducible assumption | omega | (exfalso; omega) | (simp_all; done) | (simp_all; omega)); done) | rfl
           done)
  · rw [scan_end (by omega)] at hi
    repeat' (first | ((first | with_reducible refine qV tyOk fun K hK => ?_ | (with_reducible first | refine qG ?_ | refine qH ?_ | refine qP ?_ | refine qGx ?_ | refine qHx ?_ | refine qPx ?_) | ((with_reducible first | refine qS ?_ ?_ | refine qT ?_ ?_ | refine qU ?_ ?_) <;> (intro h; try simp only [NM] at h)) | with_reducible refine yD tyOk mixed 6 (by kernel_rfl) fun K hK => ?_) <;> simp -dsimp (disch := (first | omega | (simp only [LN]; omega))) only [go_sem, ↓reduceIte, seval]) | ((with_reducible refine hK _ ?_); clear hK K) | (with_reducible first | refine qA ?_ | refine qB ?_ | refine qC ?_ | refine qD ?_ | refine qE ?_ | refine qF ?_ | refine qL ?_ | refine qM ?_ | refine qN ?_ | refine qO ?_ | refine qQ ?_) | refine qR rfl ?_ | (with_reducible refine AI ?_) | ((with_reducible refine qW (T := TT) (b := ?_) ?_ ?_); rotate_left; exact rfl) | (with_reducible first | refine qX ?_ | refine qY ?_ | refine qZ ?_) | (with_reducible first | refine qI ?_ | refine qIx ?_ | fail) | ((with_reducible refine yS ?_ ?_) <;> (intro h; try simp only [NM] at h)))
    simp -dsimp (disch := (first | omega | (simp only [LN]; omega))) only [retQ, Tryz.results44, resVals, cellRV, resOf, St.rest, St.freeze, RT, go_sem, ↓reduceIte, seval]
    rw [← hi]

def tblOf (s : Sch) (name : ByteArray) : Tbl := s.tables.getD (tblAt s.tables name).toNat zTbl
def chgE (s : Sch) (c : Chg) : Int :=
  if (c.kind = 1 ∧ 0 < c.key.length) ∨ (c.kind = 2 ∧ 0 < c.row.length) ∨ (c.kind ≠ 1 ∧ c.kind ≠ 2) then 3
  else if tblAt s.tables c.table < 0 then 4
  else if c.kind = 1 then rowE (tblOf s c.table) c.row else keyE (tblOf s c.table) c.key
set_option maxHeartbeats 8000000 in
theorem chgValidate_sat (s : Sch) (c : Chg) (hs : schE s = 0) (h1 : c.key.length ≤ 140737488355328) (h2 : c.row.length ≤ 140737488355328) :
    Sat Tryz.prog 19 [.agg (eSch s), .agg (eChg c)] (.v (oI (chgE s c))) := by
  have ok := okSch_of hs
  have m1 := ok.n6
  rcases idx_cases (fun t => sEq t.name c.table) s.tables 0 with ⟨e1, _⟩ | ⟨k, hk, e1, _, _⟩
  · have e1 : tblAt s.tables c.table = -1 := e1
    have fs := findTable_sat s c.table (by omega)
    rw [e1, mx0_neg] at fs
    refine sat_of_body tyOk Tryz.func19 rfl (by kernel_rfl) ⟨Nat.le_of_ble_eq_true rfl, Nat.le_of_ble_eq_true rfl⟩ fun w0 m0 F0 => ?_
    simp only [Tryz.ntmps19, envOf, Nat.reduceAdd]
    repeat' (first | ((first | with_reducible refine qV tyOk fun K hK => ?_ | (with_reducible first | refine qG ?_ | refine qH ?_ | refine qP ?_ | refine qGx ?_ | refine qHx ?_ | refine qPx ?_) | ((with_reducible first | refine qS ?_ ?_ | refine qT ?_ ?_ | refine qU ?_ ?_) <;> (intro h; try simp only [NM] at h)) | with_reducible refine yD tyOk mixed 6 (by kernel_rfl) fun K hK => ?_ | ((with_reducible refine CallJ.is ?_); (first | refine CallJ.pure (fs) ?_ | ((apply CallJ.lentI); (focus (simp -dsimp (disch := (first | omega | (simp only [LN]; omega))) only [go_sem, ↓reduceIte, seval]; rfl)); (focus (first | exact (fs)))))) | ((with_reducible refine CallH.is ?_); (first | refine CallH.intro (fs) ?_))) <;> simp -dsimp (disch := (first | omega | (simp only [LN]; omega))) only [go_sem, ↓reduceIte, seval]) | ((with_reducible refine hK _ ?_); clear hK K) | (with_reducible first | refine qA ?_ | refine qB ?_ | refine qC ?_ | refine qD ?_ | refine qE ?_ | refine qF ?_ | refine qL ?_ | refine qM ?_ | refine qN ?_ | refine qO ?_ | refine qQ ?_) | refine qR rfl ?_ | (with_reducible refine AI ?_) | ((with_reducible refine qW (T := TT) (b := ?_) ?_ ?_); rotate_left; exact rfl) | (with_reducible first | refine qX ?_ | refine qY ?_ | refine qZ ?_) | (with_reducible first | refine qI ?_ | refine qIx ?_ | fail) | ((with_reducible refine yS ?_ ?_) <;> (intro h; try simp only [NM] at h)))
    all_goals simp -dsimp (disch := (first | omega | (simp only [LN]; omega))) only [retQ, Tryz.results19, resVals, cellRV, resOf, St.rest, St.freeze, RT, go_sem, ↓reduceIte, seval]
    all_goals
      (simp only [chgE, e1]
       (repeat' split) <;> first | rfl | omega | (simp_all; done) | (simp_all; omega))
  · have e1 : tblAt s.tables c.table = (k : Int) := by unfold tblAt; simpa using e1
    have fs := findTable_sat s c.table (by omega)
    rw [e1, mx0_nat] at fs
    have et : tblOf s c.table = s.tables[k] := by simp only [tblOf, e1, Int.toNat_natCast]; exact getD_lt _ hk
    have o := ok.tbl _ (List.getElem_mem hk)
    have q1 := o.cols6
    have q2 := o.pk6
    refine sat_of_body tyOk Tryz.func19 rfl (by kernel_rfl) ⟨Nat.le_of_ble_eq_true rfl, Nat.le_of_ble_eq_true rfl⟩ fun w0 m0 F0 => ?_
    simp only [Tryz.ntmps19, envOf, Nat.reduceAdd]
    repeat' (first | ((first | with_reducible refine qV tyOk fun K hK => ?_ | (with_reducible first | refine qG ?_ | refine qH ?_ | refine qP ?_ | refine qGx ?_ | refine qHx ?_ | refine qPx ?_) | ((with_reducible first | refine qS ?_ ?_ | refine qT ?_ ?_ | refine qU ?_ ?_) <;> (intro h; try simp only [NM] at h)) | with_reducible refine yD tyOk mixed 6 (by kernel_rfl) fun K hK => ?_ | ((with_reducible refine CallJ.is ?_); (first | refine CallJ.pure (fs) ?_ | refine CallJ.pure (conformsRow_sat s.tables[k] c.row h2 (by omega)) ?_ | refine CallJ.pure (validateKey_sat s.tables[k] c.key h1 (by omega) (by omega) fun j hj => ⟨(o.key j hj).1, (o.key j hj).2.1⟩) ?_ | ((apply CallJ.lentI); (focus (simp -dsimp (disch := (first | omega | (simp only [LN]; omega))) only [go_sem, ↓reduceIte, seval]; rfl)); (focus (first | exact (fs) | exact (conformsRow_sat s.tables[k] c.row h2 (by omega)) | exact (validateKey_sat s.tables[k] c.key h1 (by omega) (by omega) fun j hj => ⟨(o.key j hj).1, (o.key j hj).2.1⟩)))))) | ((with_reducible refine CallH.is ?_); (first | refine CallH.intro (fs) ?_ | refine CallH.intro (conformsRow_sat s.tables[k] c.row h2 (by omega)) ?_ | refine CallH.intro (validateKey_sat s.tables[k] c.key h1 (by omega) (by omega) fun j hj => ⟨(o.key j hj).1, (o.key j hj).2.1⟩) ?_))) <;> simp -dsimp (disch := (first | omega | (simp only [LN]; omega))) only [go_sem, ↓reduceIte, seval]) | ((with_reducible refine hK _ ?_); clear hK K) | (with_reducible first | refine qA ?_ | refine qB ?_ | refine qC ?_ | refine qD ?_ | refine qE ?_ | refine qF ?_ | refine qL ?_ | refine qM ?_ | refine qN ?_ | refine qO ?_ | refine qQ ?_) | refine qR rfl ?_ | (with_reducible refine AI ?_) | ((with_reducible refine qW (T := TT) (b := ?_) ?_ ?_); rotate_left; exact rfl) | (with_reducible first | refine qX ?_ | refine qY ?_ | refine qZ ?_) | (with_reducible first | refine qI ?_ | refine qIx ?_ | fail) | ((with_reducible refine yS ?_ ?_) <;> (intro h; try simp only [NM] at h)))
    all_goals simp -dsimp (disch := (first | omega | (simp only [LN]; omega))) only [retQ, Tryz.results19, resVals, cellRV, resOf, St.rest, St.freeze, RT, go_sem, ↓reduceIte, seval]
    all_goals
      (simp only [chgE, e1, et]
       (repeat' split) <;> first | rfl | omega | (simp_all; done) | (simp_all; omega))

theorem toList_inj {a b : ByteArray} (h : a.toList = b.toList) : a = b := by
  rw [ByteArray.toList_eq, ByteArray.toList_eq] at h
  cases a; cases b
  simp only at h
  congr 1
  exact Array.ext' h
theorem sEq_iff {a b : ByteArray} : sEq a b = true ↔ a = b := by
  simp only [sEq, beq_iff_eq]
  exact ⟨toList_inj, fun h => by rw [h]⟩

structure IsCmp {α : Type} (c : α → α → Int) : Prop where
  eq0 : ∀ a b, c a b = 0 ↔ a = b
  anti : ∀ a b, c a b = -(c b a)
  trans : ∀ x y z, c x y < 0 → c y z < 0 → c x z < 0
theorem IsCmp.refl {α : Type} {c : α → α → Int} (h : IsCmp c) (a : α) : c a a = 0 := (h.eq0 a a).2 rfl
theorem IsCmp.le_trans {α : Type} {c : α → α → Int} (h : IsCmp c) {x y z : α} (h1 : c x y ≤ 0) (h2 : c y z ≤ 0) : c x z ≤ 0 := by
  rcases Int.lt_or_eq_of_le h1 with h1 | h1
  · rcases Int.lt_or_eq_of_le h2 with h2 | h2
    · exact Int.le_of_lt (h.trans _ _ _ h1 h2)
    · rw [← (h.eq0 _ _).1 h2]; omega
  · rw [(h.eq0 _ _).1 h1]; exact h2
theorem cmpInts_is : IsCmp cmpInts := by
  refine ⟨fun a b => ?_, fun a b => ?_, fun x y z => ?_⟩ <;> unfold cmpInts <;> (repeat' split) <;> omega
theorem cmpL_is : IsCmp Lib.compareBytes := by
  refine ⟨fun a => ?_, fun a => ?_, fun a => ?_⟩
  · induction a with
    | nil => intro b; cases b <;> simp [Lib.compareBytes]
    | cons x a ih =>
      intro b
      cases b with
      | nil => simp [Lib.compareBytes]
      | cons y b =>
        simp only [Lib.compareBytes, List.cons.injEq]
        have := ih b
        have hxy : x = y ↔ x.toNat = y.toNat := ⟨fun h => by rw [h], fun h => UInt8.toNat_inj.1 h⟩
        simp only [UInt8.lt_iff_toNat_lt] at *
        (repeat' split) <;> simp_all <;> omega
  · induction a with
    | nil => intro b; cases b <;> simp [Lib.compareBytes]
    | cons x a ih =>
      intro b
      cases b with
      | nil => simp [Lib.compareBytes]
      | cons y b =>
        simp only [Lib.compareBytes]
        have := ih b
        simp only [UInt8.lt_iff_toNat_lt] at *
        (repeat' split) <;> simp_all <;> omega
  · induction a with
    | nil =>
      intro y z h1 h2
      cases y <;> cases z <;> simp_all [Lib.compareBytes]
    | cons x a ih =>
      intro b c h1 h2
      cases b with
      | nil => simp [Lib.compareBytes] at h1
      | cons y b =>
        cases c with
        | nil => simp [Lib.compareBytes] at h2
        | cons z c =>
          simp only [Lib.compareBytes] at *
          have := ih b c
          simp only [UInt8.lt_iff_toNat_lt] at *
          (repeat' split) <;> (repeat' split at h1) <;> (repeat' split at h2) <;> simp_all <;> omega
theorem cmpS_is : IsCmp cmpS := by
  refine ⟨fun a b => ?_, fun a b => cmpL_is.anti _ _, fun x y z => cmpL_is.trans _ _ _⟩
  unfold cmpS
  rw [cmpL_is.eq0]
  exact ⟨fun h => toList_inj (by rw [ByteArray.toList_eq, ByteArray.toList_eq]; exact h), fun h => by rw [h]⟩
def lexC {α β γ : Type} (f : γ → α) (g : γ → β) (c : α → α → Int) (d : β → β → Int) (x y : γ) : Int := if c (f x) (f y) ≠ 0 then c (f x) (f y) else d (g x) (g y)
theorem lexC_is {α β γ : Type} {f : γ → α} {g : γ → β} {c : α → α → Int} {d : β → β → Int} (hc : IsCmp c) (hd : IsCmp d) (hi : ∀ x y, f x = f y → g x = g y → x = y) : IsCmp (lexC f g c d) := by
  refine ⟨fun a b => ?_, fun a b => ?_, fun x y z h1 h2 => ?_⟩
  · unfold lexC
    have h1 := hc.eq0 (f a) (f b)
    have h2 := hd.eq0 (g a) (g b)
    split
    · rename_i h
      exact ⟨fun e => absurd e h, fun e => by rw [e] at h; exact absurd (hc.refl _) h⟩
    · rename_i h
      have h : c (f a) (f b) = 0 := by simpa using h
      rw [h2]
      exact ⟨fun e => hi a b (h1.1 h) e, fun e => by rw [e]⟩
  · unfold lexC
    have h1 := hc.anti (f a) (f b)
    have h2 := hd.anti (g a) (g b)
    split <;> split <;> omega
  · unfold lexC at *
    by_cases e1 : c (f x) (f y) = 0
    · have e1' := (hc.eq0 _ _).1 e1
      rw [if_neg (by simp [e1])] at h1
      rw [e1']
      by_cases e2 : c (f y) (f z) = 0
      · rw [if_neg (by simp [e2])] at h2 ⊢
        exact hd.trans _ _ _ h1 h2
      · rw [if_pos e2] at h2 ⊢
        exact h2
    · rw [if_pos e1] at h1
      by_cases e2 : c (f y) (f z) = 0
      · rw [← (hc.eq0 _ _).1 e2, if_pos e1]
        exact h1
      · rw [if_pos e2] at h2
        have h3 := hc.trans _ _ _ h1 h2
        rw [if_pos (by omega)]
        exact h3
theorem cmpV_is : IsCmp cmpV := by
  have h1 : IsCmp (lexC (γ := Val) Val.kind (fun v => (v.int, v.text)) cmpInts (lexC Prod.fst Prod.snd cmpInts cmpS)) :=
    lexC_is cmpInts_is (lexC_is cmpInts_is cmpS_is fun x y h1 h2 => Prod.ext h1 h2) fun x y h1 h2 => by
      cases x; cases y
      simp only [Prod.mk.injEq] at h1 h2
      simp [h1, h2.1, h2.2]
  exact h1

theorem cmpCell_shift (y : Val) (b : Row) : ∀ (a : Row) (k : Nat), scan (cmpCell (y :: b)) a (k + 1) = scan (cmpCell b) a k
  | [], _ => rfl
  | x :: a, k => by
    have e : cmpCell (y :: b) (k + 1) x = cmpCell b k x := by
      unfold cmpCell
      simp
    rw [scan, scan, e, cmpCell_shift y b a (k + 1)]
theorem cmpRows_nil_nil : cmpRows [] [] = 0 := rfl
theorem cmpRows_nil_cons (y : Val) (b : Row) : cmpRows [] (y :: b) = -1 := by
  unfold cmpRows
  simp only [scan, cmpInts, List.length_nil, List.length_cons]
  rw [if_pos (by omega)]
theorem cmpRows_cons_nil (x : Val) (a : Row) : cmpRows (x :: a) [] = 1 := by
  have h : scan (cmpCell []) (x :: a) 0 = none := scan_all_none fun j y _ => by simp [cmpCell]
  unfold cmpRows
  rw [h]
  simp only [cmpInts, List.length_nil, List.length_cons]
  rw [if_neg (by omega), if_pos (by omega)]
theorem cmpRows_cons (x y : Val) (a b : Row) : cmpRows (x :: a) (y :: b) = if cmpV x y ≠ 0 then cmpV x y else cmpRows a b := by
  unfold cmpRows
  rw [scan, show cmpCell (y :: b) 0 x = if cmpV x y ≠ 0 then some (cmpV x y) else none by simp [cmpCell]]
  by_cases h : cmpV x y = 0
  · rw [if_neg (by simp [h]), if_neg (by simp [h])]
    simp only
    rw [cmpCell_shift y b a 0]
    cases scan (cmpCell b) a 0 with
    | some e => rfl
    | none =>
      simp only [cmpInts, List.length_cons]
      (repeat' split) <;> omega
  · rw [if_pos h, if_pos h]
theorem cmpRows_is : IsCmp cmpRows := by
  refine ⟨fun a => ?_, fun a => ?_, fun a => ?_⟩
  · induction a with
    | nil => intro b; cases b with
      | nil => simp [cmpRows_nil_nil]
      | cons y b => simp [cmpRows_nil_cons]
    | cons x a ih => intro b; cases b with
      | nil => simp [cmpRows_cons_nil]
      | cons y b =>
        rw [cmpRows_cons]
        have h1 := cmpV_is.eq0 x y
        have h2 := ih b
        split
        · rename_i h; simp [h]; intro e; exact absurd (h1.2 e) h
        · rename_i h
          have h : cmpV x y = 0 := by simpa using h
          rw [h2]; simp [h1.1 h]
  · induction a with
    | nil => intro b; cases b with
      | nil => rfl
      | cons y b => rw [cmpRows_nil_cons, cmpRows_cons_nil]
    | cons x a ih => intro b; cases b with
      | nil => rw [cmpRows_nil_cons, cmpRows_cons_nil]; rfl
      | cons y b =>
        rw [cmpRows_cons, cmpRows_cons]
        have h1 := cmpV_is.anti x y
        have h2 := ih b
        split <;> split <;> omega
  · induction a with
    | nil => intro b c h1 h2; cases b with
      | nil => rw [cmpRows_nil_nil] at h1; omega
      | cons y b => cases c with
        | nil => rw [cmpRows_cons_nil] at h2; omega
        | cons z c => rw [cmpRows_nil_cons]; omega
    | cons x a ih => intro b c h1 h2; cases b with
      | nil => rw [cmpRows_cons_nil] at h1; omega
      | cons y b => cases c with
        | nil => rw [cmpRows_cons_nil] at h2; omega
        | cons z c =>
          rw [cmpRows_cons] at h1 h2 ⊢
          by_cases e1 : cmpV x y = 0
          · rw [if_neg (by simp [e1])] at h1
            rw [(cmpV_is.eq0 _ _).1 e1]
            by_cases e2 : cmpV y z = 0
            · rw [if_neg (by simp [e2])] at h2 ⊢
              exact ih b c h1 h2
            · rw [if_pos e2] at h2 ⊢; exact h2
          · rw [if_pos e1] at h1
            by_cases e2 : cmpV y z = 0
            · rw [← (cmpV_is.eq0 _ _).1 e2, if_pos e1]; exact h1
            · rw [if_pos e2] at h2
              have h3 := cmpV_is.trans _ _ _ h1 h2
              rw [if_pos (by omega)]; exact h3

theorem val_eq {a b : Val} : a = b ↔ a.kind = b.kind ∧ a.int = b.int ∧ a.text.toList = b.text.toList := by
  constructor
  · rintro rfl; exact ⟨rfl, rfl, rfl⟩
  · rintro ⟨h1, h2, h3⟩
    cases a; cases b
    simp only at h1 h2 h3
    rw [h1, h2, toList_inj h3]
theorem take_eq_succ {α : Type} {a b : List α} {k : Nat} (ha : k < a.length) (hb : k < b.length) (h : a.take k = b.take k) (e : a[k] = b[k]) : a.take (k + 1) = b.take (k + 1) := by
  rw [take_snoc a k ha, take_snoc b k hb, h, e]
theorem get_of_eq {α : Type} {a b : List α} {k : Nat} (ha : k < a.length) (hb : k < b.length) (h : a = b) : a[k] = b[k] := by subst h; rfl

set_option maxHeartbeats 8000000 in
theorem equalRow_sat (a b : Row) (h1 : a.length ≤ 140737488355328) (h2 : b.length ≤ 140737488355328) : Sat Tryz.prog 51 [.one (eRow a), .one (eRow b)] (.v (oB (decide (a = b)))) := by
  refine sat_of_body tyOk Tryz.func51 rfl (by kernel_rfl) ⟨Nat.le_of_ble_eq_true rfl, Nat.le_of_ble_eq_true rfl⟩ fun w0 m0 F0 => ?_
  simp only [Tryz.ntmps51, envOf, Nat.reduceAdd]
  repeat' (first | ((first | with_reducible refine qV tyOk fun K hK => ?_ | (with_reducible first | refine qG ?_ | refine qH ?_ | refine qP ?_ | refine qGx ?_ | refine qHx ?_ | refine qPx ?_) | ((with_reducible first | refine qS ?_ ?_ | refine qT ?_ ?_ | refine qU ?_ ?_) <;> (intro h; try simp only [NM] at h)) | with_reducible refine yD tyOk mixed 6 (by kernel_rfl) fun K hK => ?_) <;> simp -dsimp (disch := (first | omega | (simp only [LN]; omega))) only [go_sem, ↓reduceIte, seval]) | ((with_reducible refine hK _ ?_); clear hK K) | (with_reducible first | refine qA ?_ | refine qB ?_ | refine qC ?_ | refine qD ?_ | refine qE ?_ | refine qF ?_ | refine qL ?_ | refine qM ?_ | refine qN ?_ | refine qO ?_ | refine qQ ?_) | refine qR rfl ?_ | (with_reducible refine AI ?_) | ((with_reducible refine qW (T := TT) (b := ?_) ?_ ?_); rotate_left; exact rfl) | (with_reducible first | refine qX ?_ | refine qY ?_ | refine qZ ?_) | (with_reducible first | refine qI ?_ | refine qIx ?_ | fail) | ((with_reducible refine yS ?_ ?_) <;> (intro h; try simp only [NM] at h)))
  rotate_left
  · simp -dsimp (disch := (first | omega | (simp only [LN]; omega))) only [retQ, Tryz.results51, resVals, cellRV, resOf, St.rest, St.freeze, RT, go_sem, ↓reduceIte, seval]
    have hn : ¬ a = b := fun e => by rw [e] at h; exact h rfl
    simp [hn]
  have hl : a.length = b.length := by omega
  refine AWP.loop (ι := {k : Nat // k ≤ a.length ∧ a.take k = b.take k}) (fun k => ⟨26, [(0, .v (.one (eRow a))), (1, .v (.one (eRow b))), (12, .v (oI a.length)), (13, .v (oI k.1))], [], []⟩) (fun k => a.length - k.1) ⟨0, Nat.zero_le _, rfl⟩ ?_ fun ⟨k, hkl, hi⟩ => ?_
  · refine St.le_mk ?_ ?_ ?_ <;> simp only [LE, EN, Nat.reduceEqDiff, reduceIte, Nat.reduceSub]
  rcases Nat.lt_or_ge k a.length with hc | hc
  · have hb : k < b.length := by omega
    repeat' (first | ((first | with_reducible refine qV tyOk fun K hK => ?_ | (with_reducible first | refine qG ?_ | refine qH ?_ | refine qP ?_ | refine qGx ?_ | refine qHx ?_ | refine qPx ?_) | ((with_reducible first | refine qS ?_ ?_ | refine qT ?_ ?_ | refine qU ?_ ?_) <;> (intro h; try simp only [NM] at h)) | with_reducible refine yD tyOk mixed 6 (by kernel_rfl) fun K hK => ?_) <;> simp -dsimp (disch := (first | omega | (simp only [LN]; omega))) only [go_sem, ↓reduceIte, seval]) | ((with_reducible refine hK _ ?_); clear hK K) | (with_reducible first | refine qA ?_ | refine qB ?_ | refine qC ?_ | refine qD ?_ | refine qE ?_ | refine qF ?_ | refine qL ?_ | refine qM ?_ | refine qN ?_ | refine qO ?_ | refine qQ ?_) | refine qR rfl ?_ | (with_reducible refine AI ?_) | ((with_reducible refine qW (T := TT) (b := ?_) ?_ ?_); rotate_left; exact rfl) | (with_reducible first | refine qX ?_ | refine qY ?_ | refine qZ ?_) | (with_reducible first | refine qI ?_ | refine qIx ?_ | fail) | ((with_reducible refine yS ?_ ?_) <;> (intro h; try simp only [NM] at h)))
    · refine ⟨⟨k + 1, by omega, take_eq_succ hc hb hi (val_eq.2 h)⟩, by simp only; omega, ?_⟩
      refine St.le_mk ?_ ?_ ?_ <;> simp only [LE, EN, Nat.reduceEqDiff, reduceIte, Nat.reduceSub]
    · simp -dsimp (disch := (first | omega | (simp only [LN]; omega))) only [retQ, Tryz.results51, resVals, cellRV, resOf, St.rest, St.freeze, RT, go_sem, ↓reduceIte, seval]
      have hn : ¬ a = b := fun e => by
        obtain ⟨e1, e2, e3⟩ := val_eq.1 (get_of_eq hc hb e)
        exact h e1 e2 e3
      simp [hn]
  · have hk : a = b := by
      rw [List.take_of_length_le (by omega), List.take_of_length_le (by omega)] at hi
      exact hi
    repeat' (first | ((first | with_reducible refine qV tyOk fun K hK => ?_ | (with_reducible first | refine qG ?_ | refine qH ?_ | refine qP ?_ | refine qGx ?_ | refine qHx ?_ | refine qPx ?_) | ((with_reducible first | refine qS ?_ ?_ | refine qT ?_ ?_ | refine qU ?_ ?_) <;> (intro h; try simp only [NM] at h)) | with_reducible refine yD tyOk mixed 6 (by kernel_rfl) fun K hK => ?_) <;> simp -dsimp (disch := (first | omega | (simp only [LN]; omega))) only [go_sem, ↓reduceIte, seval]) | ((with_reducible refine hK _ ?_); clear hK K) | (with_reducible first | refine qA ?_ | refine qB ?_ | refine qC ?_ | refine qD ?_ | refine qE ?_ | refine qF ?_ | refine qL ?_ | refine qM ?_ | refine qN ?_ | refine qO ?_ | refine qQ ?_) | refine qR rfl ?_ | (with_reducible refine AI ?_) | ((with_reducible refine qW (T := TT) (b := ?_) ?_ ?_); rotate_left; exact rfl) | (with_reducible first | refine qX ?_ | refine qY ?_ | refine qZ ?_) | (with_reducible first | refine qI ?_ | refine qIx ?_ | fail) | ((with_reducible refine yS ?_ ?_) <;> (intro h; try simp only [NM] at h)))
    simp -dsimp (disch := (first | omega | (simp only [LN]; omega))) only [retQ, Tryz.results51, resVals, cellRV, resOf, St.rest, St.freeze, RT, go_sem, ↓reduceIte, seval]
    simp [hk]

set_option maxHeartbeats 8000000 in
theorem project_sat (r : Row) (l : List Int) (h1 : l.length ≤ 1099511627776) (h2 : r.length ≤ 140737488355328) : Sat Tryz.prog 61 [.one (eRow r), .one (eInts l)] (.v (.one (eRow (keyOf l r)))) := by
  refine sat_of_body tyOk Tryz.func61 rfl (by kernel_rfl) ⟨Nat.le_of_ble_eq_true rfl, Nat.le_of_ble_eq_true rfl⟩ fun w0 m0 F0 => ?_
  simp only [Tryz.ntmps61, envOf, Nat.reduceAdd]
  repeat' (first | ((first | with_reducible refine qV tyOk fun K hK => ?_ | (with_reducible first | refine qG ?_ | refine qH ?_ | refine qP ?_ | refine qGx ?_ | refine qHx ?_ | refine qPx ?_) | ((with_reducible first | refine qS ?_ ?_ | refine qT ?_ ?_ | refine qU ?_ ?_) <;> (intro h; try simp only [NM] at h)) | with_reducible refine yD tyOk mixed 6 (by kernel_rfl) fun K hK => ?_) <;> simp -dsimp (disch := (first | omega | (simp only [LN]; omega))) only [go_sem, ↓reduceIte, seval]) | ((with_reducible refine hK _ ?_); clear hK K) | (with_reducible first | refine qA ?_ | refine qB ?_ | refine qC ?_ | refine qD ?_ | refine qE ?_ | refine qF ?_ | refine qL ?_ | refine qM ?_ | refine qN ?_ | refine qO ?_ | refine qQ ?_) | refine qR rfl ?_ | (with_reducible refine AI ?_) | ((with_reducible refine qW (T := TT) (b := ?_) ?_ ?_); rotate_left; exact rfl) | (with_reducible first | refine qX ?_ | refine qY ?_ | refine qZ ?_) | (with_reducible first | refine qI ?_ | refine qIx ?_ | fail) | ((with_reducible refine yS ?_ ?_) <;> (intro h; try simp only [NM] at h)))
  refine AWP.loop (ι := {k : Nat // k ≤ l.length}) (fun k => ⟨34, [(0, .v (.one (eRow r))), (5, .v (.one (.ref 5 0 k.1))), (9, .v (.one (eInts l))), (10, .v (oI l.length)), (11, .v (oI k.1))], [], [(5, ⟨3, (keyOf (l.take k.1) r).map eVal, []⟩)]⟩) (fun k => l.length - k.1) ⟨0, Nat.zero_le _⟩ ?_ fun ⟨k, hkl⟩ => ?_
  · refine St.le_mk ?_ ?_ ?_ <;> simp only [LE, EN, Nat.reduceEqDiff, reduceIte, Nat.reduceSub, keyOf]
  have hlen : (keyOf (l.take k) r).length = k := by rw [keyOf_length]; simp; omega
  repeat' (first | ((first | with_reducible refine qV tyOk fun K hK => ?_ | (with_reducible first | refine qG ?_ | refine qH ?_ | refine qP ?_ | refine qGx ?_ | refine qHx ?_ | refine qPx ?_) | ((with_reducible first | refine qS ?_ ?_ | refine qT ?_ ?_ | refine qU ?_ ?_) <;> (intro h; try simp only [NM] at h)) | with_reducible refine yD tyOk mixed 6 (by kernel_rfl) fun K hK => ?_) <;> simp -dsimp (disch := (first | omega | (simp only [LN]; omega))) only [go_sem, ↓reduceIte, seval, hlen]) | ((with_reducible refine hK _ ?_); clear hK K) | (with_reducible first | refine qA ?_ | refine qB ?_ | refine qC ?_ | refine qD ?_ | refine qE ?_ | refine qF ?_ | refine qL ?_ | refine qM ?_ | refine qN ?_ | refine qO ?_ | refine qQ ?_) | refine qR rfl ?_ | (with_reducible refine AI ?_) | ((with_reducible refine qW (T := TT) (b := ?_) ?_ ?_); rotate_left; exact rfl) | (with_reducible first | refine qX ?_ | refine qY ?_ | refine qZ ?_) | (with_reducible first | refine qI ?_ | refine qIx ?_ | fail) | ((with_reducible refine yS ?_ ?_) <;> (intro h; try simp only [NM] at h)))
  all_goals first
    | (refine ⟨⟨k + 1, by omega⟩, by simp only; omega, ?_⟩
       have hk : k < l.length := by omega
       have e : keyOf (l.take (k + 1)) r = keyOf (l.take k) r ++ [keyCell r l[k]] := by
         unfold keyOf
         rw [take_snoc _ _ hk, List.map_append]
         rfl
       first
         | (have h2 : l[k].toNat < r.length := by omega
            have e2 : keyCell r l[k] = r[l[k].toNat]'h2 := by
              rw [keyCell, if_pos ⟨by omega, by omega⟩]
              exact getD_lt _ h2
            refine St.le_mk ?_ ?_ ?_ <;> simp only [LE, EN, Nat.reduceEqDiff, reduceIte, Nat.reduceSub, e, e2]
            )
         | (have e2 : keyCell r l[k] = zV := by rw [keyCell, if_neg (by omega)]
            refine St.le_mk ?_ ?_ ?_ <;> simp only [LE, EN, Nat.reduceEqDiff, reduceIte, Nat.reduceSub, e, e2, zV]
            )
         )
    | (have hk : k = l.length := by omega
       subst hk
       rw [List.take_length] at hlen
       simp -dsimp (disch := (first | omega | (simp only [LN]; omega))) only [retQ, Tryz.results61, resVals, cellRV, resOf, St.rest, St.freeze, RT, go_sem, ↓reduceIte, seval]
       rw [if_pos (by omega)])
theorem rKeyOf_sat (t : Tbl) (r : Row) (h1 : t.pk.length ≤ 1099511627776) (h2 : r.length ≤ 140737488355328) : Sat Tryz.prog 31 [.agg (eTbl t), .one (eRow r)] (.v (.one (eRow (keyOf t.pk r)))) := by
  refine sat_of_body tyOk Tryz.func31 rfl (by kernel_rfl) ⟨Nat.le_of_ble_eq_true rfl, Nat.le_of_ble_eq_true rfl⟩ fun w0 m0 F0 => ?_
  simp only [Tryz.ntmps31, envOf, Nat.reduceAdd]
  repeat' (first | ((first | with_reducible refine qV tyOk fun K hK => ?_ | (with_reducible first | refine qG ?_ | refine qH ?_ | refine qP ?_ | refine qGx ?_ | refine qHx ?_ | refine qPx ?_) | ((with_reducible first | refine qS ?_ ?_ | refine qT ?_ ?_ | refine qU ?_ ?_) <;> (intro h; try simp only [NM] at h)) | with_reducible refine yD tyOk mixed 6 (by kernel_rfl) fun K hK => ?_ | ((with_reducible refine CallJ.is ?_); (first | refine CallJ.pure (project_sat r t.pk h1 h2) ?_ | ((apply CallJ.lentI); (focus (simp -dsimp (disch := (first | omega | (simp only [LN]; omega))) only [go_sem, ↓reduceIte, seval]; rfl)); (focus (first | exact (project_sat r t.pk h1 h2)))))) | ((with_reducible refine CallH.is ?_); (first | refine CallH.intro (project_sat r t.pk h1 h2) ?_))) <;> simp -dsimp (disch := (first | omega | (simp only [LN]; omega))) only [go_sem, ↓reduceIte, seval]) | ((with_reducible refine hK _ ?_); clear hK K) | (with_reducible first | refine qA ?_ | refine qB ?_ | refine qC ?_ | refine qD ?_ | refine qE ?_ | refine qF ?_ | refine qL ?_ | refine qM ?_ | refine qN ?_ | refine qO ?_ | refine qQ ?_) | refine qR rfl ?_ | (with_reducible refine AI ?_) | ((with_reducible refine qW (T := TT) (b := ?_) ?_ ?_); rotate_left; exact rfl) | (with_reducible first | refine qX ?_ | refine qY ?_ | refine qZ ?_) | (with_reducible first | refine qI ?_ | refine qIx ?_ | fail) | ((with_reducible refine yS ?_ ?_) <;> (intro h; try simp only [NM] at h)))
  simp -dsimp (disch := (first | omega | (simp only [LN]; omega))) only [retQ, Tryz.results31, resVals, cellRV, resOf, St.rest, St.freeze, RT, go_sem, ↓reduceIte, seval]

theorem idx_succ {α : Type} (p : α → Bool) : ∀ (l : List α) (k : Nat), idx p l (k + 1) = if idx p l k < 0 then -1 else idx p l k + 1
  | [], k => rfl
  | x :: l, k => by
    unfold idx
    split
    · rw [if_neg (by omega)]; omega
    · exact idx_succ p l (k + 1)
theorem findPos_cons (t : Tbl) (x : Row) (l : List Row) (key : Row) : findPos t (x :: l) key = if 0 ≤ cmpRows (keyOf t.pk x) key then 0 else if findPos t l key < 0 then -1 else findPos t l key + 1 := by
  unfold findPos
  rw [idx]
  simp only [atKey, decide_eq_true_eq]
  split
  · rfl
  · exact idx_succ _ l 0
theorem findI_cons (t : Tbl) (x : Row) (l : List Row) (key : Row) : findI t (x :: l) key = if 0 ≤ cmpRows (keyOf t.pk x) key then 0 else findI t l key + 1 := by
  unfold findI
  rw [findPos_cons]
  split
  · simp
  · by_cases h : findPos t l key < 0
    · rw [if_pos h, if_pos h, if_pos (by omega)]; simp
    · rw [if_neg h, if_neg h, if_neg (by omega)]
theorem findB_cons (t : Tbl) (x : Row) (l : List Row) (key : Row) : findB t (x :: l) key = if 0 ≤ cmpRows (keyOf t.pk x) key then cmpRows (keyOf t.pk x) key == 0 else findB t l key := by
  unfold findB
  rw [findPos_cons]
  split
  · rw [if_neg (by omega)]; rfl
  · by_cases h : findPos t l key < 0
    · rw [if_pos h, if_pos h, if_pos (by omega)]
    · have hg : 0 ≤ findPos t l key := by omega
      rw [if_neg h, if_neg h, if_neg (by omega)]
      have e : (findPos t l key + 1).toNat = (findPos t l key).toNat + 1 := by omega
      rw [e]
      simp
theorem deleteR_nil (t : Tbl) (key : Row) : deleteR t [] key = [] := rfl
theorem deleteR_cons (t : Tbl) (x : Row) (l : List Row) (key : Row) : deleteR t (x :: l) key = if 0 ≤ cmpRows (keyOf t.pk x) key then (if cmpRows (keyOf t.pk x) key = 0 then l else x :: l) else x :: deleteR t l key := by
  unfold deleteR
  rw [findB_cons, findI_cons]
  split
  · rename_i h
    by_cases h0 : cmpRows (keyOf t.pk x) key = 0
    · simp [h0]
    · simp [h0]
  · rename_i h
    rcases find_cases t l key with ⟨hb, k, hk, hi⟩ | ⟨hb, k, hk, hi⟩
    · simp [hb]
    · rw [hb, hi]
      have e : ((k : Int) + 1).toNat = k + 1 := by omega
      simp [e]
theorem upsertR_nil (t : Tbl) (row : Row) : upsertR t [] row = [row] := rfl
theorem upsertR_cons (t : Tbl) (x : Row) (l : List Row) (row : Row) : upsertR t (x :: l) row = if 0 ≤ cmpRows (keyOf t.pk x) (keyOf t.pk row) then (if cmpRows (keyOf t.pk x) (keyOf t.pk row) = 0 then row :: l else row :: x :: l) else x :: upsertR t l row := by
  unfold upsertR
  rw [findB_cons, findI_cons]
  split
  · rename_i h
    by_cases h0 : cmpRows (keyOf t.pk x) (keyOf t.pk row) = 0
    · simp [h0]
    · simp [h0]
  · rename_i h
    rcases find_cases t l (keyOf t.pk row) with ⟨hb, k, hk, hi⟩ | ⟨hb, k, hk, hi⟩
    · rw [hb, hi]
      have e : ((k : Int) + 1).toNat = k + 1 := by omega
      simp [e]
    · rw [hb, hi]
      have e : ((k : Int) + 1).toNat = k + 1 := by omega
      simp [e]

def SR (t : Tbl) (rows : List Row) : Prop := rows.Pairwise fun a b => cmpRows (keyOf t.pk a) (keyOf t.pk b) < 0
theorem sr_of {t : Tbl} : ∀ {rows : List Row}, (∀ j, ∀ h : j + 1 < rows.length, cmpRows (keyOf t.pk rows[j]) (keyOf t.pk rows[j + 1]) < 0) → SR t rows
  | [], _ => .nil
  | x :: l, h => by
    have hl : SR t l := sr_of fun j hj => h (j + 1) (by simpa using hj)
    refine .cons (fun y hy => ?_) hl
    cases l with
    | nil => cases hy
    | cons z l =>
      have h0 : cmpRows (keyOf t.pk x) (keyOf t.pk z) < 0 := by simpa using h 0 (by simp)
      rcases List.mem_cons.1 hy with rfl | hy
      · exact h0
      · exact cmpRows_is.trans _ _ _ h0 ((List.pairwise_cons.1 hl).1 y hy)
theorem sr_get {t : Tbl} {rows : List Row} (h : SR t rows) : ∀ j, ∀ hj : j + 1 < rows.length, cmpRows (keyOf t.pk rows[j]) (keyOf t.pk rows[j + 1]) < 0 :=
  fun j hj => List.pairwise_iff_getElem.1 h j (j + 1) (by omega) hj (by omega)
theorem deleteR_sub (t : Tbl) (key : Row) : ∀ (l : List Row), (deleteR t l key).Sublist l
  | [] => .slnil
  | x :: l => by
    rw [deleteR_cons]
    split
    · split
      · exact List.sublist_cons_self x l
      · exact List.Sublist.refl _
    · exact (deleteR_sub t key l).cons_cons x
theorem mem_upsertR {t : Tbl} {row : Row} : ∀ {l : List Row} {x : Row}, x ∈ upsertR t l row → x = row ∨ x ∈ l
  | [], x, h => by rw [upsertR_nil] at h; exact .inl (by simpa using h)
  | y :: l, x, h => by
    rw [upsertR_cons] at h
    split at h
    · split at h
      · rcases List.mem_cons.1 h with h | h
        · exact .inl h
        · exact .inr (List.mem_cons_of_mem _ h)
      · rcases List.mem_cons.1 h with h | h
        · exact .inl h
        · exact .inr h
    · rcases List.mem_cons.1 h with h | h
      · exact .inr (h ▸ List.mem_cons_self ..)
      · exact (mem_upsertR h).imp id (List.mem_cons_of_mem _)

theorem Sch.Fits.sub {s : Sch} (h : s.Fits) {fks : List FK} {cons : List Con} (hf : fks.Sublist s.fks) (hc : cons.Sublist s.cons) : (⟨s.tables, fks, cons⟩ : Sch).Fits :=
  ⟨h.tables, h.table, Nat.le_trans hf.length_le h.fks, fun f hf' => h.fk f (hf.subset hf'), Nat.le_trans hc.length_le h.cons⟩

theorem okRel_iff (t : Tbl) (rows : List Row) : OkRel t rows ↔ rows.length ≤ 24 ∧ (∀ x ∈ rows, rowE t x = 0) ∧ SR t rows := by
  constructor
  · rintro ⟨h1, h2, h3⟩
    refine ⟨h1, fun x hx => ?_, sr_of h3⟩
    obtain ⟨j, hj, rfl⟩ := List.mem_iff_getElem.1 hx
    exact h2 j hj
  · rintro ⟨h1, h2, h3⟩
    exact ⟨h1, fun j hj => h2 _ (List.getElem_mem hj), fun j hj => sr_get h3 j hj⟩
theorem OkRel.sub {t : Tbl} {l rows : List Row} (h : OkRel t rows) (hs : l.Sublist rows) : OkRel t l := by
  obtain ⟨h1, h2, h3⟩ := (okRel_iff _ _).1 h
  exact (okRel_iff _ _).2 ⟨Nat.le_trans hs.length_le h1, fun x hx => h2 x (hs.subset hx), List.Pairwise.sublist hs h3⟩

def getR (t : Tbl) : List Row → Row → Option Row
  | [], _ => none
  | x :: l, k => if keyOf t.pk x = k then some x else getR t l k
theorem getR_nil (t : Tbl) (k : Row) : getR t [] k = none := rfl
theorem getR_cons (t : Tbl) (x : Row) (l : List Row) (k : Row) : getR t (x :: l) k = if keyOf t.pk x = k then some x else getR t l k := rfl
theorem getR_none {t : Tbl} {k : Row} : ∀ {l : List Row}, (∀ y ∈ l, keyOf t.pk y ≠ k) → getR t l k = none
  | [], _ => rfl
  | x :: l, h => by
    rw [getR_cons, if_neg (h x (List.mem_cons_self ..))]
    exact getR_none fun y hy => h y (List.mem_cons_of_mem _ hy)
theorem cmp_ne {a b : Row} (h : cmpRows a b < 0) : a ≠ b := fun e => by
  have := (cmpRows_is.eq0 a b).2 e
  omega
theorem getR_above {t : Tbl} {k : Row} {l : List Row} (h : ∀ y ∈ l, cmpRows k (keyOf t.pk y) < 0) : getR t l k = none :=
  getR_none fun y hy e => cmp_ne (h y hy) e.symm
theorem getR_upsertR (t : Tbl) (row k : Row) : ∀ (l : List Row), getR t (upsertR t l row) k = if keyOf t.pk row = k then some row else getR t l k
  | [] => by rw [upsertR_nil, getR_cons]
  | x :: l => by
    rw [upsertR_cons]
    split
    · split
      · rename_i h1
        have e := (cmpRows_is.eq0 _ _).1 h1
        rw [getR_cons, getR_cons, e]
        split <;> rfl
      · rw [getR_cons]
    · rename_i h1
      have hn : keyOf t.pk x ≠ keyOf t.pk row := fun e => by
        have := (cmpRows_is.eq0 _ _).2 e
        omega
      rw [getR_cons, getR_cons, getR_upsertR t row k l]
      by_cases hk : keyOf t.pk x = k
      · rw [if_pos hk, if_pos hk, if_neg (fun e => hn (hk.trans e.symm))]
      · rw [if_neg hk, if_neg hk]
theorem getR_deleteR {t : Tbl} {key : Row} (k : Row) : ∀ {l : List Row}, SR t l → getR t (deleteR t l key) k = if key = k then none else getR t l k
  | [], _ => by rw [deleteR_nil, getR_nil]; split <;> rfl
  | x :: l, h => by
    obtain ⟨h1, h2⟩ := List.pairwise_cons.1 h
    rw [deleteR_cons]
    split
    · split
      · rename_i e
        have e := (cmpRows_is.eq0 _ _).1 e
        split
        · rename_i hk
          rw [getR_above]
          intro y hy
          rw [← hk, ← e]
          exact h1 y hy
        · rename_i hk
          rw [getR_cons, if_neg (fun e' => hk (e.symm.trans e'))]
      · rename_i g1 g2
        split
        · rename_i hk
          have hlt : cmpRows key (keyOf t.pk x) < 0 := by
            have := cmpRows_is.anti key (keyOf t.pk x)
            omega
          rw [getR_above]
          intro y hy
          rw [← hk]
          rcases List.mem_cons.1 hy with rfl | hy
          · exact hlt
          · exact cmpRows_is.trans _ _ _ hlt (h1 y hy)
        · rfl
    · rename_i g1
      have hn : keyOf t.pk x ≠ key := fun e => by
        have := (cmpRows_is.eq0 _ _).2 e
        omega
      rw [getR_cons, getR_cons, getR_deleteR k h2]
      by_cases hk : keyOf t.pk x = k
      · rw [if_pos hk, if_pos hk, if_neg (fun e => hn (hk.trans e.symm))]
      · rw [if_neg hk, if_neg hk]
theorem upsertR_sr {t : Tbl} {row : Row} : ∀ {l : List Row}, SR t l → SR t (upsertR t l row)
  | [], _ => by rw [upsertR_nil]; exact List.pairwise_singleton ..
  | x :: l, h => by
    obtain ⟨h1, h2⟩ := List.pairwise_cons.1 h
    rw [upsertR_cons]
    split
    · split
      · rename_i e
        have e := (cmpRows_is.eq0 _ _).1 e
        exact List.pairwise_cons.2 ⟨fun y hy => e ▸ h1 y hy, h2⟩
      · rename_i g1 g2
        have hlt : cmpRows (keyOf t.pk row) (keyOf t.pk x) < 0 := by
          have := cmpRows_is.anti (keyOf t.pk row) (keyOf t.pk x)
          omega
        refine List.pairwise_cons.2 ⟨fun y hy => ?_, h⟩
        rcases List.mem_cons.1 hy with rfl | hy
        · exact hlt
        · exact cmpRows_is.trans _ _ _ hlt (h1 y hy)
    · rename_i g1
      refine List.pairwise_cons.2 ⟨fun y hy => ?_, upsertR_sr h2⟩
      rcases mem_upsertR hy with rfl | hy
      · omega
      · exact h1 y hy

def zRel : Rel := ⟨ByteArray.empty, []⟩
def tpos (s : Sch) (c : Chg) : Nat := (tblAt s.tables c.table).toNat
def setRows (i : Inst) (k : Nat) (rows : List Row) : Inst := i.set k ⟨(i.getD k zRel).table, rows⟩
def applyC (s : Sch) (i : Inst) (c : Chg) : Int × Inst :=
  if chgE s c ≠ 0 then (chgE s c, []) else
  if c.kind = 1 then
    if 24 < (upsertR (tblOf s c.table) (i.getD (tpos s c) zRel).rows c.row).length then (2, []) else (0, setRows i (tpos s c) (upsertR (tblOf s c.table) (i.getD (tpos s c) zRel).rows c.row))
  else if findB (tblOf s c.table) (i.getD (tpos s c) zRel).rows c.key then (0, setRows i (tpos s c) (deleteR (tblOf s c.table) (i.getD (tpos s c) zRel).rows c.key)) else (9, [])
def applyL (s : Sch) : Inst → List Chg → Int × Inst
  | i, [] => (0, i)
  | i, c :: cs => if (applyC s i c).1 ≠ 0 then ((applyC s i c).1, []) else applyL s (applyC s i c).2 cs
def applyE (s : Sch) (i : Inst) (cs : List Chg) : Int × Inst :=
  if schE s ≠ 0 then (schE s, []) else if confE s i ≠ 0 then (confE s i, []) else if 24 < cs.length then (2, []) else applyL s i cs

theorem setRows_length (i : Inst) (k : Nat) (rows : List Row) : (setRows i k rows).length = i.length := by simp [setRows]
theorem setRows_get {i : Inst} {k : Nat} {rows : List Row} (hk : k < i.length) {j : Nat} (hj : j < (setRows i k rows).length) :
    (setRows i k rows)[j] = if k = j then ⟨i[k].table, rows⟩ else i[j]'(Nat.lt_of_lt_of_eq hj (setRows_length i k rows)) := by
  simp only [setRows, List.getElem_set, getD_lt _ hk]
theorem setRows_getD {i : Inst} {k : Nat} {rows : List Row} (hk : k < i.length) (j : Nat) : (setRows i k rows).getD j zRel = if k = j then ⟨(i.getD k zRel).table, rows⟩ else i.getD j zRel := by
  by_cases hj : j < i.length
  · have e : (setRows i k rows).getD j zRel = (setRows i k rows)[j]'(by rw [setRows_length]; exact hj) := getD_lt _ _
    have e2 : i.getD k zRel = i[k] := getD_lt _ hk
    have e3 : i.getD j zRel = i[j] := getD_lt _ hj
    rw [e, setRows_get hk]
    simp only [e2, e3]
  · have e : (setRows i k rows).getD j zRel = zRel := by
      rw [List.getD_eq_getElem?_getD, List.getElem?_eq_none (by rw [setRows_length]; omega)]; rfl
    have e3 : i.getD j zRel = zRel := by
      rw [List.getD_eq_getElem?_getD, List.getElem?_eq_none (by omega)]; rfl
    rw [e, e3, if_neg (by omega)]
theorem setRows_conf {s : Sch} {i : Inst} {k : Nat} {rows : List Row} (h : confE s i = 0) (hr : OkRel (s.tables.getD k zTbl) rows) : confE s (setRows i k rows) = 0 := by
  by_cases hk : k < i.length
  · obtain ⟨h1, h2⟩ := (confE_zero s i).1 h
    refine (confE_zero _ _).2 ⟨by rw [setRows_length]; exact h1, fun j hj => ?_⟩
    have hj' : j < i.length := by rwa [setRows_length] at hj
    rw [setRows_get hk hj]
    obtain ⟨h3, h4⟩ := h2 j hj'
    split
    · rename_i e
      subst e
      exact ⟨h3, hr⟩
    · exact ⟨h3, h4⟩
  · unfold setRows
    rw [List.set_eq_of_length_le (by omega)]
    exact h
theorem conf_rel {s : Sch} {i : Inst} (h : confE s i = 0) {k : Nat} (hk : k < i.length) : OkRel (s.tables.getD k zTbl) (i.getD k zRel).rows := by
  obtain ⟨h1, h2⟩ := (confE_zero s i).1 h
  rw [getD_lt _ hk]
  exact (h2 k hk).2

structure OkChg (s : Sch) (c : Chg) : Prop where
  kind : c.kind = 1 ∨ c.kind = 2
  pos : tblAt s.tables c.table = (tpos s c : Int)
  lt : tpos s c < s.tables.length
  tbl : tblOf s c.table = s.tables.getD (tpos s c) zTbl
  up : c.kind = 1 → c.key = [] ∧ rowE (tblOf s c.table) c.row = 0
  del : c.kind = 2 → c.row = [] ∧ keyE (tblOf s c.table) c.key = 0
theorem okChg_of {s : Sch} {c : Chg} (h : chgE s c = 0) : OkChg s c := by
  unfold chgE at h
  split at h
  · cases h
  rename_i g1
  split at h
  · cases h
  rename_i g2
  have hk : c.kind = 1 ∨ c.kind = 2 := by omega
  have hp : tblAt s.tables c.table = (tpos s c : Int) := by unfold tpos; omega
  refine ⟨hk, hp, ?_, rfl, fun e => ?_, fun e => ?_⟩
  · rcases idx_cases (fun t => sEq t.name c.table) s.tables 0 with ⟨e1, _⟩ | ⟨j, hj, e1, _, _⟩
    · have e1 : tblAt s.tables c.table = -1 := e1
      omega
    · have e1 : tblAt s.tables c.table = (j : Int) := by unfold tblAt; simpa using e1
      omega
  · rw [if_pos e] at h
    refine ⟨?_, h⟩
    have : ¬ 0 < c.key.length := fun q => g1 (.inl ⟨e, q⟩)
    exact List.length_eq_zero_iff.1 (by omega)
  · rw [if_neg (by omega)] at h
    refine ⟨?_, h⟩
    have : ¬ 0 < c.row.length := fun q => g1 (.inr (.inl ⟨e, q⟩))
    exact List.length_eq_zero_iff.1 (by omega)

theorem OkRel.upsert {t : Tbl} {rows : List Row} {row : Row} (h : OkRel t rows) (hr : rowE t row = 0) (hn : ¬ 24 < (upsertR t rows row).length) : OkRel t (upsertR t rows row) := by
  obtain ⟨h1, h2, h3⟩ := (okRel_iff _ _).1 h
  refine (okRel_iff _ _).2 ⟨by omega, fun x hx => ?_, upsertR_sr h3⟩
  rcases mem_upsertR hx with rfl | hx
  · exact hr
  · exact h2 x hx
theorem OkRel.delete {t : Tbl} {rows : List Row} (key : Row) (h : OkRel t rows) : OkRel t (deleteR t rows key) := h.sub (deleteR_sub t key rows)

theorem applyC_conf {s : Sch} {i : Inst} {c : Chg} (h : confE s i = 0) (hc : (applyC s i c).1 = 0) : confE s (applyC s i c).2 = 0 := by
  have hl := ((confE_zero s i).1 h).1
  unfold applyC at hc ⊢
  split at hc
  · rename_i g; exact absurd hc g
  rename_i g
  have o := okChg_of (by simpa using g : chgE s c = 0)
  have hr := conf_rel h (k := tpos s c) (by rw [hl]; exact o.lt)
  rw [← o.tbl] at hr
  split at hc
  · rename_i g1
    split at hc
    · cases hc
    · rename_i g2
      rw [if_neg g, if_pos g1, if_neg g2]
      exact setRows_conf h (o.tbl ▸ hr.upsert (o.up g1).2 g2)
  · rename_i g1
    split at hc
    · rename_i g2
      rw [if_neg g, if_neg g1, if_pos g2]
      exact setRows_conf h (o.tbl ▸ hr.delete _)
    · cases hc
theorem applyL_conf {s : Sch} : ∀ {cs : List Chg} {i : Inst}, confE s i = 0 → (applyL s i cs).1 = 0 → confE s (applyL s i cs).2 = 0
  | [], _, h, _ => h
  | c :: cs, i, h, hc => by
    unfold applyL at hc ⊢
    split at hc
    · rename_i g; exact absurd hc g
    · rename_i g
      rw [if_neg g]
      exact applyL_conf (applyC_conf h (by simpa using g)) hc

section
open Go.RowKit
section
variable {P : Program} {w0 : World} {m0 : Mem} {s s' : St} {a : Act} {w : World} {m : Mem} {ω : Wh} {F0 : Home} {T : TypeId → Option TI}

def Agree (D : Nat → Prop) (a ag : Act) : Prop := ag.defers = a.defers ∧ ag.tmps.size = a.tmps.size ∧ ∀ d, ¬ D d → ag.tmps[d]? = a.tmps[d]?
theorem Agree.refl (D : Nat → Prop) (a : Act) : Agree D a a := ⟨rfl, rfl, fun _ _ => rfl⟩
theorem Agree.put {D : Nat → Prop} {a ag : Act} (h : Agree D a ag) (d : Option Tmp) (v : Value) : Agree D (a.put d v) (ag.put d v) := by
  cases d with
  | none => exact h
  | some d =>
    refine ⟨h.1, by simpa [Act.put] using h.2.1, fun e he => ?_⟩
    simp only [Act.put, Array.getElem?_setIfInBounds, h.2.1, h.2.2 e he]
theorem Agree.putOf {D D' : Nat → Prop} {a ag : Act} (h : Agree D a ag) (d : Option Tmp) (v : Value) (hD : ∀ e, ¬ D' e → D e → d = some e) : Agree D' (a.put d v) (ag.put d v) := by
  cases d with
  | none =>
    refine ⟨h.1, h.2.1, fun e he => h.2.2 e fun hd => ?_⟩
    cases hD e he hd
  | some d =>
    refine ⟨h.1, by simpa [Act.put] using h.2.1, fun e he => ?_⟩
    simp only [Act.put, Array.getElem?_setIfInBounds, h.2.1]
    by_cases hde : d = e
    · simp [hde]
    · rw [if_neg hde, if_neg hde]
      exact h.2.2 e fun hd => hde (by have := hD e he hd; injection this)
theorem Agree.ghost {D : Nat → Prop} {a ag : Act} (h : Agree D a ag) (d : Option Tmp) (v : Value) (hD : ∀ e, d = some e → D e) : Agree D a (ag.put d v) := by
  cases d with
  | none => exact h
  | some d =>
    refine ⟨h.1, by simpa [Act.put] using h.2.1, fun e he => ?_⟩
    have hde : d ≠ e := fun hh => he (hD e (by rw [hh]))
    simp only [Act.put, Array.getElem?_setIfInBounds, if_neg hde, h.2.2 e he]

theorem wp_agree {D : Nat → Prop} {o : Oper} {a ag : Act} {next : Act → World → Prop} {Q : Exit → Act → World → Prop} (he : execOp a.eval o = execOp ag.eval o) (hA : Agree D a ag)
    (h : o.wp P ag w (fun a' w' => ∀ ar, Agree D ar a' → next ar w') (fun e a' w' => ∀ ar, Agree D ar a' → Q e ar w')) : o.wp P a w next Q := by
  unfold Oper.wp at h ⊢
  rw [he]
  unfold Oper.upon at h ⊢
  split at h
  · exact h _ (hA.put _ _)
  · exact h _ (hA.put _ _)
  · rename_i d w1 _
    have h1 : Agree D { a with defers := d :: a.defers } { ag with defers := d :: ag.defers } := ⟨by show d :: ag.defers = d :: a.defers; rw [hA.1], hA.2.1, hA.2.2⟩
    exact h _ (h1.put _ _)
  · refine h.mono fun e w' hr => ?_
    cases e with
    | returned v => exact hr _ (hA.put _ _)
    | panicked c => exact hr _ hA
    | outgrown =>
      obtain ⟨a1, w1, h1⟩ := hr
      exact ⟨a1, w1, h1 _ (Agree.refl _ _)⟩
  · exact h.mono fun v w' hr => hr _ (hA.put _ _)
  · exact h _ hA
  · exact h.elim

theorem eval_agree {D : Nat → Prop} {ops : Array Oper} {o : Oper} {a ag : Act} (hA : Agree D a ag) (hs : ∀ cs b, o.op ≠ .select cs b) (hl : ∀ t ∈ o.looksAt ops, ¬ D t) : execOp a.eval o = execOp ag.eval o := by
  refine execOp_congr o hs fun x hx => ?_
  cases x with
  | tmp t =>
    have := hA.2.2 t (hl t (operand_looks (by simpa using hx)))
    simp only [Act.eval, Array.getD_eq_getD_getElem?, this]
  | _ => rfl
theorem wanted_agree {D : Nat → Prop} {ops : Array Oper} {o : Oper} {a ag : Act} (hA : Agree D a ag) (hl : ∀ t ∈ o.looksAt ops, ¬ D t) : Region.wanted o (yielded ops a.tmps) = Region.wanted o (yielded ops ag.tmps) := by
  unfold Region.wanted
  cases hg : o.guard with
  | none => rfl
  | some p =>
    obtain ⟨j, b⟩ := p
    have : yielded ops a.tmps j = yielded ops ag.tmps j := by
      unfold yielded
      cases hd : (ops[j]?).bind (·.dst) with
      | none => rfl
      | some t =>
        have := hA.2.2 t (hl t (by simp [Oper.looksAt, hg, hd]))
        simp only [Option.bind_some, this]
    simp only [this]

def sameA (t : St) (d : Option Tmp) (y : A) : Prop := match d with | some d => d < t.n ∧ look t.env d = some y | none => True
theorem CI.same (h : CI P w0 m0 F0 s a w m ω) {d : Option Tmp} {y : A} {v : Value} (hs : sameA s d y) (hv : ARep m ω v y) : CI P w0 m0 F0 s (a.put d v) w m ω := by
  cases d with
  | none => exact h
  | some d =>
    obtain ⟨h1, h2⟩ := hs
    refine (h.put h1 hv).ext rfl (fun t => ?_) rfl rfl
    show look s.env t = if d = t then some y else look s.env t
    split
    · rename_i e; subst e; exact h2
    · rfl
def Stable (P : Program) (T : TypeId → Option TI) (ops : Array Oper) : List Oper → St → Prop
  | [], _ => True
  | o :: l, t => (match guardOf ops t o with | some true => VVal P T o t (sameA t o.dst) | some false => sameA t o.dst (.tup []) | none => False) ∧ Stable P T ops l t
theorem Stable.get {ops : Array Oper} {t : St} {o : Oper} : ∀ {l : List Oper}, Stable P T ops l t → o ∈ l → (match guardOf ops t o with | some true => VVal P T o t (sameA t o.dst) | some false => sameA t o.dst (.tup []) | none => False)
  | x :: l, h, ho => by
    rcases List.mem_cons.1 ho with rfl | ho
    · exact h.1
    · exact Stable.get h.2 ho
def VCh (P : Program) (T : TypeId → Option TI) (ops : Array Oper) (lq : List Oper) : List Oper → St → (St → Prop) → Prop
  | [], t, K => Stable P T ops lq t ∧ K t
  | o :: l, t, K => Stable P T ops lq t ∧ VOps P T ops [o] t (fun t' => VCh P T ops lq l t' K)
theorem VCh.step {ops : Array Oper} {lq l : List Oper} {o : Oper} {t : St} {K : St → Prop} (h1 : Stable P T ops lq t) (h2 : ∀ K2 : St → Prop, (∀ t', VCh P T ops lq l t' K → K2 t') → VOps P T ops [o] t K2) : VCh P T ops lq (o :: l) t K :=
  ⟨h1, h2 _ fun _ h => h⟩

def noSelect (o : Oper) : Bool := match o.op with | .select .. => false | _ => true
def segs (l : List Oper) : List (Nat × Nat) → List Oper
  | [] => []
  | p :: r => (l.drop p.1).take p.2 ++ segs l r
theorem Stable_nil {ops : Array Oper} (t : St) : Stable P T ops [] t = True := rfl
theorem Stable_cons {ops : Array Oper} {d : Option Tmp} {op : Op} {ty : TypeId} {pos : String} {af : Array Edge} {l : List Oper} (t : St) : Stable P T ops (⟨d, op, ty, pos, af, Option.none⟩ :: l) t = (VVal P T ⟨d, op, ty, pos, af, Option.none⟩ t (sameA t d) ∧ Stable P T ops l t) := rfl
theorem sameA_some (t : St) (d : Nat) (y : A) : sameA t (some d) y = (d < t.n ∧ look t.env d = some y) := rfl
theorem sameA_none (t : St) (y : A) : sameA t Option.none y = True := rfl
end
end

section
variable {P : Program} {w0 : World} {m0 : Mem} {F0 : Home}

theorem St.le_keep (ts : List Nat) (s : St) : St.le ⟨s.n, keepL ts s.env, s.box, s.row⟩ s := by
  refine ⟨rfl, fun t x hx => ?_, fun _ _ h => h, fun _ _ h => h⟩
  simp only [look_keepL] at hx
  split at hx
  · exact hx
  · cases hx
theorem AWP.keep {Q : Exit → St → Prop} {s : St} {c : Code} (ts : List Nat) (h : AWP P w0 m0 F0 c Q ⟨s.n, keepL ts s.env, s.box, s.row⟩) : AWP P w0 m0 F0 c Q s :=
  AWP.weak (St.le_keep ts s) h
end

section
open Go.RowKit
variable {P : Program} {T : TypeId → Option TI} {w0 : World} {m0 : Mem} {F0 : Home} {s : St} {ω : Wh}

def StabX (P : Program) (T : TypeId → Option TI) (ops : Array Oper) (t : St) (o : Oper) : Prop := match guardOf ops t o with
  | some true => ∃ x, sameA t o.dst x ∧ VVal P T o t (fun y => y = x)
  | some false => sameA t o.dst (.tup [])
  | none => False
theorem Stable.x {ops : Array Oper} {t : St} {l : List Oper} (h : Stable P T ops l t) : ∀ o ∈ l, StabX P T ops t o := by
  intro o ho
  have h1 := Stable.get h ho
  unfold StabX
  cases hg : guardOf ops t o with
  | none => rw [hg] at h1; exact h1.elim
  | some b =>
    rw [hg] at h1
    cases b with
    | true =>
      obtain ⟨x, h2, h3⟩ := VVal_pick h1
      exact ⟨x, h2, h3⟩
    | false => exact h1
structure Link where
  op : Oper
  free : List Oper
  rest : List Oper
def VCy (P : Program) (T : TypeId → Option TI) (ops : Array Oper) : List Link → St → (St → Prop) → Prop
  | [], t, K => K t
  | p :: l, t, K => VOps P T ops [p.op] t (fun t' => VHead P T ops p.free t' (fun t'' => Stable P T ops p.rest t'' ∧ VCy P T ops l t'' K))
def VCx (P : Program) (T : TypeId → Option TI) (ops : Array Oper) (lq : List Oper) (l : List Link) (t : St) (K : St → Prop) : Prop := (∀ o ∈ lq, StabX P T ops t o) ∧ VCy P T ops l t K
def unl (ops : Array Oper) (ce : List Nat) (dep : Nat) (l1 : List Nat) (i : Nat) : Bool := ce.all fun j => !(clo ops dep i).elem j || l1.elem j
def pickO (ops : Array Oper) (p : Nat → Bool) : List Oper := (List.range ops.size).filterMap fun i => if p i then ops[i]? else none
theorem mem_pickO {ops : Array Oper} {p : Nat → Bool} {o : Oper} : o ∈ pickO ops p ↔ ∃ i, p i = true ∧ ops[i]? = some o := by
  unfold pickO
  simp only [List.mem_filterMap, List.mem_range]
  constructor
  · rintro ⟨i, hi, ho⟩
    split at ho
    · rename_i hn
      exact ⟨i, hn, ho⟩
    · cases ho
  · rintro ⟨i, hi, ho⟩
    refine ⟨i, (Array.getElem?_eq_some_iff.1 ho).1, ?_⟩
    rw [if_pos hi]
    exact ho
def quiet0 (ops : Array Oper) (ce : List Nat) (dep : Nat) : List Oper := pickO ops fun i => !ce.elem i && unl ops ce dep [] i
def quietNew (ops : Array Oper) (ce : List Nat) (dep : Nat) (l1 : List Nat) (k : Nat) : List Oper := pickO ops fun i => !ce.elem i && !unl ops ce dep l1 i && unl ops ce dep (l1 ++ [k]) i
def quietOld (ops : Array Oper) (ce : List Nat) (dep : Nat) (l1 : List Nat) (k : Nat) : List Oper := pickO ops fun i => !ce.elem i && unl ops ce dep l1 i && !(l1 ++ [k]).any fun j => (clo ops dep j).elem i
def quietAft (ops : Array Oper) (ce : List Nat) (dep : Nat) (l1 : List Nat) : List Oper := pickO ops fun i => !ce.elem i && unl ops ce dep l1 i && !l1.any fun j => (clo ops dep j).elem i
def chainLs (ops : Array Oper) (ce : List Nat) (dep : Nat) : List Nat → List Nat → List Link
  | _, [] => []
  | l1, j :: l2 => (match ops[j]? with | some o => [⟨o, quietNew ops ce dep l1 j, quietOld ops ce dep l1 j⟩] | none => []) ++ chainLs ops ce dep (l1 ++ [j]) l2

def laterOk (ops : Array Oper) (o o' : Oper) : Prop := (∀ t ∈ o.looksAt ops, o'.dst ≠ some t) ∧ ∀ d, o.dst = some d → o'.dst ≠ some d
theorem steps_ghost (hT : TabOk P T) {ops : Array Oper} {w : World} {D : Nat → Prop} {a0 : Act} : ∀ (l : List Oper) (s : St) (ps : List (Option Tmp × A)) (a : Act) (m : Mem), (∀ o ∈ l, plainOp o = true ∧ ∀ d, o.dst = some d → D d) → ps.length = l.length →
    (∀ (i : Nat) (o : Oper), l[i]? = some o → ∃ x, ps[i]? = some (o.dst, x) ∧ StepOK P T ops (puts s (ps.take i)) o x) → CI P w0 m0 F0 s a w m ω → Agree D a0 a → ∃ ag m', CI P w0 m0 F0 (puts s ps) ag w m' ω ∧ Agree D a0 ag
  | [], s, ps, a, m, _, hl, _, hC, hA => by
    have : ps = [] := List.length_eq_zero_iff.1 (by simpa using hl)
    subst this
    exact ⟨a, m, hC, hA⟩
  | o :: l, s, ps, a, m, hp, hl, hs, hC, hA => by
    obtain ⟨p1, p2⟩ := hp o (by simp)
    obtain ⟨x, h1, h2⟩ := hs 0 o rfl
    cases ps with
    | nil => simp at h1
    | cons p ps =>
      simp only [List.getElem?_cons_zero, Option.some.injEq] at h1
      subst h1
      have hrest := fun (a : Act) (m : Mem) (hC : CI P w0 m0 F0 (s.putO o.dst x) a w m ω) (hA : Agree D a0 a) => steps_ghost hT l (s.putO o.dst x) ps a m (fun o ho => hp o (by simp [ho])) (by simpa using hl) (fun i o' ho' => by
        obtain ⟨y, h3, h4⟩ := hs (i + 1) o' (by simpa using ho')
        exact ⟨y, by simpa using h3, by simpa [puts] using h4⟩) hC hA
      simp only [List.take_zero, puts] at h2
      obtain ⟨h0, ⟨hg, hv⟩ | ⟨hg, rfl⟩⟩ := h2
      · obtain ⟨y, rfl, hG⟩ := VVal_sound hT hv hC
        obtain ⟨v, m', _, hC', hv'⟩ := hG.2 p1
        exact hrest _ m' (hC'.putO h0 hv') (hA.ghost _ _ p2)
      · exact hrest _ m (hC.putO h0 arep_undef) (hA.ghost _ _ p2)
theorem steps_stable {ops : Array Oper} {l : List Oper} {ps : List (Option Tmp × A)} {s : St} (hl : ps.length = l.length) (hp : l.Pairwise (laterOk ops)) (hself : ∀ o ∈ l, ∀ t ∈ o.looksAt ops, o.dst ≠ some t)
    (hs : ∀ (i : Nat) (o : Oper), l[i]? = some o → ∃ x, ps[i]? = some (o.dst, x) ∧ StepOK P T ops (puts s (ps.take i)) o x) :
    ∀ o ∈ l, StabX P T ops (puts s ps) o := by
  intro o ho
  obtain ⟨i, hi, rfl⟩ := List.mem_iff_getElem.1 ho
  obtain ⟨x, h1, h2⟩ := hs i l[i] (List.getElem?_eq_getElem hi)
  have hi' : i < ps.length := by omega
  have hpi : ps[i] = (l[i].dst, x) := by rw [List.getElem?_eq_getElem hi'] at h1; injection h1
  have hsplit : ps = ps.take i ++ (l[i].dst, x) :: ps.drop (i + 1) := by
    rw [← hpi, List.getElem_cons_drop, List.take_append_drop]
  have hdst : ∀ p ∈ ps.drop (i + 1), ∃ o', laterOk ops l[i] o' ∧ p.1 = o'.dst := by
    intro p hp'
    obtain ⟨k, hk, rfl⟩ := List.mem_iff_getElem.1 hp'
    rw [List.length_drop] at hk
    have hk' : i + 1 + k < l.length := by omega
    obtain ⟨y, h3, _⟩ := hs (i + 1 + k) l[i + 1 + k] (List.getElem?_eq_getElem hk')
    refine ⟨l[i + 1 + k], List.pairwise_iff_getElem.1 hp i (i + 1 + k) hi hk' (by omega), ?_⟩
    rw [List.getElem?_eq_getElem (by omega)] at h3
    injection h3 with h3
    rw [List.getElem_drop, h3]
  have hlook : ∀ t ∈ l[i].looksAt ops, look (puts s (ps.take i)).env t = look (puts s ps).env t := by
    intro t ht
    conv => rhs; rw [hsplit, puts_append]
    refine (look_puts_ne fun p hp' e => ?_).symm
    rcases List.mem_cons.1 hp' with rfl | hp'
    · exact hself _ ho t ht e
    · obtain ⟨o', h3, h4⟩ := hdst p hp'
      exact h3.1 t ht (h4 ▸ e)
  have hsame : sameA (puts s ps) l[i].dst x := by
    unfold sameA
    split
    · rename_i d hd
      have h0 := h2.1
      rw [hd] at h0
      refine ⟨by rw [puts_n]; have : d < (puts s (ps.take i)).n := h0; rwa [puts_n] at this, ?_⟩
      rw [hsplit, puts_append, puts, look_puts_ne fun p hp' e => by
        obtain ⟨o', h3, h4⟩ := hdst p hp'
        exact h3.2 d hd (h4 ▸ e)]
      rw [hd]
      show (if d = d then some x else _) = some x
      rw [if_pos rfl]
    · trivial
  unfold StabX
  rw [← guardOf_congr hlook]
  have hbox : (puts s (ps.take i)).box = (puts s ps).box := by rw [puts_box, puts_box]
  have hrow : (puts s ps).row = (puts s (ps.take i)).row := by rw [puts_row, puts_row]
  obtain ⟨_, ⟨hg, hv⟩ | ⟨hg, rfl⟩⟩ := h2
  · rw [hg]
    have hv2 := VVal_congr (s' := puts s ps) (fun id ls h => by rw [← hbox]; exact h) hrow (fun y hy ty => evalO_congr (fun t e => hlook t (operand_looks (e ▸ hy))) ty) hv
    exact ⟨x, hsame, hv2⟩
  · rw [hg]
    exact hsame

def linkOk (ops : Array Oper) (ce : List Nat) (dep : Nat) : Bool :=
  (List.range ops.size).all fun i => (ce.elem i || ((ops[i]?).map plainOp).getD true) && ((ops[i]?).map noSelect).getD true &&
    (List.range ops.size).all fun j => (decide (j < i) || ce.elem j || match dstAt ops j with | none => true | some t => !(looksAt ops i).elem t) && (!(ce.elem i && ce.elem j && decide (j < i)) || (clo ops dep i).elem j)
structure LinkFacts (ops : Array Oper) (ce : List Nat) (dep : Nat) : Prop where
  plain : ∀ (i : Nat) (o : Oper), ops[i]? = some o → i ∉ ce → plainOp o = true
  sel : ∀ (i : Nat) (o : Oper), ops[i]? = some o → ∀ cs b, o.op ≠ .select cs b
  later : ∀ i j t, i < ops.size → j < ops.size → i ≤ j → j ∉ ce → dstAt ops j = some t → t ∉ looksAt ops i
  chain : ∀ i j, i < ops.size → j < ops.size → i ∈ ce → j ∈ ce → j < i → j ∈ clo ops dep i
theorem linkFacts {ops : Array Oper} {ce : List Nat} {dep : Nat} (h : linkOk ops ce dep = true) : LinkFacts ops ce dep := by
  unfold linkOk at h
  simp only [List.all_eq_true, List.mem_range, Bool.and_eq_true] at h
  refine ⟨fun i o ho hi => ?_, fun i o ho cs b hb => ?_, fun i j t hi hj hij hjc ht hl => ?_, fun i j hi hj h1 h2 hlt => ?_⟩
  · have hin : i < ops.size := (Array.getElem?_eq_some_iff.1 ho).1
    have h1 := (h i hin).1.1
    rw [ho] at h1
    simp only [Option.map_some, Option.getD_some, Bool.or_eq_true] at h1
    rcases h1 with h1 | h1
    · exact absurd (by simpa using h1) hi
    · exact h1
  · have hin : i < ops.size := (Array.getElem?_eq_some_iff.1 ho).1
    have h1 := (h i hin).1.2
    rw [ho] at h1
    simp only [Option.map_some, Option.getD_some, noSelect, hb] at h1
    cases h1
  · have h1 := ((h i hi).2 j hj).1
    rw [ht] at h1
    simp only [Bool.or_eq_true, decide_eq_true_eq] at h1
    rcases h1 with (h1 | h1) | h1
    · omega
    · exact hjc (by simpa using h1)
    · have : (looksAt ops i).elem t = true := by simpa using hl
      rw [this] at h1
      cases h1
  · have h3 := ((h i hi).2 j hj).2
    have e1 : ce.elem i = true := by simpa using h1
    have e2 : ce.elem j = true := by simpa using h2
    rw [e1, e2] at h3
    simp only [hlt, decide_true, Bool.and_self, Bool.not_true, Bool.false_or] at h3
    simpa using h3
theorem pickO_later {ops : Array Oper} {ce : List Nat} {dep : Nat} (F : DrawFacts ops ops.size dep) (G : LinkFacts ops ce dep) (p : Nat → Bool) (hp : ∀ i, p i = true → ce.elem i = false) : (pickO ops p).Pairwise (laterOk ops) ∧ ∀ o ∈ pickO ops p, ∀ t ∈ o.looksAt ops, o.dst ≠ some t := by
  constructor
  · unfold pickO
    refine List.Pairwise.filterMap _ (fun i j hij o ho o' ho' => ?_) List.pairwise_lt_range
    split at ho
    case isFalse => cases ho
    split at ho'
    case isFalse => cases ho'
    rename_i hpi hpj
    have hjc : j ∉ ce := by simpa using hp j hpj
    have hi : i < ops.size := (Array.getElem?_eq_some_iff.1 ho).1
    have hj : j < ops.size := (Array.getElem?_eq_some_iff.1 ho').1
    refine ⟨fun t ht e => ?_, fun d hd e => ?_⟩
    · exact G.later i j t hi hj (by omega) hjc (by simp [dstAt, ho', e]) (by simpa [looksAt, ho] using ht)
    · exact F.apart i j hi hj (by omega) d (by simp [dstAt, ho, hd]) (by simp [dstAt, ho', e])
  · intro o ho t ht e
    obtain ⟨i, hpi, ho⟩ := mem_pickO.1 ho
    have hi : i < ops.size := (Array.getElem?_eq_some_iff.1 ho).1
    have hic : i ∉ ce := by simpa using hp i hpi
    exact G.later i i t hi hi (Nat.le_refl _) hic (by simp [dstAt, ho, e]) (by simpa [looksAt, ho] using ht)
theorem unl_iff {ops : Array Oper} {ce : List Nat} {dep : Nat} {l1 : List Nat} {i : Nat} : unl ops ce dep l1 i = true ↔ ∀ j ∈ ce, j ∈ clo ops dep i → j ∈ l1 := by
  unfold unl
  simp only [List.all_eq_true, Bool.or_eq_true, Bool.not_eq_true', List.elem_eq_mem, decide_eq_false_iff_not, decide_eq_true_eq]
  exact forall₂_congr fun j _ => ⟨fun h h2 => h.resolve_left fun h3 => h3 h2, fun h => Decidable.or_iff_not_imp_left.2 fun h2 => h (Decidable.of_not_not h2)⟩
theorem AWP.drawX0 (hT : TabOk P T) (hm : P.follows .mixedOrders = true) {Q : Exit → St → Prop} {id : Nat} {ops : Array Oper} (ce : List Nat) (dep : Nat) (hord : ce.Pairwise (· < ·)) (hchk : drawOk ops ops.size dep = true) (hch : linkOk ops ce dep = true)
    (h : VHead P T ops (quiet0 ops ce dep) s fun s' => VCy P T ops (chainLs ops ce dep [] ce) s' (Q .normal)) : AWP P w0 m0 F0 (.region id ops true) Q s := by
  intro a w hc
  have F := drawFacts hchk
  have G := linkFacts hch
  obtain ⟨m, ω, hC⟩ := hc
  refine wp_region_any hm ?_
  have hg0 : ∀ i, (Array.replicate ops.size false).getD i false = false := fun i => by
    rw [Array.getD_eq_getD_getElem?, Array.getElem?_replicate]
    split <;> rfl
  let D : (Nat → Bool) → List Nat → Nat → Prop := fun S l1 d => ∃ i, i ∉ ce ∧ unl ops ce dep l1 i = true ∧ S i = false ∧ dstAt ops i = some d
  have hqa : ∀ (l1 : List Nat) (o : Oper) (i : Nat), i ∉ ce → ops[i]? = some o → unl ops ce dep l1 i = true → (∀ j ∈ l1, i ∉ clo ops dep j) → o ∈ quietAft ops ce dep l1 := by
    intro l1 o i hi ho hu hj
    refine mem_pickO.2 ⟨i, ?_, ho⟩
    have h1 : ce.elem i = false := by simpa using hi
    have h2 : (l1.any fun j => (clo ops dep j).elem i) = false := by
      rw [List.any_eq_false]
      intro j hj'
      simpa using hj j hj'
    rw [h1, h2, hu]
    rfl
  refine draw_headE hT F (K := Q .normal) (Q := PostQ P w0 m0 F0 Q)
    (C := fun S a w => ∃ l1 l2 t, ce = l1 ++ l2 ∧ (∀ j ∈ l1, S j = true) ∧ (∀ j ∈ l2, S j = false) ∧ VCx P T ops (quietAft ops ce dep l1) (chainLs ops ce dep l1 l2) t (Q .normal) ∧ ∃ ag, Conc P w0 m0 F0 t ag w ∧ Agree (D S l1) a ag)
    (fun s a w h1 h2 => ⟨s, h1, h2⟩) (fun S i a w o ho hi hSi htl hcl hcl2 hC' K' Q' hK => ?_) (fun S a w hall htl hC' => ?_) ops.size _ a _ 0 (by omega) (by simp) ?_ ?_ ?_ ?_
  · obtain ⟨l1, l2, t, e1, e2, e3, hV, ag, ⟨m, ω, hA⟩, hag⟩ := hC'
    have hin : i < ops.size := (Array.getElem?_eq_some_iff.1 ho).1
    have hdone : ∀ j ∈ ce, S j = true → j ∈ l1 := by
      intro j hj hSj
      rw [e1] at hj
      rcases List.mem_append.1 hj with h | h
      · exact h
      · rw [e3 j h] at hSj; cases hSj
    have hlook : ∀ t ∈ o.looksAt ops, ¬ D S l1 t := by
      rintro t ht ⟨j, j1, _, j2, j3⟩
      have htl' : t ∈ looksAt ops i := by simpa [looksAt, ho] using ht
      have hjn : j < ops.size := by
        rcases Nat.lt_or_ge j ops.size with h | h
        · exact h
        · simp [dstAt, Array.getElem?_eq_none h] at j3
      rcases Nat.lt_or_ge j i with hlt | hge
      · have := hcl j ((F.reads i j t hin hjn (by omega) j3 htl').1 hlt)
        rw [j2] at this
        cases this
      · exact G.later i j t hin hjn hge j1 j3 htl'
    have hsel := G.sel i o ho
    have hex := eval_agree hag hsel hlook
    have hwa := wanted_agree hag hlook
    rw [hwa]
    by_cases hic : i ∈ ce
    · -- the chain
      have hi2 : i ∈ l2 := by
        rw [e1] at hic
        rcases List.mem_append.1 hic with h | h
        · have := e2 i h; rw [hSi] at this; cases this
        · exact h
      obtain ⟨k, l2', rfl⟩ : ∃ k l2', l2 = k :: l2' := by
        cases l2 with
        | nil => cases hi2
        | cons k l => exact ⟨k, l, rfl⟩
      have hord2 : (k :: l2').Pairwise (· < ·) := by rw [e1] at hord; exact (List.pairwise_append.1 hord).2.1
      have hki : k = i := by
        rcases List.mem_cons.1 hi2 with h | h
        · exact h.symm
        · have hlt := (List.pairwise_cons.1 hord2).1 i h
          have := hcl k (G.chain i k hin (by omega) hic (by rw [e1]; simp) hlt)
          rw [e3 k (by simp)] at this
          cases this
      subst hki
      have hnot : ∀ j ∈ l2', j ≠ k := fun j hj e => by have := (List.pairwise_cons.1 hord2).1 j hj; omega
      have hV := hV.2
      simp only [chainLs, ho, List.cons_append, List.nil_append, VCy] at hV
      have hunew : ∀ i', i' ∉ ce → unl ops ce dep l1 i' = false → S i' = false := by
        intro i' _ hu
        cases hS : S i' with
        | false => rfl
        | true =>
          have : unl ops ce dep l1 i' = true := unl_iff.2 fun j hj hjc => hdone j hj (hcl2 i' hS j hjc)
          rw [hu] at this
          cases this
      have hDD : ∀ d, D S l1 d → D (fun j => if j = k then true else S j) (l1 ++ [k]) d := by
        rintro d ⟨j, j1, ju, j2, j3⟩
        have hjk : j ≠ k := fun e => j1 (e ▸ hic)
        exact ⟨j, j1, unl_iff.2 fun q hq hqc => List.mem_append_left _ (unl_iff.1 ju q hq hqc), by simpa [hjk] using j2, j3⟩
      have hnext : ∀ t' ar ag' w', VHead P T ops (quietNew ops ce dep l1 k) t' (fun t'' => Stable P T ops (quietOld ops ce dep l1 k) t'' ∧ VCy P T ops (chainLs ops ce dep (l1 ++ [k]) l2') t'' (Q .normal)) → Conc P w0 m0 F0 t' ag' w' → Agree (D S l1) ar ag' → K' ar w' := by
        rintro t' ar ag' w' h1 ⟨m2, ω2, h2⟩ h3
        obtain ⟨ps, hl, ⟨hst, hK2⟩, hs⟩ := VHead_chain _ _ h1
        obtain ⟨hidx, hself⟩ := pickO_later F G (fun i => !ce.elem i && !unl ops ce dep l1 i && unl ops ce dep (l1 ++ [k]) i) (fun i hi => by simp only [Bool.and_eq_true, Bool.not_eq_true'] at hi; exact hi.1.1)
        have hstab := steps_stable hl hidx hself hs
        have h3' : Agree (D (fun j => if j = k then true else S j) (l1 ++ [k])) ar ag' := ⟨h3.1, h3.2.1, fun d hd => h3.2.2 d fun h => hd (hDD d h)⟩
        obtain ⟨ag2, m', h4, h5⟩ := steps_ghost (D := D (fun j => if j = k then true else S j) (l1 ++ [k])) (a0 := ar) hT _ t' ps ag' m2 (fun o' ho' => by
          obtain ⟨i', hi', ho'⟩ := mem_pickO.1 ho'
          simp only [Bool.and_eq_true, Bool.not_eq_true', List.elem_eq_mem, decide_eq_false_iff_not] at hi'
          obtain ⟨⟨q1, q2⟩, q3⟩ := hi'
          have hik : i' ≠ k := fun e => q1 (e ▸ hic)
          exact ⟨G.plain i' o' ho' q1, fun d hd => ⟨i', q1, q3, by simpa [hik] using hunew i' q1 q2, by simp [dstAt, ho', hd]⟩⟩) hl hs h2 h3'
        refine hK _ _ ⟨l1 ++ [k], l2', puts t' ps, by rw [e1]; simp, fun j hj => ?_, fun j hj => ?_, ⟨fun o' ho' => ?_, hK2⟩, ag2, ⟨m', ω2, h4⟩, h5⟩
        · rcases List.mem_append.1 hj with h | h
          · simp only [e2 j h, ite_self]
          · have : j = k := by simpa using h
            simp [this]
        · simp only [hnot j hj, if_false]; exact e3 j (by simp [hj])
        · obtain ⟨i', hi', hoo⟩ := mem_pickO.1 ho'
          simp only [Bool.and_eq_true] at hi'
          obtain ⟨⟨q1, q2⟩, q3⟩ := hi'
          cases hu : unl ops ce dep l1 i' with
          | true => exact hst.x o' (mem_pickO.2 ⟨i', by simp only [q1, hu, q3, Bool.and_self], hoo⟩)
          | false => exact hstab o' (mem_pickO.2 ⟨i', by simp only [q1, hu, q2, Bool.not_false, Bool.and_self], hoo⟩)
      simp only [VOps] at hV
      split at hV
      · rename_i hg
        rw [if_pos (guardOf_sound hA hg)]
        exact .inl (wp_agree hex hag (VOp_sound hT hV hA _ _ fun s' a' w' h1 h2 ar har => hnext s' ar a' w' h1 h2 har))
      · rename_i hg
        rw [if_neg (by rw [guardOf_sound hA hg]; simp)]
        obtain ⟨h1, h2⟩ := pk_elim hV
        exact hnext _ _ (ag.put o.dst undef) w h2 ⟨m, ω, hA.putO h1 arep_undef⟩ (hag.put _ _)
      · cases hV
    · -- a quiet one
      have hun : unl ops ce dep l1 i = true := unl_iff.2 fun j hj hjc => hdone j hj (hcl j hjc)
      have hst := hV.1 o (hqa l1 o i hic ho hun fun j hj hij => by
        have := hcl2 j (e2 j hj) i hij
        rw [hSi] at this
        cases this)
      have hfin : ∀ v m', CI P w0 m0 F0 t (ag.put o.dst v) w m' ω → K' (a.put o.dst v) w := fun v m' h1 =>
        hK _ _ ⟨l1, l2, t, e1, fun j hj => by simp only [e2 j hj, ite_self], fun j hj => by
          have : j ≠ i := fun e => hic (by rw [e1]; simp [← e, hj])
          simp only [this, if_false]; exact e3 j hj, hV, ag.put o.dst v, ⟨m', ω, h1⟩, hag.putOf _ _ fun e h1 h2 => by
            obtain ⟨j, j1, ju, j2, j3⟩ := h2
            by_cases hji : j = i
            · subst hji
              simpa [dstAt, ho] using j3
            · exact absurd ⟨j, j1, ju, by simpa [hji] using j2, j3⟩ h1⟩
      unfold StabX at hst
      split at hst
      · rename_i hg
        rw [if_pos (guardOf_sound hA hg)]
        obtain ⟨y, hy, hst⟩ := hst
        obtain ⟨x, hx, hG⟩ := VVal_sound hT hst hA
        have hx : sameA t o.dst x := hx ▸ hy
        obtain ⟨v, m', hrun, hC2, hv⟩ := hG.2 (G.plain i o ho hic)
        refine .inl ?_
        unfold Oper.wp
        rw [hex, hrun, Oper.upon_value]
        exact hfin v m' (hC2.same hx hv)
      · rename_i hg
        rw [if_neg (by rw [guardOf_sound hA hg]; simp)]
        exact hfin _ m (hA.same hst arep_undef)
      · cases hst
  · obtain ⟨l1, l2, t, e1, e2, e3, hV, ag, hA, hag⟩ := hC'
    have hl2 : ∀ (l1 l2 : List Nat), (∀ j ∈ l2, ops[j]? = none) → chainLs ops ce dep l1 l2 = [] := by
      intro l1 l2
      induction l2 generalizing l1 with
      | nil => intro _; rfl
      | cons j l2 ih =>
        intro hj
        simp only [chainLs, hj j (by simp), List.nil_append]
        exact ih _ fun j' hj' => hj j' (by simp [hj'])
    have hl2 := hl2 l1 l2 fun j hj => by
      rcases Nat.lt_or_ge j ops.size with h | h
      · have := hall j h
        rw [e3 j hj] at this
        cases this
      · exact Array.getElem?_eq_none h
    rw [hl2] at hV
    have hD : ∀ d, ¬ D S l1 d := by
      rintro d ⟨j, j1, _, j2, j3⟩
      rcases Nat.lt_or_ge j ops.size with h | h
      · have := hall j h
        rw [j2] at this
        cases this
      · simp [dstAt, Array.getElem?_eq_none h] at j3
    have hea : ag = a := by
      obtain ⟨h1, h2, h3⟩ := hag
      cases ag
      cases a
      simp only at h1 h2 h3
      subst h1
      congr 1
      exact Array.ext_getElem? fun d => h3 d (hD d)
    subst hea
    refine ⟨t, ?_, hA⟩
    have hd : ops.toList.drop ops.size = [] := by apply List.drop_eq_nil_of_le; simp
    rw [hd]
    exact hV.2
  · rw [List.filter_eq_nil_iff.2 (fun i _ => by rw [hg0]; simp)]
    rfl
  · intro i _ hb
    rw [hg0] at hb
    cases hb
  · intro i _
    exact hg0 i
  · obtain ⟨ps, hl, hK, hs⟩ := VHead_chain _ _ h
    obtain ⟨hidx, hself⟩ := pickO_later F G (fun i => !ce.elem i && unl ops ce dep [] i) (fun i hi => by simp only [Bool.and_eq_true, Bool.not_eq_true'] at hi; exact hi.1)
    have hstab := steps_stable hl hidx hself hs
    obtain ⟨ag, m', h2, h3⟩ := steps_ghost (D := D (fun i => (Array.replicate ops.size false).getD i false) []) (a0 := a) hT _ s ps a m (fun o ho => by
      obtain ⟨i, hi, ho⟩ := mem_pickO.1 ho
      simp only [Bool.and_eq_true, Bool.not_eq_true', List.elem_eq_mem, decide_eq_false_iff_not] at hi
      exact ⟨G.plain i o ho hi.1, fun d hd => ⟨i, hi.1, hi.2, hg0 i, by simp [dstAt, ho, hd]⟩⟩) hl hs hC.draw (Agree.refl _ _)
    refine ⟨[], ce, puts s ps, rfl, fun j hj => (by cases hj), fun j _ => hg0 j, ⟨fun o ho => hstab o ?_, hK⟩, ag, ⟨m', ω, h2⟩, h3⟩
    obtain ⟨i, hi, ho⟩ := mem_pickO.1 ho
    simp only [Bool.and_eq_true] at hi
    exact mem_pickO.2 ⟨i, by simp only [hi.1, Bool.and_self], ho⟩

def segx (l : List Oper) : List (Nat × List (Nat × Nat) × List (Nat × Nat)) → List Link
  | [] => []
  | p :: r => (match l[p.1]? with | some o => [⟨o, segs l p.2.1, segs l p.2.2⟩] | none => []) ++ segx l r
theorem segx_nil (l : List Oper) : segx l [] = [] := rfl
theorem segx_cons (l : List Oper) (i : Nat) (q f : List (Nat × Nat)) (r : List (Nat × List (Nat × Nat) × List (Nat × Nat))) : segx l ((i, f, q) :: r) = (match l[i]? with | some o => [⟨o, segs l f, segs l q⟩] | none => []) ++ segx l r := rfl
theorem AWP.drawX (hT : TabOk P T) (hm : P.follows .mixedOrders = true) {Q : Exit → St → Prop} {id : Nat} {l : List Oper} (sq : List (Nat × Nat)) (sx : List (Nat × List (Nat × Nat) × List (Nat × Nat))) (ce : List Nat) (dep : Nat) (hord : ce.Pairwise (· < ·)) (hchk : drawOk l.toArray l.toArray.size dep = true) (hch : linkOk l.toArray ce dep = true)
    (h1 : quiet0 l.toArray ce dep = segs l sq) (h2 : chainLs l.toArray ce dep [] ce = segx l sx)
    (h : ∀ K2 : St → Prop, (∀ s', (∀ K : St → Prop, (∀ s', Q .normal s' → K s') → VCy P T l.toArray (segx l sx) s' K) → K2 s') → VHead P T l.toArray (segs l sq) s K2) : AWP P w0 m0 F0 (.region id l.toArray true) Q s :=
  AWP.drawX0 hT hm ce dep hord hchk hch (by rw [h1, h2]; exact h _ fun s' h => h _ fun _ h => h)
theorem VCy.step {ops : Array Oper} {lq ln : List Oper} {o : Oper} {l : List Link} {t : St} {K : St → Prop} (h : ∀ K2 : St → Prop, (∀ t', VHead P T ops ln t' (fun t'' => Stable P T ops lq t'' ∧ VCy P T ops l t'' K) → K2 t') → VOps P T ops [o] t K2) : VCy P T ops (⟨o, ln, lq⟩ :: l) t K :=
  h _ fun _ h => h
theorem VCy.none {ops : Array Oper} {lq : List Oper} {l : List Link} {t : St} {K : St → Prop} (h : Stable P T ops lq t ∧ VCy P T ops l t K) : VHead P T ops [] t (fun t'' => Stable P T ops lq t'' ∧ VCy P T ops l t'' K) := h
theorem VCy.some {ops : Array Oper} {lq ln : List Oper} {o : Oper} {l : List Link} {t : St} {K : St → Prop} (h : ∀ K2 : St → Prop, (∀ t', (Stable P T ops lq t' ∧ VCy P T ops l t' K) → K2 t') → VHead P T ops (o :: ln) t K2) : VHead P T ops (o :: ln) t (fun t'' => Stable P T ops lq t'' ∧ VCy P T ops l t'' K) :=
  h _ fun _ h => h
theorem VCy.intro {A : (St → Prop) → Prop} {ops : Array Oper} {l : List Link} {t : St} (h : ∀ K : St → Prop, A K → VCy P T ops l t K) : ∀ K : St → Prop, A K → VCy P T ops l t K := h
theorem VCy.keep {ops : Array Oper} {t : St} {l : List Oper} {A : Prop} (h1 : Stable P T ops l t) (h : A) : Stable P T ops l t ∧ A := ⟨h1, h⟩
theorem VCy.quiet {ops : Array Oper} {t : St} {A : Prop} (h : A) : Stable P T ops [] t ∧ A := ⟨trivial, h⟩
theorem VCy.fin {ops : Array Oper} {t : St} {K : St → Prop} (h : K t) : VCy P T ops [] t K := h
end

set_option maxHeartbeats 8000000 in
theorem instClone_own (i : Inst) (h1 : i.length ≤ 1099511627776) (h2 : ∀ r ∈ i, r.rows.length ≤ 1099511627776 ∧ ∀ x ∈ r.rows, x.length ≤ 1099511627776) : SatM Tryz.prog 18 [.one (eInst i)] [] [] (.v (.one (.ref 2 0 i.length))) [] [(2, ⟨2, i.map eRel, []⟩)] := by
  refine satM_of_body tyOk [] [2] Tryz.func18 rfl (by kernel_rfl) ⟨Nat.le_of_ble_eq_true rfl, Nat.le_of_ble_eq_true rfl⟩ fun w0 m0 F0 => ?_
  simp only [Tryz.ntmps18, envOf, Nat.reduceAdd]
  repeat' (first | ((first | with_reducible refine qV tyOk fun K hK => ?_ | (with_reducible first | refine qG ?_ | refine qH ?_ | refine qP ?_ | refine qGx ?_ | refine qHx ?_ | refine qPx ?_) | ((with_reducible first | refine qS ?_ ?_ | refine qT ?_ ?_ | refine qU ?_ ?_) <;> (intro h; try simp only [NM] at h)) | with_reducible refine yD tyOk mixed 6 (by kernel_rfl) fun K hK => ?_) <;> simp -dsimp (disch := (first | omega | (simp only [LN]; omega))) only [go_sem, ↓reduceIte, seval]) | ((with_reducible refine hK _ ?_); clear hK K) | (with_reducible first | refine qA ?_ | refine qB ?_ | refine qC ?_ | refine qD ?_ | refine qE ?_ | refine qF ?_ | refine qL ?_ | refine qM ?_ | refine qN ?_ | refine qO ?_ | refine qQ ?_) | refine qR rfl ?_ | (with_reducible refine AI ?_) | ((with_reducible refine qW (T := TT) (b := ?_) ?_ ?_); rotate_left; exact rfl) | (with_reducible first | refine qX ?_ | refine qY ?_ | refine qZ ?_) | (with_reducible first | refine qI ?_ | refine qIx ?_ | fail) | ((with_reducible refine yS ?_ ?_) <;> (intro h; try simp only [NM] at h)))
  refine AWP.loop (ι := {k : Nat // k ≤ i.length}) (fun k => ⟨23, [(3, .v (.one (.ref 3 0 k.1))), (6, .v (.one (eInst i))), (7, .v (oI i.length)), (8, .v (oI k.1))], [], [(3, ⟨2, (i.take k.1).map eRel, []⟩)]⟩) (fun k => i.length - k.1) ⟨0, Nat.zero_le _⟩ ?_ fun ⟨k, hkl⟩ => ?_
  · refine St.le_mk ?_ ?_ ?_ <;> simp only [LE, EN, Nat.reduceEqDiff, reduceIte, Nat.reduceSub]
  have hlen : (i.take k).length = k := by simp; omega
  rcases Nat.lt_or_ge k i.length with hc | hc
  · obtain ⟨b1, b2⟩ := h2 i[k] (List.getElem_mem hc)
    repeat' (first | ((first | with_reducible refine qV tyOk fun K hK => ?_ | (with_reducible first | refine qG ?_ | refine qH ?_ | refine qP ?_ | refine qGx ?_ | refine qHx ?_ | refine qPx ?_) | ((with_reducible first | refine qS ?_ ?_ | refine qT ?_ ?_ | refine qU ?_ ?_) <;> (intro h; try simp only [NM] at h))) <;> simp -dsimp (disch := (first | omega | (simp only [LN]; omega))) only [go_sem, ↓reduceIte, seval, hlen]) | ((with_reducible refine hK _ ?_); clear hK K) | (with_reducible first | refine qA ?_ | refine qB ?_ | refine qC ?_ | refine qD ?_ | refine qE ?_ | refine qF ?_ | refine qL ?_ | refine qM ?_ | refine qN ?_ | refine qO ?_ | refine qQ ?_) | refine qR rfl ?_ | (with_reducible refine AI ?_) | ((with_reducible refine qW (T := TT) (b := ?_) ?_ ?_); rotate_left; exact rfl) | (with_reducible first | refine qX ?_ | refine qY ?_ | refine qZ ?_) | (with_reducible first | refine qI ?_ | refine qIx ?_ | fail) | ((with_reducible refine yS ?_ ?_) <;> (intro h; try simp only [NM] at h)))
    refine AWP.drawT tyOk mixed 8 8 (by kernel_rfl) rfl rfl fun K hK => ?_
    simp -dsimp (disch := (first | omega | (simp only [LN]; omega))) only [go_sem, ↓reduceIte, seval, hlen]
    repeat' (first | ((first | with_reducible refine qV tyOk fun K hK => ?_ | (with_reducible first | refine qG ?_ | refine qH ?_ | refine qP ?_ | refine qGx ?_ | refine qHx ?_ | refine qPx ?_) | ((with_reducible first | refine qS ?_ ?_ | refine qT ?_ ?_ | refine qU ?_ ?_) <;> (intro h; try simp only [NM] at h)) | ((with_reducible refine CallJ.is ?_); (first | refine CallJ.pure (relClone_sat i[k].rows b1 b2) ?_ | ((apply CallJ.lentI); (focus (simp -dsimp (disch := (first | omega | (simp only [LN]; omega))) only [go_sem, ↓reduceIte, seval, hlen]; rfl)); (focus (first | exact (relClone_sat i[k].rows b1 b2)))))) | ((with_reducible refine CallH.is ?_); (first | refine CallH.intro (relClone_sat i[k].rows b1 b2) ?_))) <;> simp -dsimp (disch := (first | omega | (simp only [LN]; omega))) only [go_sem, ↓reduceIte, seval, hlen]) | ((with_reducible refine hK _ ?_); clear hK K) | (with_reducible first | refine qA ?_ | refine qB ?_ | refine qC ?_ | refine qD ?_ | refine qE ?_ | refine qF ?_ | refine qL ?_ | refine qM ?_ | refine qN ?_ | refine qO ?_ | refine qQ ?_) | refine qR rfl ?_ | (with_reducible refine AI ?_) | ((with_reducible refine qW (T := TT) (b := ?_) ?_ ?_); rotate_left; exact rfl) | (with_reducible first | refine qX ?_ | refine qY ?_ | refine qZ ?_) | (with_reducible first | refine qI ?_ | refine qIx ?_ | fail) | ((with_reducible refine yS ?_ ?_) <;> (intro h; try simp only [NM] at h)))
    intro K hK
    simp -dsimp (disch := (first | omega | (simp only [LN]; omega))) only [go_sem, ↓reduceIte, seval, hlen]
    repeat' (first | ((first | with_reducible refine qV tyOk fun K hK => ?_ | (with_reducible first | refine qG ?_ | refine qH ?_ | refine qP ?_ | refine qGx ?_ | refine qHx ?_ | refine qPx ?_) | ((with_reducible first | refine qS ?_ ?_ | refine qT ?_ ?_ | refine qU ?_ ?_) <;> (intro h; try simp only [NM] at h))) <;> simp -dsimp (disch := (first | omega | (simp only [LN]; omega))) only [go_sem, ↓reduceIte, seval, hlen]) | ((with_reducible refine hK _ ?_); clear hK K) | (with_reducible first | refine qA ?_ | refine qB ?_ | refine qC ?_ | refine qD ?_ | refine qE ?_ | refine qF ?_ | refine qL ?_ | refine qM ?_ | refine qN ?_ | refine qO ?_ | refine qQ ?_) | refine qR rfl ?_ | (with_reducible refine AI ?_) | ((with_reducible refine qW (T := TT) (b := ?_) ?_ ?_); rotate_left; exact rfl) | (with_reducible first | refine qX ?_ | refine qY ?_ | refine qZ ?_) | (with_reducible first | refine qI ?_ | refine qIx ?_ | fail) | ((with_reducible refine yS ?_ ?_) <;> (intro h; try simp only [NM] at h)))
    refine ⟨⟨k + 1, by omega⟩, by simp only; omega, ?_⟩
    have e := take_snoc i k hc
    refine St.le_mk ?_ ?_ ?_ <;> simp only [LE, EN, Nat.reduceEqDiff, reduceIte, Nat.reduceSub, e, eRel, eRows]
  · have hk : k = i.length := by omega
    subst hk
    repeat' (first | ((first | with_reducible refine qV tyOk fun K hK => ?_ | (with_reducible first | refine qG ?_ | refine qH ?_ | refine qP ?_ | refine qGx ?_ | refine qHx ?_ | refine qPx ?_) | ((with_reducible first | refine qS ?_ ?_ | refine qT ?_ ?_ | refine qU ?_ ?_) <;> (intro h; try simp only [NM] at h)) | with_reducible refine yD tyOk mixed 6 (by kernel_rfl) fun K hK => ?_) <;> simp -dsimp (disch := (first | omega | (simp only [LN]; omega))) only [go_sem, ↓reduceIte, seval]) | ((with_reducible refine hK _ ?_); clear hK K) | (with_reducible first | refine qA ?_ | refine qB ?_ | refine qC ?_ | refine qD ?_ | refine qE ?_ | refine qF ?_ | refine qL ?_ | refine qM ?_ | refine qN ?_ | refine qO ?_ | refine qQ ?_) | refine qR rfl ?_ | (with_reducible refine AI ?_) | ((with_reducible refine qW (T := TT) (b := ?_) ?_ ?_); rotate_left; exact rfl) | (with_reducible first | refine qX ?_ | refine qY ?_ | refine qZ ?_) | (with_reducible first | refine qI ?_ | refine qIx ?_ | fail) | ((with_reducible refine yS ?_ ?_) <;> (intro h; try simp only [NM] at h)))
    simp -dsimp (disch := (first | omega | (simp only [LN]; omega))) only [retQ, Tryz.results18, resVals, cellRV, resOf, St.rest, St.freeze, RT, go_sem, ↓reduceIte, seval]

section
open Go.RowKit
def memOf (w : World) : Mem := fun x => w.cell? x
def CRd (w : World) (cs : List Value) (ls : List L) : Prop := cs.length = ls.length ∧ ∀ (j : Nat) (l : L), ls[j]? = some l → ∃ v, cs[j]? = some v ∧ Rep (memOf w) v l

theorem CRd.append {w : World} {cs cs' : List Value} {ls ls' : List L} (h : CRd w cs ls) (h' : CRd w cs' ls') : CRd w (cs ++ cs') (ls ++ ls') := by
  refine ⟨by simp [h.1, h'.1], fun j l hj => ?_⟩
  rcases Nat.lt_or_ge j ls.length with hlt | hge
  · rw [List.getElem?_append_left hlt] at hj
    rw [List.getElem?_append_left (by rw [h.1]; exact hlt)]
    exact h.2 j l hj
  · rw [List.getElem?_append_right hge] at hj
    rw [List.getElem?_append_right (by rw [h.1]; exact hge), h.1]
    exact h'.2 _ l hj

structure Rd (P : Program) (w : World) (t : TypeId) {α : Type} (e : α → List L) (good : α → Prop) : Prop where
  get : ∀ {H : Type} {enc : TypeId × Value → H} {base : Nat} {spare : Nat → Bool} {held : Bool} {n : Nat} {cs : List Value} {x : DataW H × List MemPlace}, DataW.trod enc P w base spare held n t cs = some x →
    (∀ n ∈ x.1.weights P t, n ≤ reachBytes) → ∃ y, good y ∧ CRd w cs (e y)

variable {P : Program} {w : World} {t : TypeId}

theorem CRd.one {v : Value} {l : L} (h : Rep (memOf w) v l) : CRd w [v] [l] := by
  refine ⟨rfl, fun j x hj => ?_⟩
  cases j with
  | zero => simp only [List.getElem?_cons_zero, Option.some.injEq] at hj; subst hj; exact ⟨v, rfl, h⟩
  | succ j => simp at hj

theorem rd_int {k : IntKind} (ht : P.underlying t = some (.int k)) : Rd P w t (fun n => [.int k n]) fun n => (Lit.int k n).wf = true := by
  constructor
  intro H enc base spare held n cs x h _
  obtain ⟨m, rfl, rfl, hw⟩ := DataW.trod_int ht h
  exact ⟨m, hw, .one (.int k m)⟩
theorem rd_bool (ht : P.underlying t = some .bool) : Rd P w t (fun b => [.bool b]) fun _ => True := by
  constructor
  intro H enc base spare held n cs x h _
  obtain ⟨b, rfl, rfl⟩ := DataW.trod_bool ht h
  exact ⟨b, trivial, .one (.bool b)⟩
theorem rd_string (ht : P.underlying t = some .string) : Rd P w t (fun s => [.str s]) fun s => s.size ≤ reachBytes := by
  constructor
  intro H enc base spare held n cs x h hw
  obtain ⟨s, rfl, rfl, _⟩ := DataW.trod_string ht h
  exact ⟨s, hw s.size (by simp [DataW.weights]), .one (.str s)⟩
theorem Rd.to {α β : Type} {e : α → List L} {e' : β → List L} {good : α → Prop} {good' : β → Prop} (h : Rd P w t e good) (f : α → β) (he : ∀ x, e' (f x) = e x) (hg : ∀ x, good x → good' (f x)) : Rd P w t e' good' := by
  constructor
  intro H enc base spare held n cs x h1 h2
  obtain ⟨y, h3, h4⟩ := h.get h1 h2
  exact ⟨f y, hg y h3, by rw [he]; exact h4⟩

theorem weightsAll_mem {H : Type} {e : TypeId} : ∀ {ds : List (DataW H)} {d : DataW H}, d ∈ ds → ∀ n ∈ d.weights P e, n ∈ DataW.weightsAll P e ds
  | d0 :: ds, d, hd, n, hn => by
    simp only [DataW.weightsAll, List.mem_append]
    rcases List.mem_cons.1 hd with rfl | hd
    · exact .inl hn
    · exact .inr (weightsAll_mem hd n hn)

theorem choose_list {α : Type} {R : Nat → α → Prop} : ∀ (n : Nat), (∀ i, i < n → ∃ x, R i x) → ∃ l : List α, l.length = n ∧ ∀ i x, l[i]? = some x → R i x
  | 0, _ => ⟨[], rfl, fun i x h => by simp at h⟩
  | n + 1, h => by
    obtain ⟨l, h1, h2⟩ := choose_list n fun i hi => h i (by omega)
    obtain ⟨x, hx⟩ := h n (by omega)
    refine ⟨l ++ [x], by simp [h1], fun i y hy => ?_⟩
    rcases Nat.lt_or_ge i n with hlt | hge
    · rw [List.getElem?_append_left (by omega)] at hy
      exact h2 i y hy
    · rw [List.getElem?_append_right (by omega)] at hy
      have : i = n := by
        have := (List.getElem?_eq_some_iff.1 hy).1
        simp only [List.length_singleton] at this
        omega
      subst this
      simp [h1] at hy
      subst hy
      exact hx

theorem rd_slice {e : TypeId} {α : Type} {eβ : α → List L} {good : α → Prop} {sz b : Nat} (ht : P.underlying t = some (.slice e)) (hsz : P.cellsOf e = sz) (hb : P.bytesOf e = b) (hl : ∀ x, (eβ x).length = sz) (h : Rd P w e eβ good) :
    Rd P w t (fun l => [.sl sz (l.map eβ)]) fun l : List α => l.length * b ≤ reachBytes ∧ ∀ x ∈ l, good x := by
  constructor
  intro H enc base spare held n cs x h1 h2
  rcases DataW.trod_slice ht h1 with ⟨rfl, rfl⟩ | ⟨a, len, cap, elems, rest, m, rfl, rfl, rfl, k1, k2, k3, k4, k5, k6, k7⟩
  · exact ⟨[], ⟨by simp, by simp⟩, .one (.slNil sz)⟩
  · rw [hsz] at k5
    have hw : ∀ d ∈ elems.map (·.1), ∀ n ∈ d.weights P e, n ≤ reachBytes := fun d hd n hn => h2 n (by
      simp only [DataW.weights, ht, List.mem_cons, List.mem_append]
      exact .inr (.inl (weightsAll_mem hd n hn)))
    have hbw : len * b ≤ reachBytes := by
      have := h2 ((elems.length + rest.length) * P.bytesOf e) (by simp [DataW.weights, ht])
      rw [hb, k4] at this
      exact Nat.le_trans (Nat.mul_le_mul_right _ (by omega)) this
    obtain ⟨l, h3, h4⟩ := choose_list (R := fun i (x : α) => good x ∧ ∃ cs, w.cells? base (a.add (i * sz)) sz = some cs ∧ CRd w cs (eβ x)) len fun i hi => by
      have k8 := k5 i hi
      have hi' : i < elems.length := by omega
      rw [List.getElem?_eq_getElem hi'] at k8
      obtain ⟨cs, h5, h6⟩ := Option.bind_eq_some_iff.1 k8
      obtain ⟨x, h7, h8⟩ := h.get h6 (hw _ (List.mem_map.2 ⟨_, List.getElem_mem hi', rfl⟩))
      exact ⟨x, h7, cs, h5, h8⟩
    refine ⟨l, ⟨by rw [h3]; exact hbw, fun x hx => ?_⟩, .one ?_⟩
    · obtain ⟨i, hi, rfl⟩ := List.mem_iff_getElem.1 hx
      exact (h4 i _ (List.getElem?_eq_getElem hi)).1
    · -- each cell
      have hcell : ∀ i j u, cellOf (l.map eβ) i j = some u → ∃ v, memOf w (a.add (i * sz + j)) = some v ∧ Rep (memOf w) v u := by
        intro i j u hu
        unfold cellOf at hu
        rw [List.getElem?_map] at hu
        cases hli : l[i]? with
        | none => rw [hli] at hu; simp at hu
        | some x =>
          rw [hli] at hu
          simp only [Option.map_some, Option.bind_some] at hu
          obtain ⟨_, cs, h5, h6, h7⟩ := h4 i x hli
          obtain ⟨v, h8, h9⟩ := h7 j u hu
          refine ⟨v, ?_, h9⟩
          have hj : j < sz := by
            have := (List.getElem?_eq_some_iff.1 hu).1
            rw [hl] at this
            exact this
          unfold World.cells? at h5
          split at h5
          · have := mapM_some_get h5 j j (by simp [hj])
            rw [h8, Addr.add_add] at this
            exact this
          · cases h5
      refine .sl a len cap sz (l.map eβ) (fun i j => (memOf w (a.add (i * sz + j))).getD default) (by simp [h3]) k2 (fun y hy => ?_) (fun i j u hu => ?_) (fun i j u hu => ?_)
      · obtain ⟨x, _, rfl⟩ := List.mem_map.1 hy
        exact hl x
      · obtain ⟨v, h5, _⟩ := hcell i j u hu
        rw [h5]; rfl
      · obtain ⟨v, h5, h6⟩ := hcell i j u hu
        rw [h5]; exact h6

structure RdF (P : Program) (w : World) (fs : List Field) (off : Nat) {α : Type} (e : α → List L) (good : α → Prop) : Prop where
  get : ∀ {H : Type} {enc : TypeId × Value → H} {base : Nat} {spare : Nat → Bool} {held : Bool} {n : Nat} {cs : List Value} {xs : List (DataW H × List MemPlace)}, xs.length = fs.length →
    (∀ (i : Nat) (f : Field), fs[i]? = some f → DataW.trod enc P w base spare held n f.type ((cs.drop f.offset).take (P.cellsOf f.type)) = xs[i]?) →
    (∀ n ∈ DataW.weightsEach P (fs.map (·.type)) (xs.map (·.1)), n ≤ reachBytes) → off + (fs.map fun f => P.cellsOf f.type).sum = cs.length → ∃ y, good y ∧ CRd w (cs.drop off) (e y)

theorem rdF_nil {off : Nat} : RdF P w [] off (fun _ : Unit => []) fun _ => True := by
  constructor
  intro H enc base spare held n cs xs _ _ _ hl
  refine ⟨(), trivial, ?_⟩
  have : cs.drop off = [] := List.drop_eq_nil_of_le (by simp at hl; omega)
  rw [this]
  exact ⟨rfl, fun j l hj => by simp at hj⟩
theorem rdF_cons {f : Field} {fs : List Field} {off sz : Nat} {α β : Type} {e0 : α → List L} {e1 : β → List L} {g0 : α → Prop} {g1 : β → Prop} (hf : f.offset = off) (hsz : P.cellsOf f.type = sz) (h0 : Rd P w f.type e0 g0) (h1 : RdF P w fs (off + sz) e1 g1) :
    RdF P w (f :: fs) off (fun p : α × β => e0 p.1 ++ e1 p.2) fun p => g0 p.1 ∧ g1 p.2 := by
  constructor
  intro H enc base spare held n cs xs hx ht hw hl
  cases xs with
  | nil => simp at hx
  | cons x xs =>
    have k0 := ht 0 f rfl
    simp only [List.getElem?_cons_zero] at k0
    obtain ⟨y, h2, h3⟩ := h0.get k0 fun n hn => hw n (by simp only [List.map_cons, DataW.weightsEach, List.mem_append]; exact .inl hn)
    obtain ⟨z, h4, h5⟩ := h1.get (cs := cs) (by simpa using hx) (fun i f' hi => by have := ht (i + 1) f' (by simpa using hi); simpa using this) (fun n hn => hw n (by simp only [List.map_cons, DataW.weightsEach, List.mem_append]; exact .inr hn)) (by simp only [List.map_cons, List.sum_cons, hsz] at hl; omega)
    refine ⟨(y, z), ⟨h2, h4⟩, ?_⟩
    have e : cs.drop off = (cs.drop f.offset).take (P.cellsOf f.type) ++ cs.drop (off + sz) := by
      rw [hf, hsz, ← List.drop_drop, List.take_append_drop]
    rw [e]
    exact h3.append h5
theorem rd_struct {fs : Array Field} {α : Type} {e : α → List L} {good : α → Prop} (ht : P.underlying t = some (.struct fs)) (hc : P.cellsOf t = (fs.toList.map fun f => P.cellsOf f.type).sum) (h : RdF P w fs.toList 0 e good) : Rd P w t e good := by
  constructor
  intro H enc base spare held n cs x h1 h2
  obtain ⟨xs, m, rfl, rfl, k1, k2, k3⟩ := DataW.trod_struct ht h1
  obtain ⟨y, h3, h4⟩ := h.get (cs := cs) (by simpa using k2) (fun i f hi => k3 i f (by simpa using hi)) (fun n hn => h2 n (by simp only [DataW.weights, ht]; exact hn)) (by rw [k1, hc]; simp)
  exact ⟨y, h3, by simpa using h4⟩

theorem rd_struct2 {f0 f1 : Field} {z0 z1 : Nat} {α β : Type} {e0 : α → List L} {e1 : β → List L} {g0 : α → Prop} {g1 : β → Prop} (ht : P.underlying t = some (.struct #[f0, f1])) (ho : f0.offset = 0 ∧ f1.offset = 0 + z0) (hz : P.cellsOf f0.type = z0 ∧ P.cellsOf f1.type = z1) (hc : P.cellsOf t = 0 + z0 + z1) (h0 : Rd P w f0.type e0 g0) (h1 : Rd P w f1.type e1 g1) : Rd P w t (fun p : α × β × Unit => e0 p.1 ++ (e1 p.2.1 ++ [])) (fun p => g0 p.1 ∧ g1 p.2.1 ∧ True) :=
  rd_struct ht (by rw [hc]; simp [hz.1, hz.2]; try omega) (rdF_cons ho.1 hz.1 h0 (rdF_cons ho.2 hz.2 h1 (rdF_nil)))
theorem rd_struct3 {f0 f1 f2 : Field} {z0 z1 z2 : Nat} {α β γ : Type} {e0 : α → List L} {e1 : β → List L} {e2 : γ → List L} {g0 : α → Prop} {g1 : β → Prop} {g2 : γ → Prop} (ht : P.underlying t = some (.struct #[f0, f1, f2])) (ho : f0.offset = 0 ∧ f1.offset = 0 + z0 ∧ f2.offset = 0 + z0 + z1) (hz : P.cellsOf f0.type = z0 ∧ P.cellsOf f1.type = z1 ∧ P.cellsOf f2.type = z2) (hc : P.cellsOf t = 0 + z0 + z1 + z2) (h0 : Rd P w f0.type e0 g0) (h1 : Rd P w f1.type e1 g1) (h2 : Rd P w f2.type e2 g2) : Rd P w t (fun p : α × β × γ × Unit => e0 p.1 ++ (e1 p.2.1 ++ (e2 p.2.2.1 ++ []))) (fun p => g0 p.1 ∧ g1 p.2.1 ∧ g2 p.2.2.1 ∧ True) :=
  rd_struct ht (by rw [hc]; simp [hz.1, hz.2.1, hz.2.2]; try omega) (rdF_cons ho.1 hz.1 h0 (rdF_cons ho.2.1 hz.2.1 h1 (rdF_cons ho.2.2 hz.2.2 h2 (rdF_nil))))
theorem rd_struct4 {f0 f1 f2 f3 : Field} {z0 z1 z2 z3 : Nat} {α β γ δ : Type} {e0 : α → List L} {e1 : β → List L} {e2 : γ → List L} {e3 : δ → List L} {g0 : α → Prop} {g1 : β → Prop} {g2 : γ → Prop} {g3 : δ → Prop} (ht : P.underlying t = some (.struct #[f0, f1, f2, f3])) (ho : f0.offset = 0 ∧ f1.offset = 0 + z0 ∧ f2.offset = 0 + z0 + z1 ∧ f3.offset = 0 + z0 + z1 + z2) (hz : P.cellsOf f0.type = z0 ∧ P.cellsOf f1.type = z1 ∧ P.cellsOf f2.type = z2 ∧ P.cellsOf f3.type = z3) (hc : P.cellsOf t = 0 + z0 + z1 + z2 + z3) (h0 : Rd P w f0.type e0 g0) (h1 : Rd P w f1.type e1 g1) (h2 : Rd P w f2.type e2 g2) (h3 : Rd P w f3.type e3 g3) : Rd P w t (fun p : α × β × γ × δ × Unit => e0 p.1 ++ (e1 p.2.1 ++ (e2 p.2.2.1 ++ (e3 p.2.2.2.1 ++ [])))) (fun p => g0 p.1 ∧ g1 p.2.1 ∧ g2 p.2.2.1 ∧ g3 p.2.2.2.1 ∧ True) :=
  rd_struct ht (by rw [hc]; simp [hz.1, hz.2.1, hz.2.2.1, hz.2.2.2]; try omega) (rdF_cons ho.1 hz.1 h0 (rdF_cons ho.2.1 hz.2.1 h1 (rdF_cons ho.2.2.1 hz.2.2.1 h2 (rdF_cons ho.2.2.2 hz.2.2.2 h3 (rdF_nil)))))
theorem rd_struct5 {f0 f1 f2 f3 f4 : Field} {z0 z1 z2 z3 z4 : Nat} {α β γ δ ε : Type} {e0 : α → List L} {e1 : β → List L} {e2 : γ → List L} {e3 : δ → List L} {e4 : ε → List L} {g0 : α → Prop} {g1 : β → Prop} {g2 : γ → Prop} {g3 : δ → Prop} {g4 : ε → Prop} (ht : P.underlying t = some (.struct #[f0, f1, f2, f3, f4])) (ho : f0.offset = 0 ∧ f1.offset = 0 + z0 ∧ f2.offset = 0 + z0 + z1 ∧ f3.offset = 0 + z0 + z1 + z2 ∧ f4.offset = 0 + z0 + z1 + z2 + z3) (hz : P.cellsOf f0.type = z0 ∧ P.cellsOf f1.type = z1 ∧ P.cellsOf f2.type = z2 ∧ P.cellsOf f3.type = z3 ∧ P.cellsOf f4.type = z4) (hc : P.cellsOf t = 0 + z0 + z1 + z2 + z3 + z4) (h0 : Rd P w f0.type e0 g0) (h1 : Rd P w f1.type e1 g1) (h2 : Rd P w f2.type e2 g2) (h3 : Rd P w f3.type e3 g3) (h4 : Rd P w f4.type e4 g4) : Rd P w t (fun p : α × β × γ × δ × ε × Unit => e0 p.1 ++ (e1 p.2.1 ++ (e2 p.2.2.1 ++ (e3 p.2.2.2.1 ++ (e4 p.2.2.2.2.1 ++ []))))) (fun p => g0 p.1 ∧ g1 p.2.1 ∧ g2 p.2.2.1 ∧ g3 p.2.2.2.1 ∧ g4 p.2.2.2.2.1 ∧ True) :=
  rd_struct ht (by rw [hc]; simp [hz.1, hz.2.1, hz.2.2.1, hz.2.2.2.1, hz.2.2.2.2]; try omega) (rdF_cons ho.1 hz.1 h0 (rdF_cons ho.2.1 hz.2.1 h1 (rdF_cons ho.2.2.1 hz.2.2.1 h2 (rdF_cons ho.2.2.2.1 hz.2.2.2.1 h3 (rdF_cons ho.2.2.2.2 hz.2.2.2.2 h4 (rdF_nil))))))

theorem vrep_agg {cs : Array Value} {ls : List L} {ω : Wh} (h : CRd w cs.toList ls) : VRep (memOf w) ω (.agg cs) (.agg ls) := by
  refine ⟨cs, rfl, by simpa using h.1, fun j l hj => ?_⟩
  obtain ⟨v, h1, h2⟩ := h.2 j l hj
  exact ⟨v, by simpa using h1, h2.erep⟩
theorem vrep_one {v : Value} {l : L} {ω : Wh} (h : CRd w [v] [l]) : VRep (memOf w) ω v (.one l) := by
  obtain ⟨v', h1, h2⟩ := h.2 0 l rfl
  simp only [List.getElem?_cons_zero, Option.some.injEq] at h1
  subst h1
  exact h2.erep

def NoLib (P : Program) : Bool := (P.globalNamed "internal/strconv.uint64pow10").isNone && (P.globalNamed "strconv.ErrSyntax").isNone && (P.globalNamed "strconv.ErrRange").isNone
theorem var_kept {P : Program} {w w' : World} {F : Nat → Prop} (hF : ∀ k, ¬ F k) (hk : Keeps F w w') {nm : String} {x : Array Value} (h : w.var? P nm = some x) : w'.var? P nm = some x := by
  unfold World.var? at h ⊢
  cases hg : P.globalNamed nm with
  | none => rw [hg] at h; cases h
  | some g =>
    rw [hg] at h
    have hlt : g < w.heap.size := by
      rcases Nat.lt_or_ge g w.heap.size with hc | hc
      · exact hc
      · have e : w.heap[g]? = none := by simp [hc]
        simp only [Option.bind_some, e] at h
        cases h
    simp only [Option.bind_some, hk.block g hlt (hF g)] at h ⊢
    exact h
theorem goodC_none {P : Program} {w : World} {F : Nat → Prop} (hg : NoLib P = true ∨ LaidW P w) (hF : ∀ k, ¬ F k) : GoodC P w F := by
  intro w' hk
  rcases hg with hg | hg
  · simp only [NoLib, Bool.and_eq_true, Option.isNone_iff_eq_none] at hg
    obtain ⟨⟨h1, h2⟩, h3⟩ := hg
    exact ⟨fun h => absurd h (by rw [h1]; decide), fun h => absurd h (by rw [h2]; decide), fun h => absurd h (by rw [h3]; decide)⟩
  · refine ⟨fun h => var_kept hF hk (hg.pow h), fun h => ?_, fun h => ?_⟩
    · obtain ⟨tp, p, e⟩ := hg.syn h
      exact ⟨tp, p, var_kept hF hk e⟩
    · obtain ⟨tp, p, e⟩ := hg.rng h
      exact ⟨tp, p, var_kept hF hk e⟩

theorem calls_of_sat {f : FuncId} {fn : Func} {c : Code} {xs : List V} {b : Bool} {vs : List Value} (hf : P.funcs[f]? = some fn) (hb : fn.body = some c) (hn : (fn.name == "runtime.NumGoroutine") = false) (h : Sat P f xs (.v (.one (.bool b))))
    (hA : ∀ ω, ArgsRep (memOf w) ω vs xs) (hg : NoLib P = true ∨ LaidW P w := by exact .inl (by kernel_rfl)) : Calls P f vs.toArray w fun e w' => e = .returned (.bool b) ∧ Below w.heap.size w w' := by
  have ω : Wh := { box := fun _ => 0, row := fun _ => { blk := none, cap := 0, sz := 0 }, f := fun _ _ _ => False }
  have hCI : CI P w (memOf w) (handed [] [] ω) (roots [] []) a0 w (memOf w) ω := by
    refine { size := rfl, defers := rfl, keeps := ⟨rfl, rfl, rfl, Nat.le_refl _, fun _ _ _ => rfl⟩, mle := Mem.le_refl _, mold := fun _ _ _ => rfl, ok := fun _ _ h => h, env := fun _ _ h => (by cases h), box := fun _ _ h => (by cases h), row := fun _ _ h => (by cases h), fresh := fun κ id hl => ?_, apart := fun κ id κ' id' hl => ?_, home := ⟨fun id hid => ?_, fun _ _ h => (by simp [handed, look] at h), fun _ _ h => (by simp [handed, look] at h)⟩, good := goodC_none hg fun k hk => owned_none hk }
    · cases κ <;> exact absurd hl (by simp [St.live, roots, look])
    · cases κ <;> exact absurd hl (by simp [St.live, roots, look])
    · simp [handed, look] at hid
  have h1 := h.call (memOf w) w vs ω hCI (hA ω)
  rcases h1 with ⟨v, w', h2, _⟩ | ⟨_, h2⟩
  · have h3 : (callFunc f vs.toArray).run P w = .ok (.enter f vs.toArray) w := by
      simp only [callFunc, Sem.run_bind, program, Sem.run, Result.andThen_ok, hf]
      rw [hn, hb]
      simp
    rw [h3] at h2
    cases h2
  · refine h2.mono fun e w' ⟨v, he, m', ω', hC, hv⟩ => ?_
    have hv : v = .bool b := by
      have hv : Rep m' v (.bool b) := hv
      cases hv
      rfl
    subst hv
    refine ⟨he, hC.keeps.os, hC.keeps.tape, hC.keeps.output, hC.keeps.size, fun k hk => hC.keeps.block k hk fun ho => ?_⟩
    obtain ⟨κ, id, hl, _⟩ := ho
    cases κ <;> exact absurd hl (by simp [St.live, roots, look])

theorem argsRep_nil {m : Mem} {ω : Wh} : ArgsRep m ω [] [] := ⟨rfl, fun i x h => by simp at h⟩
theorem argsRep_cons {m : Mem} {ω : Wh} {v : Value} {x : V} {vs : List Value} {xs : List V} (h : VRep m ω v x) (hs : ArgsRep m ω vs xs) : ArgsRep m ω (v :: vs) (x :: xs) := by
  refine ⟨by simp [hs.1], fun i y hy => ?_⟩
  cases i with
  | zero => simp only [List.getElem?_cons_zero, Option.some.injEq] at hy; subst hy; exact ⟨v, rfl, h⟩
  | succ i => exact hs.2 i y (by simpa using hy)

section
open Go.ChangeShapes
variable {H : Type} {enc : TypeId × Value → H} {w' : World} {base : Nat} {sp : Nat → Bool} {held : Bool}
theorem trodAll_carry (hs : ∀ p : MemPlace, p.block < w.heap.size → w.sameAt w' p) : ∀ {ts : List TypeId} {vs : List Value} {ds : List (DataW H)} {ps : List MemPlace}, DataW.TrodAll enc P w base sp held ts vs ds ps → (∀ p ∈ ps, p.block < w.heap.size) → DataW.TrodAll enc P w' base sp held ts vs ds ps
  | [], vs, ds, ps, h, _ => by
    obtain ⟨rfl, rfl, rfl⟩ := trodAll_nil h
    exact rfl
  | t :: ts, vs, ds, ps, h, hp => by
    obtain ⟨v, vs1, d, ds1, a, b, rfl, rfl, rfl, ⟨n, h1⟩, h2⟩ := trodAll_cons h
    exact ⟨a, b, ⟨n, DataW.trod_carry n _ _ _ h1 fun p hp' => hs p (hp p (by simp [hp']))⟩, trodAll_carry hs h2 fun p hp' => hp p (by simp [hp']), rfl⟩
theorem trodAll_below (hl : laidOutB P = true) (hb : Below w.heap.size w w') : ∀ {ts : List TypeId} {vs : List Value} {ds : List (DataW H)} {ps : List MemPlace}, (ts.all fun t => P.readableRec t && decide (t < P.types.size)) = true → DataW.TrodAll enc P w 0 (fun _ => true) true ts vs ds ps → (∀ p ∈ ps, p.block < w.heap.size) →
    DataW.TrodAll enc P w' 0 (fun b => decide (b < w.heap.size)) true ts vs ds ps
  | [], vs, ds, ps, _, h, _ => by
    obtain ⟨rfl, rfl, rfl⟩ := trodAll_nil h
    exact rfl
  | t :: ts, vs, ds, ps, hr, h, hp => by
    obtain ⟨v, vs1, d, ds1, a, b, rfl, rfl, rfl, h1, h2⟩ := trodAll_cons h
    simp only [List.all_cons, Bool.and_eq_true, decide_eq_true_eq] at hr
    exact ⟨a, b, Below.trod hl hr.1.1 hr.1.2 h1 hb fun p hp' => hp p (by simp [hp']), trodAll_below hl hb hr.2 h2 fun p hp' => hp p (by simp [hp']), rfl⟩

theorem post_of_below {f : Func} {s : ChangeSpec} {apart fresh again : Bool} {args : Array Value} {ds gs : List (DataW H)} {before : List MemPlace} {rt : TypeId} (hl : laidOutB P = true) (hrt : f.resultTypes = #[rt]) (hub : P.underlying rt = some .bool)
    (hread : (f.params.toList.all fun t => P.readableRec t && decide (t < P.types.size)) = true) (hvs : s.vars = [])
    (hW : DataW.Whole enc P f.params.toList s.vars apart w args.toList ds gs before) (hb : Below w.heap.size w w')
    (hfn : s.fn H ds = { results := [.lit (.bool true)], args := ds }) : s.post enc P f apart fresh false again w args (.bool true) w' := by
  have hW0 := hW
  have hlt : ∀ p ∈ before, p.block < w.heap.size := fun p hp => by simpa using hW.lt p hp
  obtain ⟨p, q, hA, hV, rfl, hz, hn⟩ := hW
  rw [hvs] at hV
  have hgq : gs = [] ∧ q = [] := by
    cases gs with
    | nil => exact ⟨rfl, hV⟩
    | cons g gs => exact absurd hV (by simp [DataW.TrodVars])
  obtain ⟨rfl, rfl⟩ := hgq
  simp only [List.append_nil] at hlt hz hn ⊢
  have hres : ∀ (b : Nat) (sp : Nat → Bool) (hd : Bool), DataW.TrodAll enc P w' b sp hd f.resultTypes.toList ((Value.bool true).resultList f.resultTypes.size) (s.fn H (ds ++ [])).results [] := by
    intro b sp hd
    rw [hrt, List.append_nil, hfn]
    exact ⟨[], [], ⟨1, by simp [DataW.trod, hub, Value.cells]⟩, rfl, rfl⟩
  have hargs1 := trodAll_below (P := P) hl hb hread hA hlt
  have hargs2 := trodAll_carry (P := P) (w := w) (w' := w') (fun p hp => hb.same hp) hA hlt
  have hvars : ∀ sp, DataW.TrodVars enc P w' sp s.vars (s.fn H (ds ++ [])).vars [] := by
    intro sp
    rw [hvs, List.append_nil, hfn]
    exact rfl
  refine ⟨ds, [], p ++ [], [], p, [], hW0, hres _ _ _, by rw [List.append_nil, hfn]; exact hargs1, hvars _, World.keptBut_mono (fun p hp => ⟨by simpa using hp.1, ?_⟩) (hb.frame fun x => x ∈ p ∧ True), fun _ => ?_⟩
  · simpa using hp.1
  · refine ⟨?_, _, _, ([] ++ p) ++ [], ⟨[] ++ p, [], trodAll_append hargs2 (hres _ _ _), hvars _, rfl, ?_, ?_⟩, ?_⟩
    · exact ok_one hrt rfl (okWide_bool_mk hub true)
    · intro b off hp
      have hp : MemPlace.cell b off ∈ p := by simpa using hp
      rw [hb.frozen (hlt _ hp)]
      exact hz b off hp
    · intro ha
      simpa using hn ha
    · intro p hp _
      simpa using hp
end
end

section
abbrev IntOk (n : Int) : Prop := (Lit.int .i64 n).wf = true
structure Val.Ok (v : Val) : Prop where
  kind : IntOk v.kind
  int : IntOk v.int
  text : v.text.size ≤ reachBytes
structure Col.Ok (c : Col) : Prop where
  name : c.name.size ≤ reachBytes
  kind : IntOk c.kind
structure Tbl.Ok (t : Tbl) : Prop where
  name : t.name.size ≤ reachBytes
  cols : t.cols.length * 32 ≤ reachBytes ∧ ∀ c ∈ t.cols, c.Ok
  pk : t.pk.length * 8 ≤ reachBytes ∧ ∀ n ∈ t.pk, IntOk n
structure FK.Ok (f : FK) : Prop where
  table : f.table.size ≤ reachBytes
  cols : f.cols.length * 8 ≤ reachBytes ∧ ∀ n ∈ f.cols, IntOk n
  ref : f.ref.size ≤ reachBytes
structure Con.Ok (c : Con) : Prop where
  table : c.table.size ≤ reachBytes
  left : IntOk c.left
  op : c.op.size ≤ reachBytes
  right : IntOk c.right
  value : c.value.Ok
structure Sch.Ok (s : Sch) : Prop where
  tables : s.tables.length * 64 ≤ reachBytes ∧ ∀ t ∈ s.tables, t.Ok
  fks : s.fks.length * 56 ≤ reachBytes ∧ ∀ f ∈ s.fks, f.Ok
  cons : s.cons.length * 80 ≤ reachBytes ∧ ∀ c ∈ s.cons, c.Ok
def Row.Ok (r : Row) : Prop := r.length * 32 ≤ reachBytes ∧ ∀ v ∈ r, v.Ok
def RowsOk (rs : List Row) : Prop := rs.length * 24 ≤ reachBytes ∧ ∀ r ∈ rs, Row.Ok r
structure Rel.Ok (r : Rel) : Prop where
  table : r.table.size ≤ reachBytes
  rows : RowsOk r.rows
def InstOk (i : Inst) : Prop := i.length * 40 ≤ reachBytes ∧ ∀ r ∈ i, r.Ok
structure Chg.Ok (c : Chg) : Prop where
  kind : IntOk c.kind
  table : c.table.size ≤ reachBytes
  key : Row.Ok c.key
  row : Row.Ok c.row
def ChgsOk (l : List Chg) : Prop := l.length * 72 ≤ reachBytes ∧ ∀ c ∈ l, c.Ok

variable {w : World}
theorem rd_I : Rd Tryz.prog w 3 (fun n => [.int .i64 n]) IntOk := rd_int Tryz.underlying3
theorem rd_S : Rd Tryz.prog w 9 (fun s => [.str s]) fun s => s.size ≤ reachBytes := rd_string Tryz.underlying9
theorem cells_int : Tryz.prog.cellsOf 3 = 1 := by kernel_rfl
theorem cells_string : Tryz.prog.cellsOf 9 = 1 := by kernel_rfl
theorem cells_bool : Tryz.prog.cellsOf 4 = 1 := by kernel_rfl
theorem cells_Value : Tryz.prog.cellsOf 60 = 3 := by kernel_rfl
theorem cells_s_Column : Tryz.prog.cellsOf 52 = 1 := by kernel_rfl
theorem cells_Column : Tryz.prog.cellsOf 91 = 3 := by kernel_rfl
theorem cells_s_int : Tryz.prog.cellsOf 53 = 1 := by kernel_rfl
theorem cells_Table : Tryz.prog.cellsOf 55 = 3 := by kernel_rfl
theorem cells_s_Table : Tryz.prog.cellsOf 22 = 1 := by kernel_rfl
theorem cells_ForeignKey : Tryz.prog.cellsOf 94 = 3 := by kernel_rfl
theorem cells_s_ForeignKey : Tryz.prog.cellsOf 23 = 1 := by kernel_rfl
theorem cells_Constraint : Tryz.prog.cellsOf 100 = 7 := by kernel_rfl
theorem cells_s_Constraint : Tryz.prog.cellsOf 24 = 1 := by kernel_rfl
theorem cells_Schema : Tryz.prog.cellsOf 26 = 3 := by kernel_rfl
theorem bytes_int : Tryz.prog.bytesOf 3 = 8 := by kernel_rfl
theorem bytes_Column : Tryz.prog.bytesOf 91 = 32 := by kernel_rfl
theorem bytes_Table : Tryz.prog.bytesOf 55 = 64 := by kernel_rfl
theorem bytes_ForeignKey : Tryz.prog.bytesOf 94 = 56 := by kernel_rfl
theorem bytes_Constraint : Tryz.prog.bytesOf 100 = 80 := by kernel_rfl
theorem rd_val : Rd Tryz.prog w 60 eVal Val.Ok :=
  (rd_struct3 Tryz.underlying60 ⟨rfl, rfl, rfl⟩ ⟨cells_int, cells_int, cells_string⟩ cells_Value rd_I rd_I rd_S).to (fun p => ⟨p.1, p.2.1, p.2.2.1⟩) (fun _ => by simp [eVal]) fun _ h => ⟨h.1, h.2.1, h.2.2.1⟩
theorem rd_col : Rd Tryz.prog w 91 eCol Col.Ok :=
  (rd_struct3 Tryz.underlying91 ⟨rfl, rfl, rfl⟩ ⟨cells_string, cells_int, cells_bool⟩ cells_Column rd_S rd_I (rd_bool Tryz.underlying4)).to (fun p => ⟨p.1, p.2.1, p.2.2.1⟩) (fun _ => by simp [eCol]) fun _ h => ⟨h.1, h.2.1⟩
theorem rd_cols : Rd Tryz.prog w 52 (fun l => [eCols l]) fun l => l.length * 32 ≤ reachBytes ∧ ∀ c ∈ l, Col.Ok c :=
  rd_slice Tryz.underlying52 cells_Column bytes_Column (fun _ => rfl) rd_col
theorem rd_ints : Rd Tryz.prog w 53 (fun l => [eInts l]) fun l => l.length * 8 ≤ reachBytes ∧ ∀ c ∈ l, IntOk c :=
  rd_slice Tryz.underlying53 cells_int bytes_int (fun _ => rfl) (eβ := eInt1) rd_I
theorem rd_tbl : Rd Tryz.prog w 55 eTbl Tbl.Ok :=
  (rd_struct3 Tryz.underlying55 ⟨rfl, rfl, rfl⟩ ⟨cells_string, cells_s_Column, cells_s_int⟩ cells_Table rd_S rd_cols rd_ints).to (fun p => ⟨p.1, p.2.1, p.2.2.1⟩) (fun _ => by simp [eTbl]) fun _ h => ⟨h.1, h.2.1, h.2.2.1⟩
theorem rd_tbls : Rd Tryz.prog w 22 (fun l => [eTbls l]) fun l => l.length * 64 ≤ reachBytes ∧ ∀ c ∈ l, Tbl.Ok c :=
  rd_slice Tryz.underlying22 cells_Table bytes_Table (fun _ => rfl) rd_tbl
theorem rd_fk : Rd Tryz.prog w 94 eFK FK.Ok :=
  (rd_struct3 Tryz.underlying94 ⟨rfl, rfl, rfl⟩ ⟨cells_string, cells_s_int, cells_string⟩ cells_ForeignKey rd_S rd_ints rd_S).to (fun p => ⟨p.1, p.2.1, p.2.2.1⟩) (fun _ => by simp [eFK]) fun _ h => ⟨h.1, h.2.1, h.2.2.1⟩
theorem rd_fks : Rd Tryz.prog w 23 (fun l => [eFKs l]) fun l => l.length * 56 ≤ reachBytes ∧ ∀ c ∈ l, FK.Ok c :=
  rd_slice Tryz.underlying23 cells_ForeignKey bytes_ForeignKey (fun _ => rfl) rd_fk
theorem rd_con : Rd Tryz.prog w 100 eCon Con.Ok :=
  (rd_struct5 Tryz.underlying100 ⟨rfl, rfl, rfl, rfl, rfl⟩ ⟨cells_string, cells_int, cells_string, cells_int, cells_Value⟩ cells_Constraint rd_S rd_I rd_S rd_I rd_val).to (fun p => ⟨p.1, p.2.1, p.2.2.1, p.2.2.2.1, p.2.2.2.2.1⟩) (fun _ => by simp [eCon, eVal]) fun _ h => ⟨h.1, h.2.1, h.2.2.1, h.2.2.2.1, h.2.2.2.2.1⟩
theorem rd_cons : Rd Tryz.prog w 24 (fun l => [eCons l]) fun l => l.length * 80 ≤ reachBytes ∧ ∀ c ∈ l, Con.Ok c :=
  rd_slice Tryz.underlying24 cells_Constraint bytes_Constraint (fun _ => rfl) rd_con
theorem rd_sch : Rd Tryz.prog w 26 eSch Sch.Ok :=
  (rd_struct3 Tryz.underlying26 ⟨rfl, rfl, rfl⟩ ⟨cells_s_Table, cells_s_ForeignKey, cells_s_Constraint⟩ cells_Schema rd_tbls rd_fks rd_cons).to (fun p => ⟨p.1, p.2.1, p.2.2.1⟩) (fun _ => by simp [eSch]) fun _ h => ⟨h.1, h.2.1, h.2.2.1⟩
theorem reachBytes_eq : reachBytes = 140737488351232 := rfl
theorem Sch.Ok.fits {s : Sch} (h : s.Ok) : s.Fits := by
  obtain ⟨⟨a1, a2⟩, ⟨b1, b2⟩, ⟨c1, c2⟩⟩ := h
  rw [reachBytes_eq] at a1 b1 c1
  refine ⟨by omega, fun t ht => ?_, by omega, fun f hf => ?_, by omega⟩
  · obtain ⟨_, ⟨h1, _⟩, ⟨h2, _⟩⟩ := a2 t ht
    rw [reachBytes_eq] at h1 h2
    exact ⟨by omega, by omega⟩
  · obtain ⟨_, ⟨h1, _⟩, _⟩ := b2 f hf
    rw [reachBytes_eq] at h1
    omega
end

section
theorem laid : laidOutB Tryz.prog = true := by kernel_rfl
theorem ownK : ownKnob Tryz.prog.godebug = none := by kernel_rfl

def oneDesc : TypeDesc → Bool
  | .slice _ => true
  | .string => true
  | .bool => true
  | .int _ => true
  | _ => false
theorem cells_oneC {P : Program} {w : World} {base : Nat} {t : TypeId} {v : Value} {d : TypeDesc} (hu : P.underlying t = some d) (hd : oneDesc d = true) (h : Value.okWide P w .any base t v) : v.cells.toList = [v] := by
  have hne : ∀ cs, v ≠ .agg cs := by
    rintro cs rfl
    cases d <;> simp [oneDesc] at hd <;> simp [Value.okWide, hu, Cell.okWide, Cell.ok] at h
  cases v with
  | agg cs => exact absurd rfl (hne cs)
  | _ => rfl

variable {w : World}
theorem cells_Row : Tryz.prog.cellsOf 40 = 1 := by kernel_rfl
theorem cells_s_Row : Tryz.prog.cellsOf 43 = 1 := by kernel_rfl
theorem bytes_Value : Tryz.prog.bytesOf 60 = 32 := by kernel_rfl
theorem bytes_Row : Tryz.prog.bytesOf 40 = 24 := by kernel_rfl
theorem rd_row : Rd Tryz.prog w 40 (fun l => [eRow l]) Row.Ok :=
  rd_slice Tryz.underlying40 cells_Value bytes_Value (fun _ => rfl) rd_val
theorem rd_rows : Rd Tryz.prog w 43 (fun l => [eRows l]) RowsOk :=
  rd_slice Tryz.underlying43 cells_Row bytes_Row (fun _ => rfl) (eβ := eRow1) rd_row
end

section
variable {w : World}
theorem cells_Relation : Tryz.prog.cellsOf 58 = 2 := by kernel_rfl
theorem bytes_Relation : Tryz.prog.bytesOf 58 = 40 := by kernel_rfl
theorem rd_rel : Rd Tryz.prog w 58 eRel Rel.Ok :=
  (rd_struct2 Tryz.underlying58 ⟨rfl, rfl⟩ ⟨cells_string, cells_s_Row⟩ cells_Relation rd_S rd_rows).to (fun p => ⟨p.1, p.2.1⟩) (fun _ => by simp [eRel]) fun _ h => ⟨h.1, h.2.1⟩
theorem rd_inst : Rd Tryz.prog w 28 (fun l => [eInst l]) InstOk :=
  rd_slice Tryz.underlying28 cells_Relation bytes_Relation (fun _ => rfl) rd_rel
def InstFits (i : Inst) : Prop := i.length ≤ 140737488355328 ∧ ∀ r ∈ i, r.rows.length ≤ 140737488355328 ∧ ∀ x ∈ r.rows, x.length ≤ 140737488355328
theorem InstOk.fits {i : Inst} (h : InstOk i) : InstFits i := by
  obtain ⟨a1, a2⟩ := h
  rw [reachBytes_eq] at a1
  refine ⟨by omega, fun r hr => ?_⟩
  obtain ⟨_, b1, b2⟩ := a2 r hr
  rw [reachBytes_eq] at b1
  refine ⟨by omega, fun x hx => ?_⟩
  obtain ⟨c1, _⟩ := b2 x hx
  rw [reachBytes_eq] at c1
  omega
end

def ChgsFit (cs : List Chg) : Prop := cs.length ≤ 140737488355328 ∧ ∀ c ∈ cs, c.key.length ≤ 140737488355328 ∧ c.row.length ≤ 140737488355328
theorem confFits {s : Sch} {i : Inst} (hs : Small s) (h : confE s i = 0) : ∀ r ∈ i, r.rows.length ≤ 140737488355328 ∧ ∀ x ∈ r.rows, x.length ≤ 140737488355328 := by
  intro r hr
  obtain ⟨k, hk, rfl⟩ := List.mem_iff_getElem.1 hr
  obtain ⟨h1, h2⟩ := (confE_zero s i).1 h
  have hk' : k < s.tables.length := by omega
  have o := (h2 k hk).2
  have := o.n24
  refine ⟨by omega, fun x hx => ?_⟩
  obtain ⟨j, hj, rfl⟩ := List.mem_iff_getElem.1 hx
  have h3 := ((rowE_zero _ _).1 (o.row j hj)).1
  rw [h3, getD_lt _ hk']
  have := (hs.table _ (List.getElem_mem hk')).1
  omega
set_option maxHeartbeats 16000000 in
theorem apply_sat (s : Sch) (i : Inst) (cs : List Chg) (hf : s.Fits) (hi : InstFits i) (hcs : ChgsFit cs) :
    Sat Tryz.prog 5 [.agg (eSch s), .one (eInst i), .one (eChgs cs)] (.tup [.one (eInst (applyE s i cs).2), oI (applyE s i cs).1]) := by
  by_cases h0 : schE s = 0
  case neg =>
    have spec : applyE s i cs = (schE s, []) := by simp [applyE, h0]
    rw [spec]
    refine sat_of_body tyOk Tryz.func5 rfl (by kernel_rfl) ⟨Nat.le_of_ble_eq_true rfl, Nat.le_of_ble_eq_true rfl⟩ fun w0 m0 F0 => ?_
    simp only [Tryz.ntmps5, envOf, Nat.reduceAdd]
    repeat' (first | ((first | with_reducible refine qV tyOk fun K hK => ?_ | (with_reducible first | refine qG ?_ | refine qH ?_ | refine qP ?_ | refine qGx ?_ | refine qHx ?_ | refine qPx ?_) | ((with_reducible first | refine qS ?_ ?_ | refine qT ?_ ?_ | refine qU ?_ ?_) <;> (intro h; try simp only [NM] at h)) | with_reducible refine yD tyOk mixed 6 (by kernel_rfl) fun K hK => ?_ | ((with_reducible refine CallJ.is ?_); (first | refine CallJ.pure (schValidate_sat s hf) ?_ | ((apply CallJ.lentI); (focus (simp -dsimp (disch := (first | omega | (simp only [LN]; omega))) only [go_sem, ↓reduceIte, seval, h0]; rfl)); (focus (first | exact (schValidate_sat s hf)))))) | ((with_reducible refine CallH.is ?_); (first | refine CallH.intro (schValidate_sat s hf) ?_))) <;> simp -dsimp (disch := (first | omega | (simp only [LN]; omega))) only [go_sem, ↓reduceIte, seval, h0]) | ((with_reducible refine hK _ ?_); clear hK K) | (with_reducible first | refine qA ?_ | refine qB ?_ | refine qC ?_ | refine qD ?_ | refine qE ?_ | refine qF ?_ | refine qL ?_ | refine qM ?_ | refine qN ?_ | refine qO ?_ | refine qQ ?_) | refine qR rfl ?_ | (with_reducible refine AI ?_) | ((with_reducible refine qW (T := TT) (b := ?_) ?_ ?_); rotate_left; exact rfl) | (with_reducible first | refine qX ?_ | refine qY ?_ | refine qZ ?_) | (with_reducible first | refine qI ?_ | refine qIx ?_ | fail) | ((with_reducible refine yS ?_ ?_) <;> (intro h; try simp only [NM] at h)))
    all_goals simp -dsimp (disch := (first | omega | (simp only [LN]; omega))) only [retQ, Tryz.results5, resVals, cellRV, resOf, St.rest, St.freeze, RT, go_sem, ↓reduceIte, seval]
  have sm := small_of h0
  have B : Bounds0 s i := sm.bounds0 hi.2
  by_cases h1 : confE s i = 0
  case neg =>
    have spec : applyE s i cs = (confE s i, []) := by simp [applyE, h0, h1]
    rw [spec]
    refine sat_of_body tyOk Tryz.func5 rfl (by kernel_rfl) ⟨Nat.le_of_ble_eq_true rfl, Nat.le_of_ble_eq_true rfl⟩ fun w0 m0 F0 => ?_
    simp only [Tryz.ntmps5, envOf, Nat.reduceAdd]
    repeat' (first | ((first | with_reducible refine qV tyOk fun K hK => ?_ | (with_reducible first | refine qG ?_ | refine qH ?_ | refine qP ?_ | refine qGx ?_ | refine qHx ?_ | refine qPx ?_) | ((with_reducible first | refine qS ?_ ?_ | refine qT ?_ ?_ | refine qU ?_ ?_) <;> (intro h; try simp only [NM] at h)) | with_reducible refine yD tyOk mixed 6 (by kernel_rfl) fun K hK => ?_ | ((with_reducible refine CallJ.is ?_); (first | refine CallJ.pure (schValidate_sat s hf) ?_ | refine CallJ.pure (conforms_sat s i B hi.1) ?_ | ((apply CallJ.lentI); (focus (simp -dsimp (disch := (first | omega | (simp only [LN]; omega))) only [go_sem, ↓reduceIte, seval, h0, h1]; rfl)); (focus (first | exact (schValidate_sat s hf) | exact (conforms_sat s i B hi.1)))))) | ((with_reducible refine CallH.is ?_); (first | refine CallH.intro (schValidate_sat s hf) ?_ | refine CallH.intro (conforms_sat s i B hi.1) ?_))) <;> simp -dsimp (disch := (first | omega | (simp only [LN]; omega))) only [go_sem, ↓reduceIte, seval, h0, h1]) | ((with_reducible refine hK _ ?_); clear hK K) | (with_reducible first | refine qA ?_ | refine qB ?_ | refine qC ?_ | refine qD ?_ | refine qE ?_ | refine qF ?_ | refine qL ?_ | refine qM ?_ | refine qN ?_ | refine qO ?_ | refine qQ ?_) | refine qR rfl ?_ | (with_reducible refine AI ?_) | ((with_reducible refine qW (T := TT) (b := ?_) ?_ ?_); rotate_left; exact rfl) | (with_reducible first | refine qX ?_ | refine qY ?_ | refine qZ ?_) | (with_reducible first | refine qI ?_ | refine qIx ?_ | fail) | ((with_reducible refine yS ?_ ?_) <;> (intro h; try simp only [NM] at h)))
    all_goals simp -dsimp (disch := (first | omega | (simp only [LN]; omega))) only [retQ, Tryz.results5, resVals, cellRV, resOf, St.rest, St.freeze, RT, go_sem, ↓reduceIte, seval]
  by_cases h2 : 24 < cs.length
  · have spec : applyE s i cs = (2, []) := by simp [applyE, h0, h1, h2]
    rw [spec]
    refine sat_of_body tyOk Tryz.func5 rfl (by kernel_rfl) ⟨Nat.le_of_ble_eq_true rfl, Nat.le_of_ble_eq_true rfl⟩ fun w0 m0 F0 => ?_
    simp only [Tryz.ntmps5, envOf, Nat.reduceAdd]
    repeat' (first | ((first | with_reducible refine qV tyOk fun K hK => ?_ | (with_reducible first | refine qG ?_ | refine qH ?_ | refine qP ?_ | refine qGx ?_ | refine qHx ?_ | refine qPx ?_) | ((with_reducible first | refine qS ?_ ?_ | refine qT ?_ ?_ | refine qU ?_ ?_) <;> (intro h; try simp only [NM] at h)) | with_reducible refine yD tyOk mixed 6 (by kernel_rfl) fun K hK => ?_ | ((with_reducible refine CallJ.is ?_); (first | refine CallJ.pure (schValidate_sat s hf) ?_ | refine CallJ.pure (conforms_sat s i B hi.1) ?_ | ((apply CallJ.lentI); (focus (simp -dsimp (disch := (first | omega | (simp only [LN]; omega))) only [go_sem, ↓reduceIte, seval, h0, h1]; rfl)); (focus (first | exact (schValidate_sat s hf) | exact (conforms_sat s i B hi.1)))))) | ((with_reducible refine CallH.is ?_); (first | refine CallH.intro (schValidate_sat s hf) ?_ | refine CallH.intro (conforms_sat s i B hi.1) ?_))) <;> simp -dsimp (disch := (first | omega | (simp only [LN]; omega))) only [go_sem, ↓reduceIte, seval, h0, h1]) | ((with_reducible refine hK _ ?_); clear hK K) | (with_reducible first | refine qA ?_ | refine qB ?_ | refine qC ?_ | refine qD ?_ | refine qE ?_ | refine qF ?_ | refine qL ?_ | refine qM ?_ | refine qN ?_ | refine qO ?_ | refine qQ ?_) | refine qR rfl ?_ | (with_reducible refine AI ?_) | ((with_reducible refine qW (T := TT) (b := ?_) ?_ ?_); rotate_left; exact rfl) | (with_reducible first | refine qX ?_ | refine qY ?_ | refine qZ ?_) | (with_reducible first | refine qI ?_ | refine qIx ?_ | fail) | ((with_reducible refine yS ?_ ?_) <;> (intro h; try simp only [NM] at h)))
    all_goals simp -dsimp (disch := (first | omega | (simp only [LN]; omega))) only [retQ, Tryz.results5, resVals, cellRV, resOf, St.rest, St.freeze, RT, go_sem, ↓reduceIte, seval]
  have spec : applyE s i cs = applyL s i cs := by simp [applyE, h0, h1, h2]
  rw [spec]
  obtain ⟨c1, _⟩ := (confE_zero s i).1 h1
  have m1 := sm.tables
  have Bi := bounds_of B h1
  refine sat_of_body tyOk Tryz.func5 rfl (by kernel_rfl) ⟨Nat.le_of_ble_eq_true rfl, Nat.le_of_ble_eq_true rfl⟩ fun w0 m0 F0 => ?_
  simp only [Tryz.ntmps5, envOf, Nat.reduceAdd]
  repeat' (first | ((first | with_reducible refine qV tyOk fun K hK => ?_ | (with_reducible first | refine qG ?_ | refine qH ?_ | refine qP ?_ | refine qGx ?_ | refine qHx ?_ | refine qPx ?_) | ((with_reducible first | refine qS ?_ ?_ | refine qT ?_ ?_ | refine qU ?_ ?_) <;> (intro h; try simp only [NM] at h)) | ((with_reducible refine CallJ.is ?_); refine CallJ.io [] [] [] [(2, 33)] [] [33] [] [33] (instClone_own i (by omega) Bi.rel) rfl ⟨rfl, rfl, rfl, rfl⟩ ?_ ?_ ?_; (focus (simp -dsimp (disch := (first | omega | (simp only [LN]; omega))) only [go_sem, ↓reduceIte, seval, h0, h1, dropL_nil, dropL_nil', dropL_cons]; done)); (focus (simp -dsimp (disch := (first | omega | (simp only [LN]; omega))) only [go_sem, ↓reduceIte, seval, h0, h1, dropL_nil, dropL_nil', dropL_cons]; done))) | ((with_reducible refine CallJ.is ?_); (first | refine CallJ.pure (schValidate_sat s hf) ?_ | refine CallJ.pure (conforms_sat s i B hi.1) ?_ | ((apply CallJ.lentI); (focus (simp -dsimp (disch := (first | omega | (simp only [LN]; omega))) only [go_sem, ↓reduceIte, seval, h0, h1, dropL_nil, dropL_nil', dropL_cons]; rfl)); (focus (first | exact (schValidate_sat s hf) | exact (conforms_sat s i B hi.1)))))) | ((with_reducible refine CallH.is ?_); (first | refine CallH.intro (schValidate_sat s hf) ?_ | refine CallH.intro (conforms_sat s i B hi.1) ?_))) <;> simp -dsimp (disch := (first | omega | (simp only [LN]; omega))) only [go_sem, ↓reduceIte, seval, h0, h1, dropL_nil, dropL_nil', dropL_cons]) | ((with_reducible refine hK _ ?_); clear hK K) | (with_reducible first | refine qA ?_ | refine qB ?_ | refine qC ?_ | refine qD ?_ | refine qE ?_ | refine qF ?_ | refine qL ?_ | refine qM ?_ | refine qN ?_ | refine qO ?_ | refine qQ ?_) | refine qR rfl ?_ | (with_reducible refine AI ?_) | ((with_reducible refine qW (T := TT) (b := ?_) ?_ ?_); rotate_left; exact rfl) | (with_reducible first | refine qX ?_ | refine qY ?_ | refine qZ ?_) | (with_reducible first | refine qI ?_ | refine qIx ?_ | fail) | ((with_reducible refine yS ?_ ?_) <;> (intro h; try simp only [NM] at h)))
  refine AWP.loop (ι := {p : Nat × Inst // p.1 ≤ cs.length ∧ confE s p.2 = 0 ∧ applyL s p.2 (cs.drop p.1) = applyL s i cs}) (fun p => ⟨101, [(3, .v (.one (.ptr 3 0))), (10, .v (.one (.ref 10 0 i.length))), (34, .v (.one (eChgs cs))), (35, .v (oI cs.length)), (36, .v (oI p.1.1))], [(3, eSch s)], [(10, ⟨2, p.1.2.map eRel, []⟩)]⟩) (fun p => cs.length - p.1.1) ⟨(0, i), Nat.zero_le _, h1, rfl⟩ ?_ fun ⟨(k, cur), hkl, hcf, hap⟩ => ?_
  · refine St.le_mk ?_ ?_ ?_ <;> simp only [LE, EN, Nat.reduceEqDiff, reduceIte, Nat.reduceSub, eSch]
  simp only at hkl hcf hap ⊢
  obtain ⟨d1, _⟩ := (confE_zero s cur).1 hcf
  have hlen : cur.length = i.length := by omega
  rcases Nat.lt_or_ge k cs.length with hc | hc
  · obtain ⟨f1, f2⟩ := hcs.2 cs[k] (List.getElem_mem hc)
    have step : applyL s cur (cs.drop k) = if (applyC s cur cs[k]).1 ≠ 0 then ((applyC s cur cs[k]).1, []) else applyL s (applyC s cur cs[k]).2 (cs.drop (k + 1)) := by
      rw [List.drop_eq_getElem_cons hc]; rfl
    rw [hap] at step
    have cv := chgValidate_sat s cs[k] h0 f1 f2
    by_cases hE : chgE s cs[k] = 0
    case neg =>
      have st2 : applyL s i cs = (chgE s cs[k], []) := by rw [step]; simp [applyC, hE]
      rw [st2]
      repeat' (first | ((first | with_reducible refine qV tyOk fun K hK => ?_ | (with_reducible first | refine qG ?_ | refine qH ?_ | refine qP ?_ | refine qGx ?_ | refine qHx ?_ | refine qPx ?_) | ((with_reducible first | refine qS ?_ ?_ | refine qT ?_ ?_ | refine qU ?_ ?_) <;> (intro h; try simp only [NM] at h)) | ((with_reducible refine CallJ.is ?_); (first | refine CallJ.pure (cv) ?_ | ((apply CallJ.lentI); (focus (simp -dsimp (disch := (first | omega | (simp only [LN]; omega))) only [go_sem, ↓reduceIte, seval, hE]; rfl)); (focus (first | exact (cv)))))) | ((with_reducible refine CallH.is ?_); (first | refine CallH.intro (cv) ?_))) <;> simp -dsimp (disch := (first | omega | (simp only [LN]; omega))) only [go_sem, ↓reduceIte, seval, hE]) | ((with_reducible refine hK _ ?_); clear hK K) | (with_reducible first | refine qA ?_ | refine qB ?_ | refine qC ?_ | refine qD ?_ | refine qE ?_ | refine qF ?_ | refine qL ?_ | refine qM ?_ | refine qN ?_ | refine qO ?_ | refine qQ ?_) | refine qR rfl ?_ | (with_reducible refine AI ?_) | ((with_reducible refine qW (T := TT) (b := ?_) ?_ ?_); rotate_left; exact rfl) | (with_reducible first | refine qX ?_ | refine qY ?_ | refine qZ ?_) | (with_reducible first | refine qI ?_ | refine qIx ?_ | fail) | ((with_reducible refine yS ?_ ?_) <;> (intro h; try simp only [NM] at h)))
      all_goals simp -dsimp (disch := (first | omega | (simp only [LN]; omega))) only [retQ, Tryz.results5, resVals, cellRV, resOf, St.rest, St.freeze, RT, go_sem, ↓reduceIte, seval]
    have o := okChg_of hE
    obtain ⟨j, hjj⟩ : ∃ j, tpos s cs[k] = j := ⟨_, rfl⟩
    have hjl := o.lt
    have fs := findTable_sat s cs[k].table (by omega)
    rw [o.pos, hjj, mx0_nat] at fs
    rw [hjj] at hjl
    have hj : j < cur.length := by omega
    have et : tblOf s cs[k].table = s.tables[j] := by rw [o.tbl, hjj]; exact getD_lt _ hjl
    have eg : cur.getD j zRel = cur[j] := getD_lt _ hj
    have Bc := bounds_of (sm.bounds0 (confFits sm hcf)) hcf
    obtain ⟨r1, r2⟩ := Bc.rel cur[j] (List.getElem_mem hj)
    have hpk := (sm.table _ (List.getElem_mem hjl)).2
    have a1 : applyC s cur cs[k] = if cs[k].kind = 1 then if 24 < (upsertR s.tables[j] cur[j].rows cs[k].row).length then (2, []) else (0, setRows cur j (upsertR s.tables[j] cur[j].rows cs[k].row)) else if findB s.tables[j] cur[j].rows cs[k].key then (0, setRows cur j (deleteR s.tables[j] cur[j].rows cs[k].key)) else (9, []) := by
      simp only [applyC, hE, ne_eq, not_true_eq_false, if_false, hjj, et, eg]
    rcases o.kind with hk | hk
    · have b0 := (rowE_zero _ _).1 (et ▸ (o.up hk).2)
      have b1 := (sm.table _ (List.getElem_mem hjl)).1
      rw [if_pos hk] at a1
      have hg : ∀ h : j < (setRows cur j (upsertR s.tables[j] cur[j].rows cs[k].row)).length, (setRows cur j (upsertR s.tables[j] cur[j].rows cs[k].row))[j]'h = ⟨cur[j].table, upsertR s.tables[j] cur[j].rows cs[k].row⟩ := fun h => by rw [setRows_get hj, if_pos rfl]
      have hCl := setRows_length cur j (upsertR s.tables[j] cur[j].rows cs[k].row)
      have ex : (cur.map eRel).set j [L.str cur[j].table, L.sl 1 (List.map eRow1 (upsertR s.tables[j] cur[j].rows cs[k].row))] = (setRows cur j (upsertR s.tables[j] cur[j].rows cs[k].row)).map eRel := by
        simp only [setRows, List.map_set, eg, eRel, eRows]
      obtain ⟨C, hC⟩ : ∃ C, setRows cur j (upsertR s.tables[j] cur[j].rows cs[k].row) = C := ⟨_, rfl⟩
      simp only [hC] at hg hCl a1 ex
      have hjC : j < C.length := by omega
      have hg := hg hjC
      repeat' (first | ((first | with_reducible refine qV tyOk fun K hK => ?_ | (with_reducible first | refine qG ?_ | refine qH ?_ | refine qP ?_ | refine qGx ?_ | refine qHx ?_ | refine qPx ?_) | ((with_reducible refine CallJ.is ?_); (first | refine CallJ.pure (cv) ?_ | refine CallJ.pure (fs) ?_ | ((apply CallJ.lentI); (focus (simp -dsimp (disch := (first | omega | (simp only [LN]; omega))) only [go_sem, ↓reduceIte, seval, hE]; rfl)); (focus (first | exact (cv) | exact (fs)))))) | ((with_reducible refine CallH.is ?_); (first | refine CallH.intro (cv) ?_ | refine CallH.intro (fs) ?_))) <;> simp -dsimp (disch := (first | omega | (simp only [LN]; omega))) only [go_sem, ↓reduceIte, seval, hE]) | ((with_reducible refine hK _ ?_); clear hK K) | (with_reducible first | refine qA ?_ | refine qB ?_ | refine qC ?_ | refine qD ?_ | refine qE ?_ | refine qF ?_ | refine qL ?_ | refine qM ?_ | refine qN ?_ | refine qO ?_ | refine qQ ?_) | refine qR rfl ?_ | (with_reducible refine AI ?_) | ((with_reducible refine qW (T := TT) (b := ?_) ?_ ?_); rotate_left; exact rfl) | (with_reducible first | refine qX ?_ | refine qY ?_ | refine qZ ?_) | (with_reducible first | refine qI ?_ | refine qIx ?_ | fail))
      refine AWP.keep [3, 10, 12, 14, 16, 34, 35, 36] ?_
      simp -dsimp (disch := (first | omega | (simp only [LN]; omega))) only [go_sem, ↓reduceIte, seval, RT]
      by_cases hU : 24 < (upsertR s.tables[j] cur[j].rows cs[k].row).length
      · have st2 : applyL s i cs = (2, []) := by rw [step, a1, if_pos hU]; rfl
        have hU' : 24 < ((upsertR s.tables[j] cur[j].rows cs[k].row).length : Int) := by omega
        rw [st2]
        refine AWP.drawX tyOk mixed [(0, 10)] [(10, [(11, 2)], [(0, 2)]), (13, [], [])] [10, 13] 8 (by decide) (by kernel_rfl) (by kernel_rfl) (by kernel_rfl) (by kernel_rfl) fun K hK => ?_
        simp only [segx_nil, segx_cons, segs, List.drop_succ_cons, List.drop_zero, List.take_succ_cons, List.take_zero, List.getElem?_cons_zero, List.getElem?_cons_succ, List.cons_append, List.nil_append, List.append_nil] at hK ⊢
        simp -dsimp (disch := (first | omega | (simp only [LN]; omega))) only [go_sem, ↓reduceIte, seval, hlen]
        repeat' (first | ((first | with_reducible refine qV tyOk fun K hK => ?_ | (with_reducible first | refine qG ?_ | refine qH ?_ | refine qP ?_ | refine qGx ?_ | refine qHx ?_ | refine qPx ?_) | ((with_reducible refine CallJ.is ?_); (first | refine CallJ.pure (relUpsert_sat s.tables[j] cur[j].rows cs[k].row (by omega) r1 (by omega) r2) ?_ | ((apply CallJ.lentI); (focus (simp -dsimp (disch := (first | omega | (simp only [LN]; omega))) only [go_sem, ↓reduceIte, seval, hlen, ex, hCl, hg, Option.getD_none]; rfl)); (focus (first | exact (relUpsert_sat s.tables[j] cur[j].rows cs[k].row (by omega) r1 (by omega) r2)))))) | ((with_reducible refine CallH.is ?_); (first | refine CallH.intro (relUpsert_sat s.tables[j] cur[j].rows cs[k].row (by omega) r1 (by omega) r2) ?_))) <;> simp -dsimp (disch := (first | omega | (simp only [LN]; omega))) only [go_sem, ↓reduceIte, seval, hlen, ex, hCl, hg, Option.getD_none]) | ((with_reducible refine hK _ ?_); clear hK K) | (with_reducible first | refine qA ?_ | refine qB ?_ | refine qC ?_ | refine qD ?_ | refine qE ?_ | refine qF ?_ | refine qL ?_ | refine qM ?_ | refine qN ?_ | refine qO ?_ | refine qQ ?_) | refine qR rfl ?_ | ((with_reducible refine VCy.intro fun K0 hK0 => ?_)) | ((with_reducible refine VCy.fin ?_); (refine hK0 _ ?_); clear hK0 K0) | (with_reducible first | refine VCy.quiet ?_ | refine VCy.none ?_) | ((with_reducible first | refine VCy.some fun K hK => ?_ | refine VCy.step fun K hK => ?_); simp -dsimp (disch := (first | omega | (simp only [LN]; omega))) only [go_sem, ↓reduceIte, seval, hlen, ex, hCl, hg, Option.getD_none]) | ((with_reducible refine VCy.keep ?_ ?_); focus ((simp -dsimp (disch := (first | omega | (simp only [LN]; omega))) only [go_sem, ↓reduceIte, seval, Stable_cons, Stable_nil, sameA_some, sameA_none, hlen, ex, hCl, hg, Option.getD_none]); first | done | with_reducible assumption | omega | (repeat' with_reducible refine And.intro ?_ ?_) <;> first | with_reducible rfl | with_reducible assumption | omega)) | (with_reducible refine AI ?_) | ((with_reducible refine qW (T := TT) (b := ?_) ?_ ?_); rotate_left; exact rfl) | (with_reducible first | refine qX ?_ | refine qY ?_ | refine qZ ?_) | (with_reducible first | refine qI ?_ | refine qIx ?_ | fail))
        simp -dsimp (disch := (first | omega | (simp only [LN]; omega))) only [retQ, Tryz.results5, resVals, cellRV, resOf, St.rest, St.freeze, RT, go_sem, ↓reduceIte, seval]
      · have a2 : applyC s cur cs[k] = (0, C) := by rw [a1, if_neg hU]
        have st2 : applyL s C (cs.drop (k + 1)) = applyL s i cs := by rw [step, a2]; rfl
        have hU' : ¬ 24 < ((upsertR s.tables[j] cur[j].rows cs[k].row).length : Int) := by omega
        have hcf2 : confE s C = 0 := by
          have := applyC_conf hcf (c := cs[k]) (by rw [a2])
          rwa [a2] at this
        refine AWP.drawX tyOk mixed [(0, 10)] [(10, [(11, 2)], [(0, 2)]), (13, [], [])] [10, 13] 8 (by decide) (by kernel_rfl) (by kernel_rfl) (by kernel_rfl) (by kernel_rfl) fun K hK => ?_
        simp only [segx_nil, segx_cons, segs, List.drop_succ_cons, List.drop_zero, List.take_succ_cons, List.take_zero, List.getElem?_cons_zero, List.getElem?_cons_succ, List.cons_append, List.nil_append, List.append_nil] at hK ⊢
        simp -dsimp (disch := (first | omega | (simp only [LN]; omega))) only [go_sem, ↓reduceIte, seval, hlen]
        repeat' (first | ((first | with_reducible refine qV tyOk fun K hK => ?_ | (with_reducible first | refine qG ?_ | refine qH ?_ | refine qP ?_ | refine qGx ?_ | refine qHx ?_ | refine qPx ?_) | ((with_reducible refine CallJ.is ?_); (first | refine CallJ.pure (relUpsert_sat s.tables[j] cur[j].rows cs[k].row (by omega) r1 (by omega) r2) ?_ | ((apply CallJ.lentI); (focus (simp -dsimp (disch := (first | omega | (simp only [LN]; omega))) only [go_sem, ↓reduceIte, seval, hlen, ex, hCl, hg, Option.getD_none]; rfl)); (focus (first | exact (relUpsert_sat s.tables[j] cur[j].rows cs[k].row (by omega) r1 (by omega) r2)))))) | ((with_reducible refine CallH.is ?_); (first | refine CallH.intro (relUpsert_sat s.tables[j] cur[j].rows cs[k].row (by omega) r1 (by omega) r2) ?_))) <;> simp -dsimp (disch := (first | omega | (simp only [LN]; omega))) only [go_sem, ↓reduceIte, seval, hlen, ex, hCl, hg, Option.getD_none]) | ((with_reducible refine hK _ ?_); clear hK K) | (with_reducible first | refine qA ?_ | refine qB ?_ | refine qC ?_ | refine qD ?_ | refine qE ?_ | refine qF ?_ | refine qL ?_ | refine qM ?_ | refine qN ?_ | refine qO ?_ | refine qQ ?_) | refine qR rfl ?_ | ((with_reducible refine VCy.intro fun K0 hK0 => ?_)) | ((with_reducible refine VCy.fin ?_); (refine hK0 _ ?_); clear hK0 K0) | (with_reducible first | refine VCy.quiet ?_ | refine VCy.none ?_) | ((with_reducible first | refine VCy.some fun K hK => ?_ | refine VCy.step fun K hK => ?_); simp -dsimp (disch := (first | omega | (simp only [LN]; omega))) only [go_sem, ↓reduceIte, seval, hlen, ex, hCl, hg, Option.getD_none]) | ((with_reducible refine VCy.keep ?_ ?_); focus ((simp -dsimp (disch := (first | omega | (simp only [LN]; omega))) only [go_sem, ↓reduceIte, seval, Stable_cons, Stable_nil, sameA_some, sameA_none, hlen, ex, hCl, hg, Option.getD_none]); first | done | with_reducible assumption | omega | (repeat' with_reducible refine And.intro ?_ ?_) <;> first | with_reducible rfl | with_reducible assumption | omega)) | (with_reducible refine AI ?_) | ((with_reducible refine qW (T := TT) (b := ?_) ?_ ?_); rotate_left; exact rfl) | (with_reducible first | refine qX ?_ | refine qY ?_ | refine qZ ?_) | (with_reducible first | refine qI ?_ | refine qIx ?_ | fail))
        refine ⟨⟨(k + 1, C), by simp only; omega, hcf2, st2⟩, by simp only; omega, ?_⟩
        refine St.le_mk ?_ ?_ ?_ <;> simp only [LE, EN, Nat.reduceEqDiff, reduceIte, Nat.reduceSub, eSch]
    · rw [if_neg (by omega)] at a1
      have hk' : ¬ cs[k].kind = 1 := by omega
      by_cases hF : findB s.tables[j] cur[j].rows cs[k].key = true
      · rw [if_pos hF] at a1
        repeat' (first | ((first | with_reducible refine qV tyOk fun K hK => ?_ | (with_reducible first | refine qG ?_ | refine qH ?_ | refine qP ?_ | refine qGx ?_ | refine qHx ?_ | refine qPx ?_) | ((with_reducible refine CallJ.is ?_); (first | refine CallJ.pure (cv) ?_ | refine CallJ.pure (fs) ?_ | ((apply CallJ.lentI); (focus (simp -dsimp (disch := (first | omega | (simp only [LN]; omega))) only [go_sem, ↓reduceIte, seval, hE]; rfl)); (focus (first | exact (cv) | exact (fs)))))) | ((with_reducible refine CallH.is ?_); (first | refine CallH.intro (cv) ?_ | refine CallH.intro (fs) ?_))) <;> simp -dsimp (disch := (first | omega | (simp only [LN]; omega))) only [go_sem, ↓reduceIte, seval, hE]) | ((with_reducible refine hK _ ?_); clear hK K) | (with_reducible first | refine qA ?_ | refine qB ?_ | refine qC ?_ | refine qD ?_ | refine qE ?_ | refine qF ?_ | refine qL ?_ | refine qM ?_ | refine qN ?_ | refine qO ?_ | refine qQ ?_) | refine qR rfl ?_ | (with_reducible refine AI ?_) | ((with_reducible refine qW (T := TT) (b := ?_) ?_ ?_); rotate_left; exact rfl) | (with_reducible first | refine qX ?_ | refine qY ?_ | refine qZ ?_) | (with_reducible first | refine qI ?_ | refine qIx ?_ | fail))
        have ex : (cur.map eRel).set j [L.str cur[j].table, L.sl 1 (List.map eRow1 (deleteR s.tables[j] cur[j].rows cs[k].key))] = (setRows cur j (deleteR s.tables[j] cur[j].rows cs[k].key)).map eRel := by
          simp only [setRows, List.map_set, eg, eRel, eRows]
        have st2 : applyL s (setRows cur j (deleteR s.tables[j] cur[j].rows cs[k].key)) (cs.drop (k + 1)) = applyL s i cs := by rw [step, a1]; rfl
        have hcf2 : confE s (setRows cur j (deleteR s.tables[j] cur[j].rows cs[k].key)) = 0 := by
          have := applyC_conf hcf (c := cs[k]) (by rw [a1])
          rwa [a1] at this
        refine AWP.keep [3, 10, 12, 14, 16, 34, 35, 36] ?_
        simp -dsimp (disch := (first | omega | (simp only [LN]; omega))) only [go_sem, ↓reduceIte, seval, RT]
        refine AWP.drawX tyOk mixed [(0, 10)] [(10, [(11, 5)], [(0, 2)]), (16, [], [(13, 1)]), (17, [], [])] [10, 16, 17] 8 (by decide) (by kernel_rfl) (by kernel_rfl) (by kernel_rfl) (by kernel_rfl) fun K hK => ?_
        simp only [segx_nil, segx_cons, segs, List.drop_succ_cons, List.drop_zero, List.take_succ_cons, List.take_zero, List.getElem?_cons_zero, List.getElem?_cons_succ, List.cons_append, List.nil_append, List.append_nil] at hK ⊢
        simp -dsimp (disch := (first | omega | (simp only [LN]; omega))) only [go_sem, ↓reduceIte, seval, hlen]
        repeat' (first | ((first | with_reducible refine qV tyOk fun K hK => ?_ | (with_reducible first | refine qG ?_ | refine qH ?_ | refine qP ?_ | refine qGx ?_ | refine qHx ?_ | refine qPx ?_) | ((with_reducible refine CallJ.is ?_); (first | refine CallJ.pure (relDelete_sat s.tables[j] cur[j].rows cs[k].key (by omega) r1 f1 r2) ?_ | ((apply CallJ.lentI); (focus (simp -dsimp (disch := (first | omega | (simp only [LN]; omega))) only [go_sem, ↓reduceIte, seval, hlen, hF]; rfl)); (focus (first | exact (relDelete_sat s.tables[j] cur[j].rows cs[k].key (by omega) r1 f1 r2)))))) | ((with_reducible refine CallH.is ?_); (first | refine CallH.intro (relDelete_sat s.tables[j] cur[j].rows cs[k].key (by omega) r1 f1 r2) ?_))) <;> simp -dsimp (disch := (first | omega | (simp only [LN]; omega))) only [go_sem, ↓reduceIte, seval, hlen, hF]) | ((with_reducible refine hK _ ?_); clear hK K) | (with_reducible first | refine qA ?_ | refine qB ?_ | refine qC ?_ | refine qD ?_ | refine qE ?_ | refine qF ?_ | refine qL ?_ | refine qM ?_ | refine qN ?_ | refine qO ?_ | refine qQ ?_) | refine qR rfl ?_ | ((with_reducible refine VCy.intro fun K0 hK0 => ?_)) | ((with_reducible refine VCy.fin ?_); (refine hK0 _ ?_); clear hK0 K0) | (with_reducible first | refine VCy.quiet ?_ | refine VCy.none ?_) | ((with_reducible first | refine VCy.some fun K hK => ?_ | refine VCy.step fun K hK => ?_); simp -dsimp (disch := (first | omega | (simp only [LN]; omega))) only [go_sem, ↓reduceIte, seval, hlen, hF]) | ((with_reducible refine VCy.keep ?_ ?_); focus ((simp -dsimp (disch := (first | omega | (simp only [LN]; omega))) only [go_sem, ↓reduceIte, seval, Stable_cons, Stable_nil, sameA_some, sameA_none, hlen, hF]); first | done | with_reducible assumption | omega | (repeat' with_reducible refine And.intro ?_ ?_) <;> first | with_reducible rfl | with_reducible assumption | omega)) | (with_reducible refine AI ?_) | ((with_reducible refine qW (T := TT) (b := ?_) ?_ ?_); rotate_left; exact rfl) | (with_reducible first | refine qX ?_ | refine qY ?_ | refine qZ ?_) | (with_reducible first | refine qI ?_ | refine qIx ?_ | fail))
        refine ⟨⟨(k + 1, setRows cur j (deleteR s.tables[j] cur[j].rows cs[k].key)), by simp only; omega, hcf2, st2⟩, by simp only; omega, ?_⟩
        refine St.le_mk ?_ ?_ ?_ <;> simp only [LE, EN, Nat.reduceEqDiff, reduceIte, Nat.reduceSub, eSch, ex]
      · rw [if_neg hF] at a1
        have hF : findB s.tables[j] cur[j].rows cs[k].key = false := by simpa using hF
        have st2 : applyL s i cs = (9, []) := by rw [step, a1]; rfl
        rw [st2]
        repeat' (first | ((first | with_reducible refine qV tyOk fun K hK => ?_ | (with_reducible first | refine qG ?_ | refine qH ?_ | refine qP ?_ | refine qGx ?_ | refine qHx ?_ | refine qPx ?_) | ((with_reducible refine CallJ.is ?_); (first | refine CallJ.pure (cv) ?_ | refine CallJ.pure (fs) ?_ | ((apply CallJ.lentI); (focus (simp -dsimp (disch := (first | omega | (simp only [LN]; omega))) only [go_sem, ↓reduceIte, seval, hE]; rfl)); (focus (first | exact (cv) | exact (fs)))))) | ((with_reducible refine CallH.is ?_); (first | refine CallH.intro (cv) ?_ | refine CallH.intro (fs) ?_))) <;> simp -dsimp (disch := (first | omega | (simp only [LN]; omega))) only [go_sem, ↓reduceIte, seval, hE]) | ((with_reducible refine hK _ ?_); clear hK K) | (with_reducible first | refine qA ?_ | refine qB ?_ | refine qC ?_ | refine qD ?_ | refine qE ?_ | refine qF ?_ | refine qL ?_ | refine qM ?_ | refine qN ?_ | refine qO ?_ | refine qQ ?_) | refine qR rfl ?_ | (with_reducible refine AI ?_) | ((with_reducible refine qW (T := TT) (b := ?_) ?_ ?_); rotate_left; exact rfl) | (with_reducible first | refine qX ?_ | refine qY ?_ | refine qZ ?_) | (with_reducible first | refine qI ?_ | refine qIx ?_ | fail))
        refine AWP.keep [3, 10, 12, 14, 16, 34, 35, 36] ?_
        simp -dsimp (disch := (first | omega | (simp only [LN]; omega))) only [go_sem, ↓reduceIte, seval, RT]
        refine AWP.drawX tyOk mixed [(0, 10)] [(10, [(11, 5)], [(0, 2)]), (16, [], [(13, 1)]), (17, [], [])] [10, 16, 17] 8 (by decide) (by kernel_rfl) (by kernel_rfl) (by kernel_rfl) (by kernel_rfl) fun K hK => ?_
        simp only [segx_nil, segx_cons, segs, List.drop_succ_cons, List.drop_zero, List.take_succ_cons, List.take_zero, List.getElem?_cons_zero, List.getElem?_cons_succ, List.cons_append, List.nil_append, List.append_nil] at hK ⊢
        simp -dsimp (disch := (first | omega | (simp only [LN]; omega))) only [go_sem, ↓reduceIte, seval, hlen]
        repeat' (first | ((first | with_reducible refine qV tyOk fun K hK => ?_ | (with_reducible first | refine qG ?_ | refine qH ?_ | refine qP ?_ | refine qGx ?_ | refine qHx ?_ | refine qPx ?_) | ((with_reducible refine CallJ.is ?_); (first | refine CallJ.pure (relDelete_sat s.tables[j] cur[j].rows cs[k].key (by omega) r1 f1 r2) ?_ | ((apply CallJ.lentI); (focus (simp -dsimp (disch := (first | omega | (simp only [LN]; omega))) only [go_sem, ↓reduceIte, seval, hlen, hF]; rfl)); (focus (first | exact (relDelete_sat s.tables[j] cur[j].rows cs[k].key (by omega) r1 f1 r2)))))) | ((with_reducible refine CallH.is ?_); (first | refine CallH.intro (relDelete_sat s.tables[j] cur[j].rows cs[k].key (by omega) r1 f1 r2) ?_))) <;> simp -dsimp (disch := (first | omega | (simp only [LN]; omega))) only [go_sem, ↓reduceIte, seval, hlen, hF]) | ((with_reducible refine hK _ ?_); clear hK K) | (with_reducible first | refine qA ?_ | refine qB ?_ | refine qC ?_ | refine qD ?_ | refine qE ?_ | refine qF ?_ | refine qL ?_ | refine qM ?_ | refine qN ?_ | refine qO ?_ | refine qQ ?_) | refine qR rfl ?_ | ((with_reducible refine VCy.intro fun K0 hK0 => ?_)) | ((with_reducible refine VCy.fin ?_); (refine hK0 _ ?_); clear hK0 K0) | (with_reducible first | refine VCy.quiet ?_ | refine VCy.none ?_) | ((with_reducible first | refine VCy.some fun K hK => ?_ | refine VCy.step fun K hK => ?_); simp -dsimp (disch := (first | omega | (simp only [LN]; omega))) only [go_sem, ↓reduceIte, seval, hlen, hF]) | ((with_reducible refine VCy.keep ?_ ?_); focus ((simp -dsimp (disch := (first | omega | (simp only [LN]; omega))) only [go_sem, ↓reduceIte, seval, Stable_cons, Stable_nil, sameA_some, sameA_none, hlen, hF]); first | done | with_reducible assumption | omega | (repeat' with_reducible refine And.intro ?_ ?_) <;> first | with_reducible rfl | with_reducible assumption | omega)) | (with_reducible refine AI ?_) | ((with_reducible refine qW (T := TT) (b := ?_) ?_ ?_); rotate_left; exact rfl) | (with_reducible first | refine qX ?_ | refine qY ?_ | refine qZ ?_) | (with_reducible first | refine qI ?_ | refine qIx ?_ | fail))
        simp -dsimp (disch := (first | omega | (simp only [LN]; omega))) only [retQ, Tryz.results5, resVals, cellRV, resOf, St.rest, St.freeze, RT, go_sem, ↓reduceIte, seval]
  · have hk : k = cs.length := by omega
    subst hk
    have hle : i.length ≤ cur.length := by omega
    have hap2 : applyL s i cs = (0, cur) := by rw [← hap, List.drop_length]; rfl
    rw [hap2]
    repeat' (first | ((first | with_reducible refine qV tyOk fun K hK => ?_ | (with_reducible first | refine qG ?_ | refine qH ?_ | refine qP ?_ | refine qGx ?_ | refine qHx ?_ | refine qPx ?_) | ((with_reducible first | refine qS ?_ ?_ | refine qT ?_ ?_ | refine qU ?_ ?_) <;> (intro h; try simp only [NM] at h))) <;> simp -dsimp (disch := (first | omega | (simp only [LN]; omega))) only [go_sem, ↓reduceIte, seval]) | ((with_reducible refine hK _ ?_); clear hK K) | (with_reducible first | refine qA ?_ | refine qB ?_ | refine qC ?_ | refine qD ?_ | refine qE ?_ | refine qF ?_ | refine qL ?_ | refine qM ?_ | refine qN ?_ | refine qO ?_ | refine qQ ?_) | refine qR rfl ?_ | (with_reducible refine AI ?_) | ((with_reducible refine qW (T := TT) (b := ?_) ?_ ?_); rotate_left; exact rfl) | (with_reducible first | refine qX ?_ | refine qY ?_ | refine qZ ?_) | (with_reducible first | refine qI ?_ | refine qIx ?_ | fail) | ((with_reducible refine yS ?_ ?_) <;> (intro h; try simp only [NM] at h)))
    simp -dsimp (disch := (first | omega | (simp only [LN]; omega))) only [retQ, Tryz.results5, resVals, cellRV, resOf, St.rest, St.freeze, RT, go_sem, ↓reduceIte, seval]
    rw [if_pos (by omega)]
end Go.Bw
