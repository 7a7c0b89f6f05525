/-
  WHAT IS PROVED HERE, of this translation: instFits_of, diffK_zero, diffK_length, diff_sat, diffR_mem, diffK_fits, ERep.whf, VRep.whf, ARep.whf, XRep.whf, RCell.whf, CI.boxGrow, bytesAt_of, byT_own, byT_of, erep_str', ws_call, args2, bld_box, bld_after, strCells_bytes, byteCells_app, arep_ws, writeString_satM, string_satM, StepsX_sound, wp_regionX, run_alloc, gives_callK, bld_start, itoaB_size, cellB_size, encL_zero, encL_succ, encL_le, itoa_ne, encL_ne, okIds_ptr, okIds_byt, encode_sat, keyCell_fits, keyOf_fits, valFits_of, rowFits_row, keyCellE_ne, rowFits_key, tgt_fits, refT_at, cover1_sat, deltaKeysCover_sat, gPow, tPow, gSyn, gRng, laidW_rel.
  A theorem that ends in sat says what the function it names returns, whatever the state it is called in; the bounds on its arguments stand ahead of it.
-/
import Derived.Lib.ItoaLen
import Derived.Test.YtjjnchbfjbjemaaGreatDoorRows
import Derived.Test.YtjjnchbfjbjemaaGreatDoorTie
import Derived.Test.YtjjnchbfjbjemaaGreatDoorCards
import Derived.Lib.LaidTab
import Derived.Stop.LaidErr
import Derived.Stop.Joined
import Derived.OpenShut
import Derived.LaidMore
import Derived.SevenTiedAt
import Derived.Deep.DeepHandedRow
import Derived.Lay
import Derived.WalkKit
import Derived.ProofKit
import Derived.Test.YtjjnchbfjbjemaaGreatDoorN21h
set_option linter.unusedSimpArgs false
set_option linter.unusedVariables false

namespace Go.Bw
open Go.Proofs
attribute [local go_sem ↓] VOps_nil VOps_cons VOp_callJ VVal_callH VOps_guard GOn_tt GOn_ff GOn_tf GOn_ft GOn_not GOn_none HOn_none HOn_tt HOn_ff HOn_tf HOn_ft HOn_not VHead_nil VHead_cons VHead_guard VVal_move VVal_assign VVal_pickE pickK_true pickK_false VVal_not VVal_neg negK_int VVal_load loadK_fz loadK_ptr loadK_eptr VVal_fieldAddr VVal_field VVal_indexAddr idxK_sl idxK_ref VVal_index indexK_str VVal_extract VVal_binOp binK_one binK_agg VVal_build VVal_buildSlice VVal_makeFunc VVal_slice sliceK_str sliceK_sl sliceK_nil sliceK_ref VVal_slice3 VVal_nilCheck VVal_convert convKk_int convKk_str VVal_len VVal_max VVal_min VOp_assign assignK_int assignK_bool assignK_str assignK_clo assignK_sl assignK_nil assignK_ref assignK_agg assignK_fz assignK_ptr assignK_eptr assignK_any VOp_box VOp_alloc VOp_store storeK_ptr storeK_eptr VOp_buildSlice VOp_append appK_rr appK_rs appK_rn appK_ri appK_nr appK_ns appK_nn appK_ni appStd_eq VOp_copy copyK_ref VOp_clear clearK_ref VOp_cap VOp_eqNil VOp_move VOp_pick VOp_not VOp_neg VOp_load VOp_fieldAddr VOp_field VOp_indexAddr VOp_index VOp_extract VOp_binTmp VOp_binInt VOp_binStr VOp_binPtr VOp_build VOp_makeFunc VOp_slice VOp_nilCheck VOp_convert VOp_len VOp_max VOp_min mO_some mT_some pk_some pk_none look_cons del_cons
attribute [local go_sem] guardB gOf int_bne beq_true beq_false Bool.not_not gSlot pickK_true pickK_false negK_int loadK_fz loadK_ptr loadK_eptr idxK_sl idxK_ref indexK_str binK_one binK_agg sliceK_str sliceK_sl sliceK_nil sliceK_ref convKk_int convKk_str maxL minL assignK_int assignK_bool assignK_str assignK_clo assignK_sl assignK_nil assignK_ref assignK_agg assignK_fz assignK_ptr assignK_eptr assignK_any nilRow_eq takeRow_eq appended_eq storeK_ptr storeK_eptr store_mk appIn_eq appMk_eq marked_eq ovOut_nil ovOut_cons ovIn_nil ovIn_cons padRow_eq ysC capK_nil capK_ref ioSt_mk outB_nil outR_nil outB outR inB_nil inB_cons inR_nil inR_cons L.kl L.kl0 L.ids L.ids0 Option.getD_some evalO constA mO_some mT_some put_mk putO_some putO_none okD_some okD_none pk_some pk_none look_nil del_nil sput noBox_mk noRow_mk newBox_eq newRow0_eq St.killRow RowC.kill rowMap_mk rowOf ovAll ovAdd ovDel ovGet ovShift dstOf ysOf overlay_nil overlay_nil' overlay A.map V.map L.noPtr L.noPtr0 L.noRow L.noRow0 L.peek L.norm L.flat clos_int clos_bool clos_str clos_sl clos_nil clos_any clos_fz L.clos L.isFz L.kd moveL fieldOff eqCells eqCell eqOp oneOf boolOf intOfA tupOf vOf aggOf isPtrLike isSlice lenKind lenL nL elemTI loadV asV binL intBin intDivL shrL boolBin strBin strAdd ptrNil boundN partCells fillL placesOf setL chunks repL capsOf capL callOf argsOf frzV_int frzV_bool frzV_str frzV_sl frzV_nil frzV_fz frzV_any frzV_own frzV_clo frzV_ref frzV_eptr frzV_ptr frzRow_nil frzRow_ov frzRs_nil frzRs_cons frzCs_nil frzCs_cons frzO_some frzO_none frzN_int frzN_bool frzN_str frzN_sl frzN_nil frzN_any frzN_own List.map_cons List.map_nil List.cons_append List.nil_append List.append_nil List.length_cons List.length_nil List.length_map List.length_append List.headD_cons List.tail_cons List.getElem?_cons_zero List.getElem?_cons_succ List.drop_zero List.drop_succ_cons List.drop_nil List.take_succ_cons List.take_zero List.take_nil List.take_length List.filter_cons List.filter_nil List.elem_cons List.elem_nil List.all_cons List.all_nil Option.bind_some Option.map_some Option.some.injEq bne_self_eq_false beq_self_eq_true if_true if_false Bool.false_eq_true true_and and_true and_self Nat.zero_add Nat.add_zero Nat.zero_le Int.toNat_natCast Int.toNat_zero Option.isSome_some List.getElem?_toArray decide_true decide_false ge_iff_le gt_iff_lt Bool.not_true Bool.not_false Nat.le_refl Bool.and_true Bool.true_and Bool.and_false Bool.false_and eVal eRow eRow1 eRows eInt1 eInts eCol eCols eTbl eTbls eFK eFKs eCon eCons eSch eRel eInst eChg eChgs szOf getD_map_lt wrap_nat wrap_in List.take_of_length_le frz_eVal frz_eRow1 frz_eInt1 frz_eCol frz_eTbl frz_eFK frz_eCon frz_eRel frz_eChg noOwn_nil noOwn_cons noOwn_append L.isOwn noOwn_eVal noOwn_eRow1 noOwn_eInt1 noOwn_eCol noOwn_eTbl noOwn_eFK noOwn_eCon noOwn_eRel noOwn_eChg convK_2 convK_3 convK_5 convK_12 convK_21 convK_31 convK_115 convK_136 convK_144 convK_146 convK_155 TT_2 TT_3 TT_4 TT_5 TT_9 TT_12 TT_13 TT_21 TT_22 TT_23 TT_24 TT_25 TT_26 TT_27 TT_28 TT_29 TT_31 TT_36 TT_39 TT_40 TT_41 TT_42 TT_43 TT_52 TT_53 TT_54 TT_55 TT_57 TT_58 TT_59 TT_60 TT_71 TT_77 TT_78 TT_79 TT_90 TT_91 TT_93 TT_94 TT_99 TT_100 TT_115 TT_136 TT_144 TT_146 TT_155 boolTy_4 eqK_60 eqK_91 eqK_100
attribute [local congr] VOps.congr VHead.congr VOp.congr VVal.congr pk.congr assignK.congr appK.congr appStd.congr copyK.congr clearK.congr storeK.congr loadK.congr idxK.congr sliceK.congr indexK.congr binK.congr convKk.congr
theorem instFits_of {s : Sch} {i : Inst} (hs : Small s) (h : confE s i = 0) : InstFits i := by
  obtain ⟨h1, _⟩ := (confE_zero s i).1 h
  have := hs.tables
  exact ⟨by omega, confFits hs h⟩
theorem diffK_zero (s : Sch) (a b : Inst) : diffK s a b 0 = [] := rfl
theorem diffK_length {s : Sch} {a b : Inst} (ha : confE s a = 0) (hb : confE s b = 0) : ∀ (k : Nat), k ≤ s.tables.length → (diffK s a b k).length ≤ 48 * k
  | 0, _ => by simp [diffK]
  | k + 1, hk => by
    obtain ⟨la, ca⟩ := (confE_zero s a).1 ha
    obtain ⟨lb, cb⟩ := (confE_zero s b).1 hb
    have h1 := diffK_length ha hb k (by omega)
    have h2 := diffR_length (s.tables.getD k zTbl) (a.getD k zRel).rows (b.getD k zRel).rows
    have h3 := (conf_rel ha (k := k) (by omega)).n24
    have h4 := (conf_rel hb (k := k) (by omega)).n24
    rw [diffK_succ, List.length_append]
    omega
set_option maxHeartbeats 16000000 in
theorem diff_sat (s : Sch) (a b : Inst) (hf : s.Fits) (ha : InstFits a) (hb : InstFits b) :
    Sat Tryz.prog 6 [.agg (eSch s), .one (eInst a), .one (eInst b)] (.tup [.one (eChgs (diffE s a b).2), oI (diffE s a b).1]) := by
  by_cases h0 : schE s = 0
  case neg =>
    have spec : diffE s a b = (schE s, []) := by simp [diffE, h0]
    rw [spec]
    refine sat_of_body tyOk Tryz.func6 rfl (by kernel_rfl) ⟨Nat.le_of_ble_eq_true rfl, Nat.le_of_ble_eq_true rfl⟩ fun w0 m0 F0 => ?_
    simp only [Tryz.ntmps6, envOf, Nat.reduceAdd]
    repeat' (first | ((first | with_reducible refine qV tyOk fun K hK => ?_ | (with_reducible first | refine qG ?_ | refine qH ?_ | refine qP ?_ | refine qGx ?_ | refine qHx ?_ | refine qPx ?_) | ((with_reducible first | refine qS ?_ ?_ | refine qT ?_ ?_ | refine qU ?_ ?_) <;> (intro h; try simp only [NM] at h)) | with_reducible refine yD tyOk mixed 6 (by kernel_rfl) fun K hK => ?_ | ((with_reducible refine CallJ.is ?_); (first | refine CallJ.pure (schValidate_sat s hf) ?_ | ((apply CallJ.lentI); (focus (simp -dsimp (disch := (first | omega | (simp only [LN]; omega))) only [go_sem, ↓reduceIte, seval, h0]; rfl)); (focus (first | exact (schValidate_sat s hf)))))) | ((with_reducible refine CallH.is ?_); (first | refine CallH.intro (schValidate_sat s hf) ?_))) <;> simp -dsimp (disch := (first | omega | (simp only [LN]; omega))) only [go_sem, ↓reduceIte, seval, h0]) | ((with_reducible refine hK _ ?_); clear hK K) | (with_reducible first | refine qA ?_ | refine qB ?_ | refine qC ?_ | refine qD ?_ | refine qE ?_ | refine qF ?_ | refine qL ?_ | refine qM ?_ | refine qN ?_ | refine qO ?_ | refine qQ ?_) | refine qR rfl ?_ | (with_reducible refine AI ?_) | ((with_reducible refine qW (T := TT) (b := ?_) ?_ ?_); rotate_left; exact rfl) | (with_reducible first | refine qX ?_ | refine qY ?_ | refine qZ ?_) | (with_reducible first | refine qI ?_ | refine qIx ?_ | fail) | ((with_reducible refine yS ?_ ?_) <;> (intro h; try simp only [NM] at h)))
    all_goals simp -dsimp (disch := (first | omega | (simp only [LN]; omega))) only [retQ, Tryz.results6, resVals, cellRV, resOf, St.rest, St.freeze, RT, go_sem, ↓reduceIte, seval]
  have sm := small_of h0
  have m1 := sm.tables
  have Ba : Bounds0 s a := sm.bounds0 ha.2
  have Bb : Bounds0 s b := sm.bounds0 hb.2
  refine sat_of_body tyOk Tryz.func6 rfl (by kernel_rfl) ⟨Nat.le_of_ble_eq_true rfl, Nat.le_of_ble_eq_true rfl⟩ fun w0 m0 F0 => ?_
  simp only [Tryz.ntmps6, envOf, Nat.reduceAdd]
  repeat' (first | ((first | with_reducible refine qV tyOk fun K hK => ?_ | (with_reducible first | refine qG ?_ | refine qH ?_ | refine qP ?_ | refine qGx ?_ | refine qHx ?_ | refine qPx ?_) | ((with_reducible first | refine qS ?_ ?_ | refine qT ?_ ?_ | refine qU ?_ ?_) <;> (intro h; try simp only [NM] at h)) | ((with_reducible refine CallJ.is ?_); (first | refine CallJ.pure (schValidate_sat s hf) ?_ | ((apply CallJ.lentI); (focus (simp -dsimp (disch := (first | omega | (simp only [LN]; omega))) only [go_sem, ↓reduceIte, seval, h0]; rfl)); (focus (first | exact (schValidate_sat s hf)))))) | ((with_reducible refine CallH.is ?_); (first | refine CallH.intro (schValidate_sat s hf) ?_))) <;> simp -dsimp (disch := (first | omega | (simp only [LN]; omega))) only [go_sem, ↓reduceIte, seval, h0]) | ((with_reducible refine hK _ ?_); clear hK K) | (with_reducible first | refine qA ?_ | refine qB ?_ | refine qC ?_ | refine qD ?_ | refine qE ?_ | refine qF ?_ | refine qL ?_ | refine qM ?_ | refine qN ?_ | refine qO ?_ | refine qQ ?_) | refine qR rfl ?_ | (with_reducible refine AI ?_) | ((with_reducible refine qW (T := TT) (b := ?_) ?_ ?_); rotate_left; exact rfl) | (with_reducible first | refine qX ?_ | refine qY ?_ | refine qZ ?_) | (with_reducible first | refine qI ?_ | refine qIx ?_ | fail) | ((with_reducible refine yS ?_ ?_) <;> (intro h; try simp only [NM] at h)))
  refine AWP.loop (ι := {k : Nat // k ≤ 2 ∧ (0 < k → confE s a = 0) ∧ (1 < k → confE s b = 0)}) (fun k => ⟨59, [(1, .v (.one (eInst a))), (2, .v (.one (eInst b))), (3, .v (.one (.ptr 3 0))), (22, .v (.one (.ref 22 0 2))), (23, .v (oI 2)), (24, .v (oI k.1))], [(3, eSch s)], [(22, ⟨1, [[eInst a], [eInst b]], []⟩)]⟩) (fun k => 2 - k.1) ⟨0, by omega, by omega, by omega⟩ ?_ fun ⟨k, hkl, g1, g2⟩ => ?_
  · refine St.le_mk ?_ ?_ ?_ <;> simp only [LE, EN, Nat.reduceEqDiff, reduceIte, Nat.reduceSub, eSch]
  rcases (show k = 0 ∨ k = 1 ∨ k = 2 by omega) with hk | hk | hk
  · have hx : ([[L.sl 2 (a.map eRel)], [L.sl 2 (b.map eRel)]] : List (List L)).getD k [] = [L.sl 2 (a.map eRel)] := by rw [hk]; rfl
    by_cases h1 : confE s a = 0
    · repeat' (first | ((first | with_reducible refine qV tyOk fun K hK => ?_ | (with_reducible first | refine qG ?_ | refine qH ?_ | refine qP ?_ | refine qGx ?_ | refine qHx ?_ | refine qPx ?_) | ((with_reducible first | refine qS ?_ ?_ | refine qT ?_ ?_ | refine qU ?_ ?_) <;> (intro h; try simp only [NM] at h)) | ((with_reducible refine CallJ.is ?_); (first | refine CallJ.pure (conforms_sat s a Ba ha.1) ?_ | ((apply CallJ.lentI); (focus (simp -dsimp (disch := (first | omega | (simp only [LN]; omega))) only [go_sem, ↓reduceIte, seval, h1, hx, Nat.zero_add, Option.getD_none]; rfl)); (focus (first | exact (conforms_sat s a Ba ha.1)))))) | ((with_reducible refine CallH.is ?_); (first | refine CallH.intro (conforms_sat s a Ba ha.1) ?_))) <;> simp -dsimp (disch := (first | omega | (simp only [LN]; omega))) only [go_sem, ↓reduceIte, seval, h1, hx, Nat.zero_add, Option.getD_none]) | ((with_reducible refine hK _ ?_); clear hK K) | (with_reducible first | refine qA ?_ | refine qB ?_ | refine qC ?_ | refine qD ?_ | refine qE ?_ | refine qF ?_ | refine qL ?_ | refine qM ?_ | refine qN ?_ | refine qO ?_ | refine qQ ?_) | refine qR rfl ?_ | (with_reducible refine AI ?_) | ((with_reducible refine qW (T := TT) (b := ?_) ?_ ?_); rotate_left; exact rfl) | (with_reducible first | refine qX ?_ | refine qY ?_ | refine qZ ?_) | (with_reducible first | refine qI ?_ | refine qIx ?_ | fail) | ((with_reducible refine yS ?_ ?_) <;> (intro h; try simp only [NM] at h)))
      refine ⟨⟨k + 1, by omega, fun _ => h1, by omega⟩, by simp only; omega, ?_⟩
      refine St.le_mk ?_ ?_ ?_ <;> simp only [LE, EN, Nat.reduceEqDiff, reduceIte, Nat.reduceSub, eSch]
    · have spec : diffE s a b = (confE s a, []) := by simp [diffE, h0, h1]
      rw [spec]
      repeat' (first | ((first | with_reducible refine qV tyOk fun K hK => ?_ | (with_reducible first | refine qG ?_ | refine qH ?_ | refine qP ?_ | refine qGx ?_ | refine qHx ?_ | refine qPx ?_) | ((with_reducible first | refine qS ?_ ?_ | refine qT ?_ ?_ | refine qU ?_ ?_) <;> (intro h; try simp only [NM] at h)) | ((with_reducible refine CallJ.is ?_); (first | refine CallJ.pure (conforms_sat s a Ba ha.1) ?_ | ((apply CallJ.lentI); (focus (simp -dsimp (disch := (first | omega | (simp only [LN]; omega))) only [go_sem, ↓reduceIte, seval, h1, hx, Nat.zero_add, Option.getD_none]; rfl)); (focus (first | exact (conforms_sat s a Ba ha.1)))))) | ((with_reducible refine CallH.is ?_); (first | refine CallH.intro (conforms_sat s a Ba ha.1) ?_))) <;> simp -dsimp (disch := (first | omega | (simp only [LN]; omega))) only [go_sem, ↓reduceIte, seval, h1, hx, Nat.zero_add, Option.getD_none]) | ((with_reducible refine hK _ ?_); clear hK K) | (with_reducible first | refine qA ?_ | refine qB ?_ | refine qC ?_ | refine qD ?_ | refine qE ?_ | refine qF ?_ | refine qL ?_ | refine qM ?_ | refine qN ?_ | refine qO ?_ | refine qQ ?_) | refine qR rfl ?_ | (with_reducible refine AI ?_) | ((with_reducible refine qW (T := TT) (b := ?_) ?_ ?_); rotate_left; exact rfl) | (with_reducible first | refine qX ?_ | refine qY ?_ | refine qZ ?_) | (with_reducible first | refine qI ?_ | refine qIx ?_ | fail) | ((with_reducible refine yS ?_ ?_) <;> (intro h; try simp only [NM] at h)))
      simp -dsimp (disch := (first | omega | (simp only [LN]; omega))) only [retQ, Tryz.results6, resVals, cellRV, resOf, St.rest, St.freeze, RT, go_sem, ↓reduceIte, seval]
  · have hx : ([[L.sl 2 (a.map eRel)], [L.sl 2 (b.map eRel)]] : List (List L)).getD k [] = [L.sl 2 (b.map eRel)] := by rw [hk]; rfl
    have h1 := g1 (by omega)
    by_cases h2 : confE s b = 0
    · repeat' (first | ((first | with_reducible refine qV tyOk fun K hK => ?_ | (with_reducible first | refine qG ?_ | refine qH ?_ | refine qP ?_ | refine qGx ?_ | refine qHx ?_ | refine qPx ?_) | ((with_reducible first | refine qS ?_ ?_ | refine qT ?_ ?_ | refine qU ?_ ?_) <;> (intro h; try simp only [NM] at h)) | ((with_reducible refine CallJ.is ?_); (first | refine CallJ.pure (conforms_sat s b Bb hb.1) ?_ | ((apply CallJ.lentI); (focus (simp -dsimp (disch := (first | omega | (simp only [LN]; omega))) only [go_sem, ↓reduceIte, seval, h2, hx, Nat.zero_add, Option.getD_none]; rfl)); (focus (first | exact (conforms_sat s b Bb hb.1)))))) | ((with_reducible refine CallH.is ?_); (first | refine CallH.intro (conforms_sat s b Bb hb.1) ?_))) <;> simp -dsimp (disch := (first | omega | (simp only [LN]; omega))) only [go_sem, ↓reduceIte, seval, h2, hx, Nat.zero_add, Option.getD_none]) | ((with_reducible refine hK _ ?_); clear hK K) | (with_reducible first | refine qA ?_ | refine qB ?_ | refine qC ?_ | refine qD ?_ | refine qE ?_ | refine qF ?_ | refine qL ?_ | refine qM ?_ | refine qN ?_ | refine qO ?_ | refine qQ ?_) | refine qR rfl ?_ | (with_reducible refine AI ?_) | ((with_reducible refine qW (T := TT) (b := ?_) ?_ ?_); rotate_left; exact rfl) | (with_reducible first | refine qX ?_ | refine qY ?_ | refine qZ ?_) | (with_reducible first | refine qI ?_ | refine qIx ?_ | fail) | ((with_reducible refine yS ?_ ?_) <;> (intro h; try simp only [NM] at h)))
      refine ⟨⟨k + 1, by omega, fun _ => h1, fun _ => h2⟩, by simp only; omega, ?_⟩
      refine St.le_mk ?_ ?_ ?_ <;> simp only [LE, EN, Nat.reduceEqDiff, reduceIte, Nat.reduceSub, eSch]
    · have spec : diffE s a b = (confE s b, []) := by simp [diffE, h0, h1, h2]
      rw [spec]
      repeat' (first | ((first | with_reducible refine qV tyOk fun K hK => ?_ | (with_reducible first | refine qG ?_ | refine qH ?_ | refine qP ?_ | refine qGx ?_ | refine qHx ?_ | refine qPx ?_) | ((with_reducible first | refine qS ?_ ?_ | refine qT ?_ ?_ | refine qU ?_ ?_) <;> (intro h; try simp only [NM] at h)) | ((with_reducible refine CallJ.is ?_); (first | refine CallJ.pure (conforms_sat s b Bb hb.1) ?_ | ((apply CallJ.lentI); (focus (simp -dsimp (disch := (first | omega | (simp only [LN]; omega))) only [go_sem, ↓reduceIte, seval, h2, hx, Nat.zero_add, Option.getD_none]; rfl)); (focus (first | exact (conforms_sat s b Bb hb.1)))))) | ((with_reducible refine CallH.is ?_); (first | refine CallH.intro (conforms_sat s b Bb hb.1) ?_))) <;> simp -dsimp (disch := (first | omega | (simp only [LN]; omega))) only [go_sem, ↓reduceIte, seval, h2, hx, Nat.zero_add, Option.getD_none]) | ((with_reducible refine hK _ ?_); clear hK K) | (with_reducible first | refine qA ?_ | refine qB ?_ | refine qC ?_ | refine qD ?_ | refine qE ?_ | refine qF ?_ | refine qL ?_ | refine qM ?_ | refine qN ?_ | refine qO ?_ | refine qQ ?_) | refine qR rfl ?_ | (with_reducible refine AI ?_) | ((with_reducible refine qW (T := TT) (b := ?_) ?_ ?_); rotate_left; exact rfl) | (with_reducible first | refine qX ?_ | refine qY ?_ | refine qZ ?_) | (with_reducible first | refine qI ?_ | refine qIx ?_ | fail) | ((with_reducible refine yS ?_ ?_) <;> (intro h; try simp only [NM] at h)))
      simp -dsimp (disch := (first | omega | (simp only [LN]; omega))) only [retQ, Tryz.results6, resVals, cellRV, resOf, St.rest, St.freeze, RT, go_sem, ↓reduceIte, seval]
  · have h1 := g1 (by omega)
    have h2 := g2 (by omega)
    have spec : diffE s a b = (0, diffK s a b s.tables.length) := by simp [diffE, h0, h1, h2]
    rw [spec]
    obtain ⟨la, _⟩ := (confE_zero s a).1 h1
    obtain ⟨lb, _⟩ := (confE_zero s b).1 h2
    have Ca := bounds_of Ba h1
    have Cb := bounds_of Bb h2
    repeat' (first | ((first | with_reducible refine qV tyOk fun K hK => ?_ | (with_reducible first | refine qG ?_ | refine qH ?_ | refine qP ?_ | refine qGx ?_ | refine qHx ?_ | refine qPx ?_) | ((with_reducible first | refine qS ?_ ?_ | refine qT ?_ ?_ | refine qU ?_ ?_) <;> (intro h; try simp only [NM] at h))) <;> simp -dsimp (disch := (first | omega | (simp only [LN]; omega))) only [go_sem, ↓reduceIte, seval]) | ((with_reducible refine hK _ ?_); clear hK K) | (with_reducible first | refine qA ?_ | refine qB ?_ | refine qC ?_ | refine qD ?_ | refine qE ?_ | refine qF ?_ | refine qL ?_ | refine qM ?_ | refine qN ?_ | refine qO ?_ | refine qQ ?_) | refine qR rfl ?_ | (with_reducible refine AI ?_) | ((with_reducible refine qW (T := TT) (b := ?_) ?_ ?_); rotate_left; exact rfl) | (with_reducible first | refine qX ?_ | refine qY ?_ | refine qZ ?_) | (with_reducible first | refine qI ?_ | refine qIx ?_ | fail) | ((with_reducible refine yS ?_ ?_) <;> (intro h; try simp only [NM] at h)))
    refine AWP.loop (ι := {k : Nat // k ≤ s.tables.length}) (fun k => ⟨59, [(1, .v (.one (eInst a))), (2, .v (.one (eInst b))), (3, .v (.one (.ptr 3 0))), (12, .v (.one (.ref 12 0 (diffK s a b k.1).length))), (36, .v (.one (eTbls s.tables))), (37, .v (oI s.tables.length)), (38, .v (oI k.1))], [(3, eSch s)], [(12, ⟨4, (diffK s a b k.1).map eChg, []⟩)]⟩) (fun k => s.tables.length - k.1) ⟨0, by omega⟩ ?_ fun ⟨k, hkl⟩ => ?_
    · refine St.le_mk ?_ ?_ ?_ <;> simp only [LE, EN, Nat.reduceEqDiff, reduceIte, Nat.reduceSub, eSch, diffK_zero, List.length_nil, List.map_nil]
    simp only
    rcases Nat.lt_or_ge k s.tables.length with hc | hc
    · have hka : k < a.length := by omega
      have hkb : k < b.length := by omega
      obtain ⟨r1, r2⟩ := Ca.rel a[k] (List.getElem_mem hka)
      obtain ⟨r3, r4⟩ := Cb.rel b[k] (List.getElem_mem hkb)
      have hpk := (sm.table _ (List.getElem_mem hc)).2
      have el := diffK_length h1 h2 k hkl
      have el2 := diffR_length s.tables[k] a[k].rows b[k].rows
      have n1 := (conf_rel h1 (k := k) hka).n24
      have n2 := (conf_rel h2 (k := k) hkb).n24
      have ea : a.getD k zRel = a[k] := getD_lt _ hka
      have eb : b.getD k zRel = b[k] := getD_lt _ hkb
      have et : s.tables.getD k zTbl = s.tables[k] := getD_lt _ hc
      have es := diffK_succ s a b k
      rw [ea, eb, et] at es
      rw [ea] at n1
      rw [eb] at n2
      repeat' (first | ((first | with_reducible refine qV tyOk fun K hK => ?_ | (with_reducible first | refine qG ?_ | refine qH ?_ | refine qP ?_ | refine qGx ?_ | refine qHx ?_ | refine qPx ?_) | ((with_reducible first | refine qS ?_ ?_ | refine qT ?_ ?_ | refine qU ?_ ?_) <;> (intro h; try simp only [NM] at h))) <;> simp -dsimp (disch := (first | omega | (simp only [LN]; omega))) only [go_sem, ↓reduceIte, seval]) | ((with_reducible refine hK _ ?_); clear hK K) | (with_reducible first | refine qA ?_ | refine qB ?_ | refine qC ?_ | refine qD ?_ | refine qE ?_ | refine qF ?_ | refine qL ?_ | refine qM ?_ | refine qN ?_ | refine qO ?_ | refine qQ ?_) | refine qR rfl ?_ | (with_reducible refine AI ?_) | ((with_reducible refine qW (T := TT) (b := ?_) ?_ ?_); rotate_left; exact rfl) | (with_reducible first | refine qX ?_ | refine qY ?_ | refine qZ ?_) | (with_reducible first | refine qI ?_ | refine qIx ?_ | fail) | ((with_reducible refine yS ?_ ?_) <;> (intro h; try simp only [NM] at h)))
      refine AWP.drawX tyOk mixed [(0, 12)] [(12, [], [(0, 1)]), (13, [], []), (14, [], [])] [12, 13, 14] 8 (by decide) (by kernel_rfl) (by kernel_rfl) (by kernel_rfl) (by kernel_rfl) fun K hK => ?_
      simp only [segx_nil, segx_cons, segs, List.drop_succ_cons, List.drop_zero, List.take_succ_cons, List.take_zero, List.getElem?_cons_zero, List.getElem?_cons_succ, List.cons_append, List.nil_append, List.append_nil] at hK ⊢
      simp -dsimp (disch := (first | omega | (simp only [LN]; omega))) only [go_sem, ↓reduceIte, seval, Option.getD_none]
      repeat' (first | ((first | with_reducible refine qV tyOk fun K hK => ?_ | (with_reducible first | refine qG ?_ | refine qH ?_ | refine qP ?_ | refine qGx ?_ | refine qHx ?_ | refine qPx ?_) | ((with_reducible first | refine qS ?_ ?_ | refine qT ?_ ?_ | refine qU ?_ ?_) <;> (intro h; try simp only [NM] at h)) | ((with_reducible refine CallJ.is ?_); (first | refine CallJ.pure (diffRows_sat s.tables[k] a[k].rows b[k].rows (by omega) (by omega) (by omega) r4 r2) ?_ | ((apply CallJ.lentI); (focus (simp -dsimp (disch := (first | omega | (simp only [LN]; omega))) only [go_sem, ↓reduceIte, seval, Option.getD_none]; rfl)); (focus (first | exact (diffRows_sat s.tables[k] a[k].rows b[k].rows (by omega) (by omega) (by omega) r4 r2)))))) | ((with_reducible refine CallH.is ?_); (first | refine CallH.intro (diffRows_sat s.tables[k] a[k].rows b[k].rows (by omega) (by omega) (by omega) r4 r2) ?_))) <;> simp -dsimp (disch := (first | omega | (simp only [LN]; omega))) only [go_sem, ↓reduceIte, seval, Option.getD_none]) | ((with_reducible refine hK _ ?_); clear hK K) | (with_reducible first | refine qA ?_ | refine qB ?_ | refine qC ?_ | refine qD ?_ | refine qE ?_ | refine qF ?_ | refine qL ?_ | refine qM ?_ | refine qN ?_ | refine qO ?_ | refine qQ ?_) | refine qR rfl ?_ | ((with_reducible refine VCy.intro fun K0 hK0 => ?_)) | ((with_reducible refine VCy.fin ?_); (refine hK0 _ ?_); clear hK0 K0) | (with_reducible first | refine VCy.quiet ?_ | refine VCy.none ?_) | ((with_reducible first | refine VCy.some fun K hK => ?_ | refine VCy.step fun K hK => ?_); simp -dsimp (disch := (first | omega | (simp only [LN]; omega))) only [go_sem, ↓reduceIte, seval, Option.getD_none]) | ((with_reducible refine VCy.keep ?_ ?_); focus ((simp -dsimp (disch := (first | omega | (simp only [LN]; omega))) only [go_sem, ↓reduceIte, seval, Stable_cons, Stable_nil, sameA_some, sameA_none, Option.getD_none]); first | done | with_reducible assumption | omega | (repeat' with_reducible refine And.intro ?_ ?_) <;> first | with_reducible rfl | with_reducible assumption | omega)) | (with_reducible refine AI ?_) | ((with_reducible refine qW (T := TT) (b := ?_) ?_ ?_); rotate_left; exact rfl) | (with_reducible first | refine qX ?_ | refine qY ?_ | refine qZ ?_) | (with_reducible first | refine qI ?_ | refine qIx ?_ | fail) | ((with_reducible refine yS ?_ ?_) <;> (intro h; try simp only [NM] at h)))
      refine ⟨⟨k + 1, by omega⟩, by simp only; omega, ?_⟩
      refine St.le_mk ?_ ?_ ?_ <;> simp only [LE, EN, Nat.reduceEqDiff, reduceIte, Nat.reduceSub, eSch, es, List.map_append, List.length_append]
    · have hk : k = s.tables.length := by omega
      subst hk
      repeat' (first | ((first | with_reducible refine qV tyOk fun K hK => ?_ | (with_reducible first | refine qG ?_ | refine qH ?_ | refine qP ?_ | refine qGx ?_ | refine qHx ?_ | refine qPx ?_) | ((with_reducible first | refine qS ?_ ?_ | refine qT ?_ ?_ | refine qU ?_ ?_) <;> (intro h; try simp only [NM] at h))) <;> simp -dsimp (disch := (first | omega | (simp only [LN]; omega))) only [go_sem, ↓reduceIte, seval]) | ((with_reducible refine hK _ ?_); clear hK K) | (with_reducible first | refine qA ?_ | refine qB ?_ | refine qC ?_ | refine qD ?_ | refine qE ?_ | refine qF ?_ | refine qL ?_ | refine qM ?_ | refine qN ?_ | refine qO ?_ | refine qQ ?_) | refine qR rfl ?_ | (with_reducible refine AI ?_) | ((with_reducible refine qW (T := TT) (b := ?_) ?_ ?_); rotate_left; exact rfl) | (with_reducible first | refine qX ?_ | refine qY ?_ | refine qZ ?_) | (with_reducible first | refine qI ?_ | refine qIx ?_ | fail) | ((with_reducible refine yS ?_ ?_) <;> (intro h; try simp only [NM] at h)))
      simp -dsimp (disch := (first | omega | (simp only [LN]; omega))) only [retQ, Tryz.results6, resVals, cellRV, resOf, St.rest, St.freeze, RT, go_sem, ↓reduceIte, seval]

theorem diffR_mem {t : Tbl} {a b : List Row} {c : Chg} (h : c ∈ diffR t a b) : (∃ x ∈ a, c = ⟨2, t.name, keyOf t.pk x, []⟩) ∨ ∃ y ∈ b, c = ⟨1, t.name, [], y⟩ := by
  fun_induction diffR t a b with
  | case1 => cases h
  | case2 y b ih =>
    rcases List.mem_cons.1 h with rfl | h
    · exact .inr ⟨y, by simp, rfl⟩
    · rcases ih h with ⟨x, hx, _⟩ | ⟨z, hz, e⟩
      · cases hx
      · exact .inr ⟨z, by simp [hz], e⟩
  | case3 x a ih =>
    rcases List.mem_cons.1 h with rfl | h
    · exact .inl ⟨x, by simp, rfl⟩
    · rcases ih h with ⟨z, hz, e⟩ | ⟨z, hz, _⟩
      · exact .inl ⟨z, by simp [hz], e⟩
      · cases hz
  | case4 x a y b h1 ih =>
    rcases List.mem_cons.1 h with rfl | h
    · exact .inl ⟨x, by simp, rfl⟩
    · rcases ih h with ⟨z, hz, e⟩ | ⟨z, hz, e⟩
      · exact .inl ⟨z, by simp [hz], e⟩
      · exact .inr ⟨z, hz, e⟩
  | case5 x a y b h1 h2 ih =>
    rcases List.mem_cons.1 h with rfl | h
    · exact .inr ⟨y, by simp, rfl⟩
    · rcases ih h with ⟨z, hz, e⟩ | ⟨z, hz, e⟩
      · exact .inl ⟨z, hz, e⟩
      · exact .inr ⟨z, by simp [hz], e⟩
  | case6 x a y b h1 h2 ih =>
    rcases List.mem_append.1 h with h | h
    · split at h
      · cases h
      · rw [List.mem_singleton.1 h]
        exact .inr ⟨y, by simp, rfl⟩
    · rcases ih h with ⟨z, hz, e⟩ | ⟨z, hz, e⟩
      · exact .inl ⟨z, by simp [hz], e⟩
      · exact .inr ⟨z, by simp [hz], e⟩
theorem diffK_fits {s : Sch} {a b : Inst} (sm : Small s) (ha : confE s a = 0) (hb : confE s b = 0) : ChgsFit (diffK s a b s.tables.length) := by
  have h1 := diffK_length ha hb s.tables.length (Nat.le_refl _)
  have h2 := sm.tables
  refine ⟨by omega, fun c hc => ?_⟩
  unfold diffK at hc
  obtain ⟨k, hk, hc⟩ := List.mem_flatMap.1 hc
  have hk := List.mem_range.1 hk
  have et : s.tables.getD k zTbl = s.tables[k] := getD_lt _ hk
  obtain ⟨lb, _⟩ := (confE_zero s b).1 hb
  have hkb : k < b.length := by omega
  have eb : b.getD k zRel = b[k] := getD_lt _ hkb
  have := (sm.table _ (List.getElem_mem hk)).2
  rcases diffR_mem hc with ⟨x, _, rfl⟩ | ⟨y, hy, rfl⟩
  · rw [et]
    simp only [keyOf_length, List.length_nil]
    omega
  · rw [eb] at hy
    have := (confFits sm hb b[k] (List.getElem_mem hkb)).2 y hy
    simp only [List.length_nil]
    omega

section
open Go.RowKit
section
variable {P : Program} {T : TypeId → Option TI} {w0 : World} {m0 : Mem} {F0 : Home} {s s' : St} {a : Act} {w w' : World} {m : Mem} {ω : Wh}

theorem ERep.whf {m : Mem} {ω : Wh} (f : Bool → Nat → Nat → Prop) {v : Value} {l : L} (h : ERep m ω v l) : ERep m { ω with f := f } v l := by
  cases l <;> exact h
theorem VRep.whf {m : Mem} {ω : Wh} (f : Bool → Nat → Nat → Prop) {v : Value} {x : V} (h : VRep m ω v x) : VRep m { ω with f := f } v x := by
  cases x with
  | one l => exact ERep.whf f h
  | agg ls => obtain ⟨cs, h1, h2, h3⟩ := h; exact ⟨cs, h1, h2, fun j l hl => let ⟨u, h4, h5⟩ := h3 j l hl; ⟨u, h4, h5.whf f⟩⟩
theorem ARep.whf {m : Mem} {ω : Wh} (f : Bool → Nat → Nat → Prop) {v : Value} {x : A} (h : ARep m ω v x) : ARep m { ω with f := f } v x := by
  cases x with
  | v x => exact VRep.whf f h
  | tup xs => obtain ⟨vs, h1, h2, h3⟩ := h; exact ⟨vs, h1, h2, fun j x hx => let ⟨u, h4, h5⟩ := h3 j x hx; ⟨u, h4, h5.whf f⟩⟩
theorem XRep.whf {m : Mem} {w : World} {ω : Wh} (f : Bool → Nat → Nat → Prop) {G : Nat → Prop} {v : Value} {l : L} (h : XRep m w ω G v l) : XRep m w { ω with f := f } G v l := by
  rcases h.cases with ⟨sz, xs, rfl, h⟩ | ⟨_, h⟩ | ⟨t, q, rfl, h⟩
  · exact h
  · exact (h.whf f).xrep
  · exact h
theorem RCell.whf {m : Mem} {w : World} {ω : Wh} (f : Bool → Nat → Nat → Prop) {G : Nat → Prop} {v : Value} {u : L} {o : Option L} (h : RCell m w ω G v u o) : RCell m w { ω with f := f } G v u o := by
  cases o with
  | none => exact h
  | some l => exact ERep.whf (ω := ω) f h
theorem CI.boxGrow (h : CI P w0 m0 F0 s a w m ω) {id : Nat} {ls0 ls : List L} (hb : look s.box id = some ls0)
    (hos : w'.os = w.os) (htp : w'.tape = w.tape) (hout : w'.output = w.output) (hsz : w.heap.size ≤ w'.heap.size) (hk : ∀ k, k < w.heap.size → ¬ ω.f false id k → w'.heap[k]? = w.heap[k]?)
    {cs : Array Value} {e : TypeId} (hh : w'.heap[ω.box id]? = some (.cells cs e (0, 0))) (hs : cs.size = ls.length) (G : Nat → Nat → Prop)
    (hG : ∀ j k, G j k → (ω.f false id k ∨ (w.heap.size ≤ k ∧ k < w'.heap.size)) ∧ k ≠ ω.box id) (hD : ∀ j j' k, G j k → G j' k → j = j')
    (hc : ∀ (j : Nat) (l : L), ls[j]? = some l → ∃ v, cs[j]? = some v ∧ XRep m w' ω (G j) v l) :
    ∃ ω', CI P w0 m0 F0 { s with box := sput id ls s.box } a w' m ω' ∧ ω'.box = ω.box ∧ ω'.row = ω.row := by
  obtain ⟨cs0, e0, g1, g2, g3, _⟩ := h.box id ls0 hb
  have hlive : s.live false id := by show (look s.box id).isSome; rw [hb]; rfl
  have hf := h.fresh false id hlive
  have hl' : ∀ κ i, ({ s with box := sput id ls s.box } : St).live κ i → s.live κ i := by
    intro κ i hl
    cases κ with
    | true => exact hl
    | false =>
      simp only [St.live] at hl ⊢
      rw [look_sput] at hl
      split at hl
      · rename_i e; subst e; rw [hb]; rfl
      · exact hl
  let f' : Bool → Nat → Nat → Prop := fun κ i k => ω.f κ i k ∨ (κ = false ∧ i = id ∧ w.heap.size ≤ k ∧ k < w'.heap.size)
  have hlt : ∀ κ i, s.live κ i → ∀ k, ω.f κ i k → k < w.heap.size := fun κ i hl k hk => (h.fresh κ i hl k hk).1
  have hf' : ∀ κ i, ¬ (κ = false ∧ i = id) → f' κ i = ω.f κ i := fun κ i hn => by
    funext k
    simp only [f', eq_iff_iff]
    exact ⟨fun h => h.elim (fun h => h) fun h => absurd ⟨h.1, h.2.1⟩ hn, fun h => .inl h⟩
  refine ⟨{ ω with f := f' }, ?_, rfl, rfl⟩
  refine { size := h.size, defers := h.defers, keeps := ⟨hos.trans h.keeps.os, htp.trans h.keeps.tape, hout.trans h.keeps.output, Nat.le_trans h.keeps.size hsz, fun k h1 h2 => ?_⟩, mle := h.mle, mold := h.mold, ok := fun x v hx => ?_, env := fun t x hx => (h.env t x hx).whf f', box := ?_, row := ?_, fresh := ?_, apart := ?_, home := ⟨h.home.big, fun i b hb' hi => h.home.box i b hb' (hl' false i hi), h.home.row⟩, good := h.good }
  · have hk1 : k < w.heap.size := Nat.lt_of_lt_of_le h1 h.keeps.size
    rw [hk k hk1 fun hw => by
      rcases (hf k hw).2.1 with h3 | h3
      · omega
      · exact h2 h3]
    exact h.keeps.block k h1 h2
  · have hx' := h.ok x v hx
    rw [World.cell?_of_block (hk x.block (World.block_lt_of_cell? w x hx') fun hw => (hf _ hw).2.2 x v hx rfl)]
    exact hx'
  · intro i l hi
    simp only at hi
    rw [look_sput] at hi
    split at hi
    · rename_i e'
      injection hi with hi
      subst hi; subst e'
      exact ⟨cs, e, hh, hs, .inl g3, G, fun j k hj => ⟨(hG j k hj).1.imp (fun q => q) fun q => ⟨rfl, rfl, q.1, q.2⟩, (hG j k hj).2⟩, hD, fun j l hj => let ⟨v, h1, h2⟩ := hc j l hj; ⟨v, h1, h2.whf f'⟩⟩
    · rename_i hne
      obtain ⟨cs1, e1, k1, k2, k3, G1, k4, k5, k6⟩ := h.box i l hi
      have hli : s.live false i := by show (look s.box i).isSome; rw [hi]; rfl
      have keep : ∀ k, ω.f false i k → w'.heap[k]? = w.heap[k]? := fun k hw => hk k (hlt _ _ hli k hw) fun hw' => hne (h.apart _ _ _ _ hli hlive k hw hw').2
      refine ⟨cs1, e1, (keep _ k3).trans k1, k2, .inl k3, G1, fun j k hj => ⟨.inl (k4 j k hj).1, (k4 j k hj).2⟩, k5, fun j u hj => ?_⟩
      obtain ⟨v, q1, q2⟩ := k6 j u hj
      exact ⟨v, q1, (q2.keep (Mem.le_refl m) fun k hw => keep k (k4 j k hw).1).whf f'⟩
  · intro i r hi
    have hli : s.live true i := by show (look s.row i).isSome; rw [hi]; rfl
    have keep : ∀ k, ω.f true i k → w'.heap[k]? = w.heap[k]? := fun k hw => hk k (hlt _ _ hli k hw) fun hw' => by cases (h.apart _ _ _ _ hli hlive k hw hw').1
    obtain ⟨q1, q2, q3⟩ := h.row i r hi
    refine ⟨q1, q2, ?_⟩
    revert q3
    show (match (ω.row i).blk with | Option.none => _ | some b => _) → (match (ω.row i).blk with | Option.none => _ | some b => _)
    cases hblk : (ω.row i).blk with
    | none => exact fun q3 => q3
    | some b =>
      intro q3
      obtain ⟨cs1, e1, k1, k2, k3, k4, k5, G1, k6, k7, k8⟩ := q3
      refine ⟨cs1, e1, (keep _ k5).trans k1, k2, k3, k4, .inl k5, G1, fun i' j k hj => ⟨.inl (k6 i' j k hj).1, (k6 i' j k hj).2⟩, k7, fun i' j u hj => ?_⟩
      obtain ⟨v, p1, p2⟩ := k8 i' j u hj
      exact ⟨v, p1, (p2.keep (Mem.le_refl m) fun k hw => keep k (k6 i' j k hw).1).whf f'⟩
  · intro κ i hl k hw
    rcases hw with hw | ⟨rfl, rfl, h1, h2⟩
    · obtain ⟨p1, p2, p3⟩ := h.fresh κ i (hl' κ i hl) k hw
      exact ⟨Nat.lt_of_lt_of_le p1 hsz, p2, p3⟩
    · refine ⟨h2, .inl (Nat.le_trans h.keeps.size h1), fun x v hx e => ?_⟩
      have := World.block_lt_of_cell? w x (h.ok x v hx)
      omega
  · intro κ i κ' i' hl hl2 k hw hw'
    have l1 := hl' κ i hl
    have l2 := hl' κ' i' hl2
    rcases hw with hw | ⟨rfl, rfl, h1, h2⟩ <;> rcases hw' with hw' | ⟨rfl, rfl, h3, h4⟩
    · exact h.apart κ i κ' i' l1 l2 k hw hw'
    · have := hlt _ _ l1 k hw; omega
    · have := hlt _ _ l2 k hw'; omega
    · exact ⟨rfl, rfl⟩
end
end

section
open Go.Proofs Go.RowKit Go.Shelf

abbrev tB : TypeId := 5
theorem bytesAt_of {w : World} {G : Nat → Prop} {v : Value} {t : TypeId} {l : List UInt8} (h : ByT w G v t l) : BytesAt w t v l.length (Lib.byteCells l) := by
  refine ⟨Lib.byteCells_length l, ?_⟩
  rcases h with ⟨rfl, rfl⟩ | ⟨g, cap, cur, _, h1, h2, h3, h4, h5, h6⟩
  · exact .inl ⟨rfl, rfl⟩
  · exact .inr ⟨g, cap, cur, h1, h2, h3, h4, h5, h6⟩
theorem byT_own {w : World} {G : Nat → Prop} {v : Value} {t : TypeId} {l : List UInt8} (h : ByT w G v t l) {k : Nat} (hk : v.ownBlock = some k) : G k := by
  rcases h with ⟨rfl, rfl⟩ | ⟨g, cap, cur, h0, rfl, _⟩
  · cases hk
  · simp only [Value.ownBlock, Option.some.injEq] at hk
    exact hk ▸ h0
theorem byT_of {w : World} {v : Value} {t : TypeId} {l : List UInt8} {n : Nat} (h : BytesAt w t v n (Lib.byteCells l)) : ByT w (fun k => v.ownBlock = some k) v t l := by
  have hn : l.length = n := (Lib.byteCells_length l).symm.trans h.1
  subst hn
  rcases h.2 with ⟨rfl, h0⟩ | ⟨g, cap, cur, rfl, h2, h3, h4, h5, h6⟩
  · exact .inl ⟨List.eq_nil_of_length_eq_zero h0, rfl⟩
  · exact .inr ⟨g, cap, cur, rfl, rfl, h2, h3, h4, h5, h6⟩
theorem erep_str' {m : Mem} {ω : Wh} {v : Value} {s : ByteArray} (h : ERep m ω v (.str s)) : v = .string s := by
  have h : Rep m v (.str s) := h
  cases h; rfl
theorem ws_call {P : Program} {f : FuncId} {fn : Func} {c : Code} {args : Array Value} {w : World} {R : Value → World → Prop} (hf : P.funcs[f]? = some fn) (hb : fn.body = some c) (hn : (fn.name == "runtime.NumGoroutine") = false)
    (h : Calls P f args w fun e w' => ∃ v, e = .returned v ∧ R v w') : CallsR P f args w R := by
  refine .inr ⟨?_, h⟩
  simp only [callFunc, Sem.run_bind, program, Sem.run, Result.andThen_ok, hf]
  rw [hn, hb]
  simp
theorem args2 {m : Mem} {ω : Wh} {vs : List Value} {x y : L} (hA : ArgsRep m ω vs [.one x, .one y]) : ∃ a b, vs = [a, b] ∧ ERep m ω a x ∧ ERep m ω b y := by
  obtain ⟨h1, h2⟩ := hA
  match vs, h1 with
  | [a, b], _ =>
    obtain ⟨a', ha, ha'⟩ := h2 0 _ rfl
    obtain ⟨b', hb, hb'⟩ := h2 1 _ rfl
    simp only [List.getElem?_cons_zero, List.getElem?_cons_succ, Option.some.injEq] at ha hb
    subst ha; subst hb
    exact ⟨_, _, rfl, ha', hb'⟩
theorem bld_box {m : Mem} {w : World} {ω : Wh} {id : Nat} {c : L} {t : TypeId} {l : List UInt8} (h : BoxRep m w ω id [c, .byt t l]) :
    ∃ p v e, w.heap[ω.box id]? = some (.cells #[p, v] e (0, 0)) ∧ ω.f false id (ω.box id) ∧ (∃ G0, XRep m w ω G0 p c) ∧ BytesAt w t v l.length (Lib.byteCells l) ∧ v.ownBlock ≠ some (ω.box id) ∧ ∀ k, v.ownBlock = some k → ω.f false id k := by
  obtain ⟨cs, e, h1, h2, h3, G, h4, h5, h6⟩ := h
  obtain ⟨p, hp, xp⟩ := h6 0 c rfl
  obtain ⟨v, hv, xv⟩ := h6 1 (.byt t l) rfl
  have hcs : cs = #[p, v] := by
    obtain ⟨L⟩ := cs
    match L, h2 with
    | [a, b], _ =>
      simp only [List.getElem?_toArray, List.getElem?_cons_zero, List.getElem?_cons_succ, Option.some.injEq] at hp hv
      rw [hp, hv]
  subst hcs
  have xv : ByT w (G 1) v t l := xv
  exact ⟨p, v, e, h1, h3, ⟨_, xp⟩, bytesAt_of xv, fun e' => (h4 1 _ (byT_own xv e')).2 rfl, fun k hk => (h4 1 k (byT_own xv hk)).1⟩
theorem bld_after {P : Program} {w0 : World} {m0 : Mem} {F0 : Home} {s : St} {a : Act} {w w' : World} {m : Mem} {ω : Wh} {id : Nat} {ls0 : List L} {t e : TypeId} {l : List UInt8} {n : Nat} {v v' : Value}
    (h : CI P w0 m0 F0 s a w m ω) (hb : look s.box id = some ls0) (hf : ω.f false id (ω.box id)) (ho : ∀ k, v.ownBlock = some k → ω.f false id k)
    (h1 : w'.heap[ω.box id]? = some (.cells #[.pointer (some ⟨ω.box id, 0, none⟩), v'] e (0, 0))) (h2 : BytesAt w' t v' n (Lib.byteCells l)) (h3 : v'.ownBlock ≠ some (ω.box id)) (h4 : Moved w w' v v') (h5 : KeptBut (fun k => k = ω.box id ∨ v.ownBlock = some k) w w') :
    ∃ ω', CI P w0 m0 F0 { s with box := sput id [.ptr id 0, .byt t l] s.box } a w' m ω' ∧ ω'.box = ω.box ∧ ω'.row = ω.row := by
  refine h.boxGrow hb h5.os h5.tape h5.output h5.size (fun k hk hn => h5.block k hk ?_) h1 rfl (fun j k => j = 1 ∧ v'.ownBlock = some k) (fun j k hj => ⟨?_, fun e' => h3 (e' ▸ hj.2)⟩) (fun j j' k hj hj' => hj.1.trans hj'.1.symm) fun j x hx => ?_
  · rintro (rfl | hk2)
    · exact hn hf
    · exact hn (ho k hk2)
  · rcases h4 with h4 | ⟨k', h6, h7, h8⟩
    · exact .inl (ho k (h4 ▸ hj.2))
    · rw [h6] at hj
      obtain ⟨_, hj⟩ := hj
      injection hj with hj
      subst hj
      exact .inr ⟨h7, h8⟩
  · match j, hx with
    | 0, hx =>
      simp only [List.getElem?_cons_zero, Option.some.injEq] at hx
      subst hx
      exact ⟨_, rfl, rfl⟩
    | 1, hx =>
      simp only [List.getElem?_cons_succ, List.getElem?_cons_zero, Option.some.injEq] at hx
      subst hx
      refine ⟨_, rfl, ?_⟩
      have q := byT_of h2
      show ByT w' (fun k => 1 = 1 ∧ v'.ownBlock = some k) v' t l
      refine q.imp (fun q => q) fun ⟨g, cap, cur, q1, q2⟩ => ⟨g, cap, cur, ⟨rfl, q1⟩, q2⟩
    | k + 2, hx => simp at hx
theorem strCells_bytes (s : ByteArray) : Lib.strCells s = Lib.byteCells s.data.toList := rfl
theorem byteCells_app (a b : List UInt8) : Lib.byteCells a ++ Lib.byteCells b = Lib.byteCells (a ++ b) := by simp [Lib.byteCells]
theorem arep_ws {m : Mem} {ω : Wh} (n : Int) : ARep m ω (.tuple #[.int .i64 n, .nilIface]) (.tup [.one (.int .i64 n), .one .any]) := by
  refine ⟨_, rfl, rfl, fun j x hx => ?_⟩
  match j, hx with
  | 0, hx =>
    simp only [List.getElem?_cons_zero, Option.some.injEq] at hx
    subst hx
    exact ⟨_, rfl, Rep.int _ _⟩
  | 1, hx =>
    simp only [List.getElem?_cons_succ, List.getElem?_cons_zero, Option.some.injEq] at hx
    subst hx
    exact ⟨_, rfl, Rep.any _ rfl⟩
  | k + 2, hx => simp at hx
theorem writeString_satM (l : List UInt8) (s : ByteArray) (hlen : l.length + s.size ≤ 140737488355328) :
    SatM Tryz.prog 27 [.one (.ptr 1000 0), .one (.str s)] [(1000, [.ptr 1000 0, .byt tB l])] [] (.tup [.one (.int .i64 s.size), .one .any]) [(1000, [.ptr 1000 0, .byt tB (l ++ s.data.toList)])] [] := by
  refine ⟨fun m w vs ω hC hA => ?_⟩
  obtain ⟨a, b, rfl, ha, hb⟩ := args2 hA
  have ha : a = .pointer (some ⟨ω.box 1000, 0, none⟩) := ha
  have hb : b = .string s := erep_str' hb
  subst ha; subst hb
  obtain ⟨p, v, e, h1, h2, ⟨G0, h3⟩, h4, h5, h6⟩ := bld_box (hC.box 1000 _ rfl)
  have h3 : p = .pointer (some ⟨ω.box 1000, 0, none⟩) := h3
  subst h3
  refine ws_call Tryz.func27 rfl (by kernel_rfl) ((Any.ws_used Tryz.bld166 Tryz.bldX (ω.box 1000) e v l.length (Lib.byteCells l) s w h1 h4 h5 hlen).mono fun en w' ⟨he, v', k1, k2, k3, k4, k5⟩ => ⟨_, he, ?_⟩)
  rw [strCells_bytes, byteCells_app] at k2
  obtain ⟨ω', q1, q2, q3⟩ := bld_after hC rfl h2 h6 k1 k2 k3 k4 k5
  exact ⟨m, ω', q1, arep_ws _⟩
theorem string_satM (l : List UInt8) (h0 : l ≠ []) : SatM Tryz.prog 29 [.one (.ptr 1000 0)] [(1000, [.ptr 1000 0, .byt tB l])] [] (.v (.one (.str ⟨l.toArray⟩))) [] [] := by
  refine ⟨fun m w vs ω hC hA => ?_⟩
  obtain rfl : vs = [.pointer (some ⟨ω.box 1000, 0, none⟩)] := args1 hA fun v h => h
  obtain ⟨p, v, e, h1, h2, ⟨G0, h3⟩, h4, h5, h6⟩ := bld_box (hC.box 1000 _ rfl)
  refine ws_call Tryz.func29 rfl (by kernel_rfl) ((Any.str_all Tryz.bld169 Tryz.bldX (ω.box 1000) e p v l w h1 h4 h0).mono fun en w' ⟨he, g, k1, k2⟩ => ⟨_, he, ?_⟩)
  have hlive : (roots [(1000, [L.ptr 1000 0, .byt tB l])] []).live false 1000 := rfl
  obtain ⟨f1, f2, f3⟩ := hC.fresh false 1000 hlive g (h6 g k1)
  have hW : CI Tryz.prog w m (handed [(1000, [L.ptr 1000 0, .byt tB l])] [] ω) (roots [] []) a0 w m ω := hC.weaken rfl (fun _ _ h => h) (fun i ls h => by cases h) (fun i ls h => by cases h)
  exact ⟨m, ω, hW.touch k2 f2 (fun κ id hl => by cases κ <;> cases hl) f3, Rep.str _⟩
end

section
open Go.Proofs Go.RowKit Go.Shelf

section
variable {P : Program} {T : TypeId → Option TI} {w0 : World} {m0 : Mem} {F0 : Home} {s s' : St} {a : Act} {w w' : World} {m : Mem} {ω : Wh}
def StepsX (P : Program) (Q : Exit → Act → World → Prop) : List Oper → Act → World → (Act → World → Prop) → Prop
  | [], a, w, K => K a w
  | o :: l, a, w, K => o.guard = none ∧ o.wp P a w (fun a' w' => StepsX P Q l a' w' K) Q
theorem StepsX_sound {ops : Array Oper} {Q : Exit → Act → World → Prop} : ∀ (l : List Oper) (k : Nat) (a : Act) (w : World), ops.toList.drop k = l → StepsX P Q l a w (Q .normal) → wpOps P ops Q (List.range' k l.length) a w
  | [], k, a, w, _, h => h
  | o :: l, k, a, w, hl, h => by
    have hk : ops[k]? = some o := by
      have : (ops.toList.drop k)[0]? = some o := by rw [hl]; rfl
      simpa [List.getElem?_drop] using this
    have hl' : ops.toList.drop (k + 1) = l := by
      have : (ops.toList.drop k).drop 1 = l := by rw [hl]; rfl
      simpa [List.drop_drop] using this
    obtain ⟨hg, h⟩ := h
    simp only [List.length_cons, List.range'_succ, wpOps, hk]
    have hw : Region.wanted o (yielded ops a.tmps) = true := by simp [Region.wanted, hg]
    rw [if_pos hw]
    exact .inl (Oper.wp_mono (fun a' w' h => StepsX_sound l (k + 1) a' w' hl' h) h)
theorem wp_regionX {id : Nat} {l : List Oper} {Q : Exit → Act → World → Prop} (h : StepsX P Q l a w (Q .normal)) : (Code.region id l.toArray false).wp P Q a w := by
  refine wp_region ?_
  have := StepsX_sound (ops := l.toArray) l 0 a w (by simp) h
  have hlen : l.length = l.toArray.size := by simp
  rwa [← List.range_eq_range', hlen] at this
theorem run_alloc {o : Oper} {e : TypeId} {inf : TypeInfo} {z : Value} (ho : o.op = .alloc e) (g1 : P.info? e = some inf) (g2 : inf.zero = some z) :
    (execOp a.eval o).run P w = .ok (.value (.pointer (some ⟨w.heap.size, 0, none⟩))) (w.alloc (.cells z.cells e (0, 0))) := by
  unfold execOp
  simp only [ho, Instr.alloc, zeroValue, typeInfo, program, newVar, newRow, newObj, Sem.run_bind, Sem.run, Result.andThen_ok, Sem.run_pure, g1, g2]
  rfl
theorem gives_callK {o : Oper} {c : Call} {f : FuncId} {xs : List V} {r : A} (ho : o.op = .call c) (h : CI P w0 m0 F0 s a w m ω) (hc : callOf T s c = some (f, xs)) (hS : Sat P f xs r) :
    Gives P o a w fun v w' => ∃ m', CI P w0 m0 F0 s a w' m' ω ∧ ARep m' ω v (r.map L.clos) ∧ ∀ k, k < w.heap.size → w'.heap[k]? = w.heap[k]? := by
  obtain ⟨vs, h1, h2⟩ := callOf_sound ho h hc
  refine (gives_of_callsR h1 (hS.call m w vs ω (CI.none h.goodN h.ok) h2)).mono fun v w' hp => ?_
  obtain ⟨m', ω', hC, hv⟩ := hp
  exact ⟨m', h.grow ⟨hC.keeps.os, hC.keeps.tape, hC.keeps.output, hC.keeps.size, fun k hk => hC.keeps.block k hk owned_none⟩ hC.mle (fun x hx => hC.mold x hx owned_none) hC.ok, hv.map fun v l hl => L.clos_e hl, fun k hk => hC.keeps.block k hk owned_none⟩
end

abbrev tBld : TypeId := 79
set_option maxHeartbeats 2000000 in
theorem bld_start {w0 : World} {m0 : Mem} {F0 : Home} {Q : Exit → St → Prop} {c : Code} {i1 i2 : Nat} {o1 o2 o3 o4 o5 : Oper} {e : ByteArray} {sz : Nat} {xs : List (List L)} (hl : xs.length ≤ 1048576)
    (h1 : o1.op = .alloc tBld ∧ o1.dst = some 3 ∧ o1.guard = none) (h2 : o2.op = .move (.tmp 0) ∧ o2.dst = some 6 ∧ o2.guard = none)
    (h3 : o3.op = .call { callee := .builtin .len, args := #[.tmp 6], argTypes := #[40] } ∧ o3.dst = some 7 ∧ o3.guard = none)
    (h4 : o4.op = .call { callee := .value (.func 28), args := #[.tmp 7], argTypes := #[3] } ∧ o4.dst = some 8 ∧ o4.guard = none)
    (h5 : o5.op = .call { callee := .value (.func 27), args := #[.tmp 3, .tmp 8], argTypes := #[tBld, 9] } ∧ o5.dst = some 9 ∧ o5.guard = none)
    (H : AWP Tryz.prog w0 m0 F0 c Q ⟨38, [(0, .v (.one (.sl sz xs))), (3, .v (.one (.ptr 3 0)))], [(3, [.ptr 3 0, .byt tB (Lib.itoa xs.length)])], []⟩) :
    AWP Tryz.prog w0 m0 F0 (.seq (.region i1 #[o1] false) (.seq (.region i2 #[o2, o3, o4, o5] false) c)) Q ⟨38, [(2, .v (.one (.str e))), (0, .v (.one (.sl sz xs)))], [], []⟩ := by
  intro a w ⟨m, ω, hC⟩
  refine wp_seq (wp_regionX (l := [o1]) ⟨h1.2.2, ?_⟩)
  -- the new builder
  have hT : tiOk Tryz.prog tBld _ = true := tyOk tBld _ rfl
  obtain ⟨inf, z, g1, g2, g3, _⟩ := (tiFacts hT).zero _ rfl
  have hz : z.cells = #[.pointer none, .slice none 0 0] := by
    have e1 : (Tryz.prog.info? tBld).map (·.zero) = some (some (.agg #[.pointer none, .slice none 0 0])) := by kernel_rfl
    rw [g1] at e1
    have e2 : some z = some (.agg #[.pointer none, .slice none 0 0]) := g2.symm.trans (Option.some.inj e1)
    rw [Option.some.inj e2]
    rfl
  have hrun := run_alloc (P := Tryz.prog) (a := a) (w := w) h1.1 g1 g2
  refine gives_of_run (R := fun v w' => v = .pointer (some ⟨w.heap.size, 0, none⟩) ∧ w' = w.alloc (.cells z.cells tBld (0, 0))) hrun ⟨rfl, rfl⟩ _ _ fun v w1 ⟨hv, hw1⟩ => ?_
  obtain ⟨ω1, hC1, hb1⟩ := hC.newBox 3 (by show 3 < 38; decide) z.cells tBld [.nilp, .nil 1] (by rw [hz]; rfl) fun j l hj => by
    rw [hz]
    match j, hj with
    | 0, hj => simp only [List.getElem?_cons_zero, Option.some.injEq] at hj; subst hj; exact ⟨_, rfl, Rep.nilp⟩
    | 1, hj => simp only [List.getElem?_cons_succ, List.getElem?_cons_zero, Option.some.injEq] at hj; subst hj; exact ⟨_, rfl, Rep.nil _⟩
    | k + 2, hj => simp at hj
  rw [← hw1] at hC1
  have hblk : w1.heap[ω1.box 3]? = some (.cells #[.pointer none, .slice none 0 0] tBld (0, 0)) := by
    rw [hw1, hb1, hz]
    exact heap_alloc_new w _
  clear hrun hw1
  have hC2' := hC1.put (d := 3) (v := v) (x := .v (.one (.ptr 3 0))) (by show 3 < 38; decide) (by rw [hv]; show _ = _; rw [hb1])
  have hC2 : CI Tryz.prog w0 m0 F0 ⟨38, [(3, .v (.one (.ptr 3 0))), (0, .v (.one (.sl sz xs)))], [(3, [.nilp, .nil 1])], []⟩ (a.put (some 3) v) w1 m ω1 := by
    exact hC2'.weaken rfl (allIn_look ⟨rfl, rfl, trivial⟩) (allIn_look ⟨rfl, trivial⟩) (fun t x ht => by cases ht)
  clear hC2' hC1
  rw [h1.2.1]
  refine wp_seq (wp_regionX (l := [o2, o3, o4, o5]) ⟨h2.2.2, ?_⟩)
  -- the row, its length
  obtain ⟨_, k2⟩ := givesA_move (P := Tryz.prog) (T := TT) (o := o2) h2.1 hC2 (y := .v (.one (.sl sz xs))) rfl
  obtain ⟨v2, m2, r2, hC3, a2⟩ := k2 (by simp [plainOp, h2.1])
  refine gives_of_run (R := fun v w' => v = v2 ∧ w' = w1) r2 ⟨rfl, rfl⟩ _ _ fun v' w' ⟨e1, e2⟩ => ?_
  rw [e1, e2]
  clear e1 e2
  rw [h2.2.1]
  have hC4 := hC3.put (d := 6) (by show 6 < 38; decide) a2
  refine ⟨h3.2.2, ?_⟩
  obtain ⟨_, k3⟩ := givesA_len (P := Tryz.prog) (T := TT) (o := o3) h3.1 (tyOk 40 _ rfl) hC4 (l := .sl sz xs) rfl rfl rfl
  obtain ⟨v3, m3, r3, hC5, a3⟩ := k3 (by simp [plainOp, h3.1])
  refine gives_of_run (R := fun v w' => v = v3 ∧ w' = w1) r3 ⟨rfl, rfl⟩ _ _ fun v' w' ⟨e1, e2⟩ => ?_
  rw [e1, e2]
  clear e1 e2
  rw [h3.2.1]
  have hC6 := hC5.put (d := 7) (by show 7 < 38; decide) a3
  -- the numeral
  refine ⟨h4.2.2, ?_⟩
  refine gives_callK (T := TT) h4.1 hC6 (f := 28) (xs := [.one (.int .i64 xs.length)]) rfl (itoa_sat xs.length (by omega) (by omega)) _ _ fun v4 w4 ⟨m4, hC7, a4, hk⟩ => ?_
  rw [h4.2.1]
  have hC8 := hC7.put (d := 8) (by show 8 < 38; decide) a4
  have hlt : ω1.box 3 < w1.heap.size := by
    rcases Nat.lt_or_ge (ω1.box 3) w1.heap.size with h' | h'
    · exact h'
    · rw [Array.getElem?_eq_none h'] at hblk; cases hblk
  have hblk4 := (hk _ hlt).trans hblk
  -- the first write
  refine ⟨h5.2.2, ?_⟩
  have hv4 : v4 = .string (itoaB xs.length) := erep_str' (ω := ω1) a4
  have hrun : ∀ aa : Act, aa.eval (.tmp 3) = .pointer (some ⟨ω1.box 3, 0, none⟩) → aa.eval (.tmp 8) = .string (itoaB xs.length) → (execOp aa.eval o5).run Tryz.prog w4 = (callFunc 27 #[.pointer (some ⟨ω1.box 3, 0, none⟩), .string (itoaB xs.length)]).run Tryz.prog w4 := by
    intro aa q1 q2
    have qf : aa.eval (.func 27) = .func (.func 27) #[] #[] := rfl
    unfold execOp
    simp only [h5.1, qf, resolve, Deferred.ofValue, Sem.run_bind, Sem.run_pure, Result.andThen_ok, invoke, List.map_toArray, List.map_cons, List.map_nil, q1, q2]
    congr 2
  have hsz : (itoaB xs.length).size = (Lib.itoa xs.length).length := by
    show (itoaB xs.length).data.size = _
    rw [← Array.length_toList]
    simp [itoaB]
  have hws := (Any.ws_fresh Tryz.bld166 Tryz.bldX (ω1.box 3) (.slice none 0 0) 0 [] (itoaB xs.length) w4 hblk4 ⟨rfl, .inl ⟨rfl, rfl⟩⟩ (by simp [Value.ownBlock]) (by rw [hsz]; have := Lib.itoa_length_le xs.length (by omega) (by omega); omega))
  have e0 : ([] : List Value) ++ Lib.strCells (itoaB xs.length) = Lib.byteCells (Lib.itoa xs.length) := by simp [strCells_bytes, itoaB]
  rw [e0] at hws
  have hcr := ws_call (R := fun v w' => v = .tuple #[.int .i64 (itoaB xs.length).size, .nilIface] ∧ ∃ v', w'.heap[ω1.box 3]? = some (.cells #[.pointer (some ⟨ω1.box 3, 0, none⟩), v'] tBld (0, 0)) ∧ BytesAt w' tB v' (0 + (itoaB xs.length).size) (Lib.byteCells (Lib.itoa xs.length)) ∧ v'.ownBlock ≠ some (ω1.box 3) ∧ Moved w4 w' (.slice none 0 0) v' ∧ KeptBut (fun k => k = ω1.box 3 ∨ (Value.slice none 0 0).ownBlock = some k) w4 w')
    Tryz.func27 rfl (by kernel_rfl) (hws.mono fun en w' ⟨he, h⟩ => ⟨_, he, rfl, h⟩)
  refine gives_of_callsR (hrun _ ?_ ?_) hcr _ _ fun v5 w5 ⟨hv5, v', k1, k2, k3, k4, k5⟩ => ?_
  · exact hC8.env 3 (.v (.one (.ptr 3 0))) rfl
  · exact erep_str' (ω := ω1) (hC8.env 8 (.v (.one (.str (itoaB xs.length)))) rfl)
  rw [h5.2.1]
  obtain ⟨_, _, _, _, hf3, _⟩ := hC8.box 3 [.nilp, .nil 1] rfl
  obtain ⟨ω', hC9, q2, q3⟩ := bld_after hC8 (id := 3) (ls0 := [.nilp, .nil 1]) rfl hf3 (fun k hk => by cases hk) k1 k2 k3 k4 k5
  have hC10 := hC9.put (d := 9) (by show 9 < 38; decide) (hv5 ▸ arep_ws (m := m4) (ω := ω') _)
  refine H _ _ (Conc.le ⟨m4, ω', hC10⟩ ⟨rfl, allIn_look ⟨rfl, rfl, trivial⟩, allIn_look ⟨rfl, trivial⟩, fun t x ht => by cases ht⟩)
end

def cellB (v : Val) : ByteArray := (((((⟨#[124]⟩ : ByteArray) ++ itoaB v.kind ++ ⟨#[44]⟩) ++ itoaB v.int ++ ⟨#[44]⟩) ++ itoaB (v.text.size : Int)) ++ ⟨#[44]⟩) ++ v.text
def encL (r : Row) (k : Nat) : List UInt8 := Lib.itoa r.length ++ ((r.take k).map fun v => (cellB v).data.toList).flatten
def encB (r : Row) : ByteArray := ⟨(encL r r.length).toArray⟩
structure ValFits (v : Val) : Prop where
  k0 : -9223372036854775808 ≤ v.kind
  k1 : v.kind ≤ 9223372036854775807
  i0 : -9223372036854775808 ≤ v.int
  i1 : v.int ≤ 9223372036854775807
  t : v.text.size ≤ 1048576
structure RowFits (r : Row) : Prop where
  n : r.length ≤ 1048576
  v : ∀ v ∈ r, ValFits v
theorem itoaB_size (n : Int) (h0 : -9223372036854775808 ≤ n) (h1 : n ≤ 9223372036854775807) : (itoaB n).size ≤ 21 := by
  have e : (itoaB n).size = (Lib.itoa n).length := by
    show (itoaB n).data.size = _
    rw [← Array.length_toList]
    simp [itoaB]
  rw [e]
  exact Lib.itoa_length_le n h0 h1
theorem cellB_size {v : Val} (h : ValFits v) : (cellB v).size ≤ 1048643 := by
  have h1 := itoaB_size v.kind h.k0 h.k1
  have h2 := itoaB_size v.int h.i0 h.i1
  have h3 := itoaB_size (v.text.size : Int) (by omega) (by have := h.t; omega)
  have h4 := h.t
  have b1 : (⟨#[124]⟩ : ByteArray).size = 1 := rfl
  have b2 : (⟨#[44]⟩ : ByteArray).size = 1 := rfl
  simp only [cellB, ByteArray.size_append, b1, b2]
  omega
theorem encL_zero (r : Row) : encL r 0 = Lib.itoa r.length := by simp [encL]
theorem encL_succ {r : Row} {k : Nat} (h : k < r.length) : encL r (k + 1) = encL r k ++ (cellB r[k]).data.toList := by
  rw [encL, take_snoc r k h, List.map_append, List.flatten_append, encL]
  simp only [List.map_cons, List.map_nil, List.flatten_cons, List.flatten_nil, List.append_nil, List.append_assoc]
theorem encL_le {r : Row} (h : RowFits r) : ∀ k, k ≤ r.length → (encL r k).length ≤ 21 + k * 1048643
  | 0, _ => by
    rw [encL_zero]
    have := Lib.itoa_length_le r.length (by omega) (by have := h.n; omega)
    omega
  | k + 1, hk => by
    rw [encL_succ (by omega), List.length_append]
    have h1 := encL_le h k (by omega)
    have h2 := cellB_size (h.v r[k] (List.getElem_mem _))
    have h3 : (cellB r[k]).data.toList.length = (cellB r[k]).size := Array.length_toList
    omega
theorem itoa_ne (n : Int) : Lib.itoa n ≠ [] := by
  unfold Lib.itoa
  split
  · simp
  · unfold Lib.decDigits
    split <;> simp
theorem encL_ne (r : Row) (k : Nat) : encL r k ≠ [] := by
  unfold encL
  intro h
  exact itoa_ne _ (List.append_eq_nil_iff.1 h).1
theorem okIds_ptr (σb σr : Ids) (i o : Nat) : okIds σb σr (.ptr i o) = (look σb i).isSome := rfl
theorem okIds_byt (σb σr : Ids) (t : TypeId) (l : List UInt8) : okIds σb σr (.byt t l) = true := rfl
set_option maxHeartbeats 8000000 in
theorem encode_sat (r : Row) (hr : RowFits r) : Sat Tryz.prog 9 [.one (eRow r)] (.v (.one (.str (encB r)))) := by
  have hn := hr.n
  refine sat_of_body tyOk Tryz.func9 rfl (by kernel_rfl) ⟨Nat.le_of_ble_eq_true rfl, Nat.le_of_ble_eq_true rfl⟩ fun w0 m0 F0 => ?_
  simp only [Tryz.ntmps9, envOf, Nat.reduceAdd]
  refine qA ?_
  refine qV tyOk fun K hK => ?_
  simp -dsimp (disch := (first | omega | (simp only [LN]; omega))) only [go_sem, ↓reduceIte, seval]
  refine hK _ (qB ?_)
  clear hK K
  refine bld_start (by simpa using hn) ⟨rfl, rfl, rfl⟩ ⟨rfl, rfl, rfl⟩ ⟨rfl, rfl, rfl⟩ ⟨rfl, rfl, rfl⟩ ⟨rfl, rfl, rfl⟩ ?_
  repeat' (first | ((first | with_reducible refine qV tyOk fun K hK => ?_ | (with_reducible first | refine qG ?_ | refine qH ?_ | refine qP ?_ | refine qGx ?_ | refine qHx ?_ | refine qPx ?_) | ((with_reducible first | refine qS ?_ ?_ | refine qT ?_ ?_ | refine qU ?_ ?_) <;> (intro h; try simp only [NM] at h))) <;> simp -dsimp (disch := (first | omega | (simp only [LN]; omega))) only [go_sem, ↓reduceIte, seval]) | ((with_reducible refine hK _ ?_); clear hK K) | (with_reducible first | refine qA ?_ | refine qB ?_ | refine qC ?_ | refine qD ?_ | refine qE ?_ | refine qF ?_ | refine qL ?_ | refine qM ?_ | refine qN ?_ | refine qO ?_ | refine qQ ?_) | refine qR rfl ?_ | (with_reducible refine AI ?_) | ((with_reducible refine qW (T := TT) (b := ?_) ?_ ?_); rotate_left; exact rfl) | (with_reducible first | refine qX ?_ | refine qY ?_ | refine qZ ?_) | (with_reducible first | refine qI ?_ | refine qIx ?_ | fail) | ((with_reducible refine yS ?_ ?_) <;> (intro h; try simp only [NM] at h)))
  refine AWP.loop (ι := {k : Nat // k ≤ r.length}) (fun k => ⟨38, [(3, .v (.one (.ptr 3 0))), (10, .v (.one (eRow r))), (11, .v (oI r.length)), (12, .v (oI k.1))], [(3, [.ptr 3 0, .byt tB (encL r k.1)])], []⟩) (fun k => r.length - k.1) ⟨0, Nat.zero_le _⟩ ?_ fun ⟨k, hkl⟩ => ?_
  · refine St.le_mk ?_ ?_ ?_ <;> simp only [LE, EN, Nat.reduceEqDiff, reduceIte, Nat.reduceSub, encL_zero]
  simp only
  rcases Nat.lt_or_ge k r.length with hc | hc
  · have hv := hr.v r[k] (List.getElem_mem _)
    have hs := cellB_size hv
    have hL := encL_le hr k hkl
    have ws := writeString_satM (encL r k) (cellB r[k]) (by omega)
    have es := encL_succ hc
    have i1 := itoa_sat r[k].kind hv.k0 hv.k1
    have i2 := itoa_sat r[k].int hv.i0 hv.i1
    have i3 := itoa_sat (r[k].text.size : Int) (by omega) (by have := hv.t; omega)
    have z1 := itoaB_size r[k].kind hv.k0 hv.k1
    have z2 := itoaB_size r[k].int hv.i0 hv.i1
    have z3 := itoaB_size (r[k].text.size : Int) (by omega) (by have := hv.t; omega)
    have z4 := hv.t
    have b1 : (⟨#[124]⟩ : ByteArray).size = 1 := rfl
    have b2 : (⟨#[44]⟩ : ByteArray).size = 1 := rfl
    unfold cellB at ws
    repeat' (first | ((first | ((fail_if_success (refine AWP.isRegion 6 ?_)); (with_reducible refine qV tyOk fun K hK => ?_)) | (with_reducible first | refine qG ?_ | refine qH ?_ | refine qP ?_ | refine qGx ?_ | refine qHx ?_ | refine qPx ?_) | ((with_reducible first | refine qS ?_ ?_ | refine qT ?_ ?_ | refine qU ?_ ?_) <;> (intro h; try simp only [NM] at h))) <;> simp -dsimp (disch := (first | omega | (simp only [LN]; omega))) only [go_sem, ↓reduceIte, seval]) | ((with_reducible refine hK _ ?_); clear hK K) | (with_reducible first | refine qA ?_ | refine qB ?_ | refine qC ?_ | refine qD ?_ | refine qE ?_ | refine qF ?_ | refine qL ?_ | refine qM ?_ | refine qN ?_ | refine qO ?_ | refine qQ ?_) | refine qR rfl ?_ | (with_reducible refine AI ?_) | ((with_reducible refine qW (T := TT) (b := ?_) ?_ ?_); rotate_left; exact rfl) | (with_reducible first | refine qX ?_ | refine qY ?_ | refine qZ ?_) | (with_reducible first | refine qI ?_ | refine qIx ?_ | fail) | ((with_reducible refine yS ?_ ?_) <;> (intro h; try simp only [NM] at h)))
    refine AWP.drawX tyOk mixed [(0, 2), (5, 2), (10, 3), (16, 2)] [(2, [(3, 2)], [(5, 2), (10, 3), (16, 2)]), (7, [(8, 2)], [(3, 2), (10, 3), (16, 2)]), (13, [(14, 2), (18, 1)], [(3, 2), (8, 2), (16, 2)]), (19, [], [])] [2, 7, 13, 19] 8 (by decide) (by kernel_rfl) (by kernel_rfl) (by kernel_rfl) (by kernel_rfl) fun K hK => ?_
    simp only [segx_nil, segx_cons, segs, List.drop_succ_cons, List.drop_zero, List.take_succ_cons, List.take_zero, List.getElem?_cons_zero, List.getElem?_cons_succ, List.cons_append, List.nil_append, List.append_nil] at hK ⊢
    simp -dsimp (disch := (first | omega | (simp only [LN]; omega))) only [go_sem, ↓reduceIte, seval, ByteArray.size_append, b1, b2]
    repeat' (first | ((first | with_reducible refine qV tyOk fun K hK => ?_ | (with_reducible first | refine qG ?_ | refine qH ?_ | refine qP ?_ | refine qGx ?_ | refine qHx ?_ | refine qPx ?_) | ((with_reducible first | refine qS ?_ ?_ | refine qT ?_ ?_ | refine qU ?_ ?_) <;> (intro h; try simp only [NM] at h)) | ((with_reducible refine CallJ.is ?_); refine CallJ.io [(1000, 3)] [] [(1000, 3)] [] [] [] [3, 3] [] (ws) rfl ⟨rfl, rfl, rfl, rfl⟩ ?_ ?_ ?_; (focus (simp -dsimp (disch := (first | omega | (simp only [LN]; omega))) only [go_sem, ↓reduceIte, seval, ByteArray.size_append, b1, b2, okIds_ptr, okIds_byt, dropL_nil, dropL_nil', dropL_cons]; done)); (focus (simp -dsimp (disch := (first | omega | (simp only [LN]; omega))) only [go_sem, ↓reduceIte, seval, ByteArray.size_append, b1, b2, okIds_ptr, okIds_byt, dropL_nil, dropL_nil', dropL_cons]; done))) | ((with_reducible refine CallJ.is ?_); (first | refine CallJ.pure (i1) ?_ | refine CallJ.pure (i2) ?_ | refine CallJ.pure (i3) ?_ | ((apply CallJ.lentI); (focus (simp -dsimp (disch := (first | omega | (simp only [LN]; omega))) only [go_sem, ↓reduceIte, seval, ByteArray.size_append, b1, b2, okIds_ptr, okIds_byt, dropL_nil, dropL_nil', dropL_cons]; rfl)); (focus (first | exact (i1) | exact (i2) | exact (i3)))))) | ((with_reducible refine CallH.is ?_); (first | refine CallH.intro (i1) ?_ | refine CallH.intro (i2) ?_ | refine CallH.intro (i3) ?_))) <;> simp -dsimp (disch := (first | omega | (simp only [LN]; omega))) only [go_sem, ↓reduceIte, seval, ByteArray.size_append, b1, b2, okIds_ptr, okIds_byt, dropL_nil, dropL_nil', dropL_cons]) | ((with_reducible refine hK _ ?_); clear hK K) | (with_reducible first | refine qA ?_ | refine qB ?_ | refine qC ?_ | refine qD ?_ | refine qE ?_ | refine qF ?_ | refine qL ?_ | refine qM ?_ | refine qN ?_ | refine qO ?_ | refine qQ ?_) | refine qR rfl ?_ | ((with_reducible refine VCy.intro fun K0 hK0 => ?_)) | ((with_reducible refine VCy.fin ?_); (refine hK0 _ ?_); clear hK0 K0) | (with_reducible first | refine VCy.quiet ?_ | refine VCy.none ?_) | ((with_reducible first | refine VCy.some fun K hK => ?_ | refine VCy.step fun K hK => ?_); simp -dsimp (disch := (first | omega | (simp only [LN]; omega))) only [go_sem, ↓reduceIte, seval, ByteArray.size_append, b1, b2, okIds_ptr, okIds_byt, dropL_nil, dropL_nil', dropL_cons]) | ((with_reducible refine VCy.keep ?_ ?_); focus ((simp -dsimp (disch := (first | omega | (simp only [LN]; omega))) only [go_sem, ↓reduceIte, seval, Stable_cons, Stable_nil, sameA_some, sameA_none, ByteArray.size_append, b1, b2, okIds_ptr, okIds_byt, dropL_nil, dropL_nil', dropL_cons]); first | done | with_reducible assumption | omega | (repeat' with_reducible refine And.intro ?_ ?_) <;> first | with_reducible rfl | with_reducible assumption | omega)) | (with_reducible refine AI ?_) | ((with_reducible refine qW (T := TT) (b := ?_) ?_ ?_); rotate_left; exact rfl) | (with_reducible first | refine qX ?_ | refine qY ?_ | refine qZ ?_) | (with_reducible first | refine qI ?_ | refine qIx ?_ | fail) | ((with_reducible refine yS ?_ ?_) <;> (intro h; try simp only [NM] at h)))
    refine ⟨⟨k + 1, by omega⟩, by simp only; omega, ?_⟩
    have ef : cellB r[k] = (((((⟨#[124]⟩ : ByteArray) ++ itoaB r[k].kind ++ ⟨#[44]⟩) ++ itoaB r[k].int ++ ⟨#[44]⟩) ++ itoaB (r[k].text.size : Int)) ++ ⟨#[44]⟩) ++ r[k].text := rfl
    rw [← ef]
    refine St.le_mk ?_ ?_ ?_ <;> simp only [LE, EN, Nat.reduceEqDiff, reduceIte, Nat.reduceSub, es]
  · have hk : k = r.length := by omega
    subst hk
    repeat' (first | ((first | with_reducible refine qV tyOk fun K hK => ?_ | (with_reducible first | refine qG ?_ | refine qH ?_ | refine qP ?_ | refine qGx ?_ | refine qHx ?_ | refine qPx ?_) | ((with_reducible first | refine qS ?_ ?_ | refine qT ?_ ?_ | refine qU ?_ ?_) <;> (intro h; try simp only [NM] at h)) | ((with_reducible refine CallJ.is ?_); refine CallJ.io [(1000, 3)] [] [] [] [3] [] [3] [] (string_satM (encL r r.length) (encL_ne r r.length)) rfl ⟨rfl, rfl, rfl, rfl⟩ ?_ ?_ ?_; (focus (simp -dsimp (disch := (first | omega | (simp only [LN]; omega))) only [go_sem, ↓reduceIte, seval, okIds_ptr, okIds_byt, dropL_nil, dropL_nil', dropL_cons]; done)); (focus (simp -dsimp (disch := (first | omega | (simp only [LN]; omega))) only [go_sem, ↓reduceIte, seval, okIds_ptr, okIds_byt, dropL_nil, dropL_nil', dropL_cons]; done)))) <;> simp -dsimp (disch := (first | omega | (simp only [LN]; omega))) only [go_sem, ↓reduceIte, seval, okIds_ptr, okIds_byt, dropL_nil, dropL_nil', dropL_cons]) | ((with_reducible refine hK _ ?_); clear hK K) | (with_reducible first | refine qA ?_ | refine qB ?_ | refine qC ?_ | refine qD ?_ | refine qE ?_ | refine qF ?_ | refine qL ?_ | refine qM ?_ | refine qN ?_ | refine qO ?_ | refine qQ ?_) | refine qR rfl ?_ | (with_reducible refine AI ?_) | ((with_reducible refine qW (T := TT) (b := ?_) ?_ ?_); rotate_left; exact rfl) | (with_reducible first | refine qX ?_ | refine qY ?_ | refine qZ ?_) | (with_reducible first | refine qI ?_ | refine qIx ?_ | fail) | ((with_reducible refine yS ?_ ?_) <;> (intro h; try simp only [NM] at h)))
    simp -dsimp (disch := (first | omega | (simp only [LN]; omega))) only [retQ, Tryz.results9, resVals, cellRV, resOf, St.rest, St.freeze, RT, go_sem, ↓reduceIte, seval]
    rfl

theorem keyCell_fits {r : Row} (h : RowFits r) (c : Int) : ValFits (keyCell r c) := by
  have hz : ValFits zV := ⟨by decide, by decide, by decide, by decide, by decide⟩
  unfold keyCell
  split
  · rename_i hc
    rw [List.getD_eq_getElem?_getD]
    cases hg : r[c.toNat]? with
    | none => exact hz
    | some v => exact h.v v (List.mem_of_getElem? hg)
  · exact hz
theorem keyOf_fits {pk : List Int} {r : Row} (h : RowFits r) (hp : pk.length ≤ 1048576) : RowFits (keyOf pk r) := by
  refine ⟨by rw [keyOf_length]; exact hp, fun v hv => ?_⟩
  unfold keyOf at hv
  obtain ⟨c, _, rfl⟩ := List.mem_map.1 hv
  exact keyCell_fits h c

theorem valFits_of {v : Val} (h : valE v = 0) : ValFits v := by
  unfold valE at h
  have e0 : ∀ x : ByteArray, sEq x ByteArray.empty ≠ false → x.size = 0 := fun x q => by
    have q : sEq x ByteArray.empty = true := by simpa using q
    rw [sEq_iff] at q
    rw [q]; rfl
  split at h
  · rename_i hk
    split at h
    · cases h
    · rename_i hq
      have := e0 v.text (fun q => hq (.inr q))
      have hv : v.int = 0 := by
        by_cases q : v.int = 0
        · exact q
        · exact absurd (.inl q) hq
      exact ⟨by omega, by omega, by omega, by omega, by omega⟩
  · split at h
    · rename_i hk
      split at h
      · cases h
      · rename_i hq
        split at h
        · cases h
        · rename_i hr
          have := e0 v.text hq
          exact ⟨by omega, by omega, by omega, by omega, by omega⟩
    · split at h
      · rename_i hk
        split at h
        · cases h
        · rename_i hq
          split at h
          · cases h
          · have hv : v.int = 0 := by simpa using hq
            exact ⟨by omega, by omega, by omega, by omega, by omega⟩
      · cases h
theorem rowFits_row {t : Tbl} {r : Row} (h6 : t.cols.length ≤ 1048576) (h : rowE t r = 0) : RowFits r := by
  obtain ⟨h1, h2⟩ := (rowE_zero _ _).1 h
  refine ⟨by omega, fun v hv => ?_⟩
  obtain ⟨j, hj, rfl⟩ := List.mem_iff_getElem.1 hv
  have h3 := h2 j hj
  unfold cellE at h3
  split at h3
  · cases h3
  · rename_i h4
    exact valFits_of (by simpa using h4)
theorem keyCellE_ne (t : Tbl) : ∀ k x e, keyCellE t k x = some e → e ≠ 0 := by
  intro k x e h
  unfold keyCellE at h
  split at h
  · rename_i hne; injection h with h; rw [← h]; exact hne
  · split at h
    · injection h with h; omega
    · cases h
theorem rowFits_key {t : Tbl} {r : Row} (h6 : t.pk.length ≤ 1048576) (h : keyE t r = 0) : RowFits r := by
  unfold keyE at h
  split at h
  · cases h
  rename_i hl
  change orE (scan (keyCellE t) r 0) 0 = 0 at h
  rw [scan_zero (keyCellE_ne t), scan_eq_none] at h
  refine ⟨by omega, fun v hv => ?_⟩
  obtain ⟨j, hj, rfl⟩ := List.mem_iff_getElem.1 hv
  have h3 := h.1 j hj
  unfold keyCellE at h3
  split at h3
  · cases h3
  · rename_i h4
    exact valFits_of (by simpa using h4)
theorem tgt_fits {s : Sch} {d : Chg} (hs : schE s = 0) (h : chgE s d = 0) : RowFits (tgt (tblOf s d.table) d) := by
  have o := okChg_of h
  have sm := small_of hs
  have ht : tblOf s d.table = s.tables[tpos s d]'o.lt := by rw [o.tbl]; exact getD_lt _ o.lt
  have := sm.table _ (List.getElem_mem o.lt)
  rw [← ht] at this
  unfold tgt
  split
  · rename_i hk
    exact keyOf_fits (rowFits_row (by omega) (o.up hk).2) (by omega)
  · rename_i hk
    have hk : d.kind = 2 := o.kind.resolve_left hk
    exact rowFits_key (by omega) (o.del hk).2
theorem refT_at {s : Sch} {name : ByteArray} (h : 0 ≤ tblAt s.tables name) : refT s name = some (tblOf s name) := by
  rcases idx_cases (fun t => sEq t.name name) s.tables 0 with ⟨e1, _⟩ | ⟨j, hj, e1, e2, e3⟩
  · have e1 : tblAt s.tables name = -1 := e1
    omega
  · have e1 : tblAt s.tables name = (j : Int) := by unfold tblAt; simpa using e1
    have et : tblOf s name = s.tables[j] := by simp only [tblOf, e1, Int.toNat_natCast]; exact getD_lt _ hj
    rw [et]
    unfold refT
    rw [List.find?_eq_some_iff_getElem]
    exact ⟨e2, j, hj, rfl, fun i hi => by simpa using e3 i hi⟩
set_option maxHeartbeats 8000000 in
theorem cover1_sat (r : Row) (key : ByteArray) (hr : RowFits r) : Sat Tryz.prog 13 [.one (eRow r), .one (.fz [.str key])] (.v (oB (sEq (encB r) key))) := by
  refine sat_of_body tyOk Tryz.func13 rfl (by kernel_rfl) ⟨Nat.le_of_ble_eq_true rfl, Nat.le_of_ble_eq_true rfl⟩ fun w0 m0 F0 => ?_
  simp only [Tryz.ntmps13, envOf, Nat.reduceAdd]
  repeat' (first | ((first | with_reducible refine qV tyOk fun K hK => ?_ | (with_reducible first | refine qG ?_ | refine qH ?_ | refine qP ?_ | refine qGx ?_ | refine qHx ?_ | refine qPx ?_) | ((with_reducible first | refine qS ?_ ?_ | refine qT ?_ ?_ | refine qU ?_ ?_) <;> (intro h; try simp only [NM] at h)) | with_reducible refine yD tyOk mixed 6 (by kernel_rfl) fun K hK => ?_ | ((with_reducible refine CallJ.is ?_); (first | refine CallJ.pure (encode_sat r hr) ?_ | ((apply CallJ.lentI); (focus (simp -dsimp (disch := (first | omega | (simp only [LN]; omega))) only [go_sem, ↓reduceIte, seval]; rfl)); (focus (first | exact (encode_sat r hr)))))) | ((with_reducible refine CallH.is ?_); (first | refine CallH.intro (encode_sat r hr) ?_))) <;> simp -dsimp (disch := (first | omega | (simp only [LN]; omega))) only [go_sem, ↓reduceIte, seval]) | ((with_reducible refine hK _ ?_); clear hK K) | (with_reducible first | refine qA ?_ | refine qB ?_ | refine qC ?_ | refine qD ?_ | refine qE ?_ | refine qF ?_ | refine qL ?_ | refine qM ?_ | refine qN ?_ | refine qO ?_ | refine qQ ?_) | refine qR rfl ?_ | (with_reducible refine AI ?_) | ((with_reducible refine qW (T := TT) (b := ?_) ?_ ?_); rotate_left; exact rfl) | (with_reducible first | refine qX ?_ | refine qY ?_ | refine qZ ?_) | (with_reducible first | refine qI ?_ | refine qIx ?_ | fail) | ((with_reducible refine yS ?_ ?_) <;> (intro h; try simp only [NM] at h)))
  simp -dsimp (disch := (first | omega | (simp only [LN]; omega))) only [retQ, Tryz.results13, resVals, cellRV, resOf, St.rest, St.freeze, RT, go_sem, ↓reduceIte, seval]
  rfl
set_option maxHeartbeats 16000000 in
theorem deltaKeysCover_sat (s : Sch) (i : Inst) (cs : List Chg) (hf : s.Fits) (hi : InstFits i) (hcs : ChgsFit cs) :
    Sat Tryz.prog 3 [.agg (eSch s), .one (eInst i), .one (eChgs cs)] (.v (oB true)) := by
  have sa := apply_sat s i cs hf hi hcs
  by_cases he : (applyE s i cs).1 = 0
  case neg =>
    refine sat_of_body tyOk Tryz.func3 rfl (by kernel_rfl) ⟨Nat.le_of_ble_eq_true rfl, Nat.le_of_ble_eq_true rfl⟩ fun w0 m0 F0 => ?_
    simp only [Tryz.ntmps3, envOf, Nat.reduceAdd]
    repeat' (first | ((first | with_reducible refine qV tyOk fun K hK => ?_ | (with_reducible first | refine qG ?_ | refine qH ?_ | refine qP ?_ | refine qGx ?_ | refine qHx ?_ | refine qPx ?_) | ((with_reducible first | refine qS ?_ ?_ | refine qT ?_ ?_ | refine qU ?_ ?_) <;> (intro h; try simp only [NM] at h)) | with_reducible refine yD tyOk mixed 6 (by kernel_rfl) fun K hK => ?_ | ((with_reducible refine CallJ.is ?_); (first | refine CallJ.pure (changesWork_sat) ?_ | refine CallJ.pure (sa) ?_ | ((apply CallJ.lentI); (focus (simp -dsimp (disch := (first | omega | (simp only [LN]; omega))) only [go_sem, ↓reduceIte, seval, he]; rfl)); (focus (first | exact (changesWork_sat) | exact (sa)))))) | ((with_reducible refine CallH.is ?_); (first | refine CallH.intro (changesWork_sat) ?_ | refine CallH.intro (sa) ?_))) <;> simp -dsimp (disch := (first | omega | (simp only [LN]; omega))) only [go_sem, ↓reduceIte, seval, he]) | ((with_reducible refine hK _ ?_); clear hK K) | (with_reducible first | refine qA ?_ | refine qB ?_ | refine qC ?_ | refine qD ?_ | refine qE ?_ | refine qF ?_ | refine qL ?_ | refine qM ?_ | refine qN ?_ | refine qO ?_ | refine qQ ?_) | refine qR rfl ?_ | (with_reducible refine AI ?_) | ((with_reducible refine qW (T := TT) (b := ?_) ?_ ?_); rotate_left; exact rfl) | (with_reducible first | refine qX ?_ | refine qY ?_ | refine qZ ?_) | (with_reducible first | refine qI ?_ | refine qIx ?_ | fail) | ((with_reducible refine yS ?_ ?_) <;> (intro h; try simp only [NM] at h)))
    all_goals simp -dsimp (disch := (first | omega | (simp only [LN]; omega))) only [retQ, Tryz.results3, resVals, cellRV, resOf, St.rest, St.freeze, RT, go_sem, ↓reduceIte, seval]
  obtain ⟨h1, h2, h3, h4, h5⟩ := applyE_okU he
  have sm := small_of h1
  have m1 := sm.tables
  have hc2 : confE s (applyE s i cs).2 = 0 := by rw [h5]; exact applyL_conf h2 h4
  have cov := fun c => keys_cover he (c := c)
  have dl := diffK_length h2 hc2 s.tables.length (Nat.le_refl _)
  have dfit := diffK_fits sm h2 hc2
  obtain ⟨i', hi'⟩ : ∃ x, (applyE s i cs).2 = x := ⟨_, rfl⟩
  rw [he, hi'] at sa
  rw [hi'] at hc2 cov dl dfit
  have ifit := instFits_of sm hc2
  have sd := diff_sat s i i' hf hi ifit
  have ed : diffE s i i' = (0, diffK s i i' s.tables.length) := by simp [diffE, h1, h2, hc2]
  rw [ed] at sd
  obtain ⟨D, hD⟩ : ∃ D, diffK s i i' s.tables.length = D := ⟨_, rfl⟩
  rw [hD] at sd cov dl dfit
  have ok := applyL_chg h4
  obtain ⟨n1, n2⟩ := namesE_ok h1 ok
  have st := tables_sat s cs hf hcs
  obtain ⟨N, hN⟩ : ∃ N, (namesE s cs).2 = N := ⟨_, rfl⟩
  rw [n1, hN] at st
  rw [hN] at n2
  have nl : N.length ≤ 6 := by
    have h3 : cs.find? (fun c => !(chgE s c == 0)) = none := List.find?_eq_none.2 fun c hc => by simp [ok c hc]
    have e : namesE s cs = (0, insS cmpName 0 (nubC [] cs).length (nubC [] cs)) := by
      unfold namesE
      rw [if_neg (by simpa using h1), h3]
    rw [← hN, e]
    have q1 := (insS_perm cmpName 0 (nubC [] cs).length (nubC [] cs)).length_eq
    have q2 := nubC_len ok
    simp only
    omega
  refine sat_of_body tyOk Tryz.func3 rfl (by kernel_rfl) ⟨Nat.le_of_ble_eq_true rfl, Nat.le_of_ble_eq_true rfl⟩ fun w0 m0 F0 => ?_
  simp only [Tryz.ntmps3, envOf, Nat.reduceAdd]
  repeat' (first | ((first | with_reducible refine qV tyOk fun K hK => ?_ | (with_reducible first | refine qG ?_ | refine qH ?_ | refine qP ?_ | refine qGx ?_ | refine qHx ?_ | refine qPx ?_) | ((with_reducible first | refine qS ?_ ?_ | refine qT ?_ ?_ | refine qU ?_ ?_) <;> (intro h; try simp only [NM] at h)) | ((with_reducible refine CallJ.is ?_); (first | refine CallJ.pure (changesWork_sat) ?_ | refine CallJ.pure (sa) ?_ | refine CallJ.pure (sd) ?_ | refine CallJ.pure (st) ?_ | ((apply CallJ.lentI); (focus (simp -dsimp (disch := (first | omega | (simp only [LN]; omega))) only [go_sem, ↓reduceIte, seval]; rfl)); (focus (first | exact (changesWork_sat) | exact (sa) | exact (sd) | exact (st)))))) | ((with_reducible refine CallH.is ?_); (first | refine CallH.intro (changesWork_sat) ?_ | refine CallH.intro (sa) ?_ | refine CallH.intro (sd) ?_ | refine CallH.intro (st) ?_))) <;> simp -dsimp (disch := (first | omega | (simp only [LN]; omega))) only [go_sem, ↓reduceIte, seval]) | ((with_reducible refine hK _ ?_); clear hK K) | (with_reducible first | refine qA ?_ | refine qB ?_ | refine qC ?_ | refine qD ?_ | refine qE ?_ | refine qF ?_ | refine qL ?_ | refine qM ?_ | refine qN ?_ | refine qO ?_ | refine qQ ?_) | refine qR rfl ?_ | (with_reducible refine AI ?_) | ((with_reducible refine qW (T := TT) (b := ?_) ?_ ?_); rotate_left; exact rfl) | (with_reducible first | refine qX ?_ | refine qY ?_ | refine qZ ?_) | (with_reducible first | refine qI ?_ | refine qIx ?_ | fail) | ((with_reducible refine yS ?_ ?_) <;> (intro h; try simp only [NM] at h)))
  refine AWP.loop (ι := {k : Nat // k ≤ D.length}) (fun k => ⟨82, [(2, .v (.one (eChgs cs))), (3, .v (.one (.ptr 3 0))), (11, .v (.one (.sl 1 (N.map eNm)))), (48, .v (.one (eChgs D))), (49, .v (oI D.length)), (50, .v (oI k.1))], [(3, eSch s)], []⟩) (fun k => D.length - k.1) ⟨0, Nat.zero_le _⟩ ?_ fun ⟨k, hkl⟩ => ?_
  · refine St.le_mk ?_ ?_ ?_ <;> simp only [LE, EN, Nat.reduceEqDiff, reduceIte, Nat.reduceSub, eSch]
  simp only at hkl ⊢
  rcases Nat.lt_or_ge k D.length with hc | hc
  · obtain ⟨⟨d, d1, d2⟩, k1, k2, k3, k4, k5⟩ := cov D[k] (List.getElem_mem hc)
    have sk := keys_sat s cs D[k].table hf hcs (by omega)
    have hK : ∀ r ∈ (keysE s cs D[k].table).2, RowFits r := by
      intro r hr
      unfold keysE at hr
      split at hr
      · cases hr
      split at hr
      · cases hr
      obtain ⟨e, e1, rfl⟩ := List.mem_map.1 hr
      obtain ⟨e1, e2⟩ := List.mem_filter.1 e1
      have := tgt_fits h1 (compactE_mem e1).2.2
      rw [sEq_iff.1 e2] at this
      exact this
    have kl : (keysE s cs D[k].table).2.length ≤ 24 := by
      unfold keysE
      split
      · simp
      split
      · simp
      simp only [List.length_map]
      refine Nat.le_trans (List.length_filter_le _ _) ?_
      have := compactE_length s cs
      omega
    obtain ⟨KS, hKS⟩ : ∃ x, (keysE s cs D[k].table).2 = x := ⟨_, rfl⟩
    rw [k1, hKS] at sk
    rw [hKS] at hK kl k2
    have sA := affected_sat s D[k] hf.tables (fun t ht => by have := (sm.table t ht).2; omega) (dfit.2 _ (List.getElem_mem hc)).2
    rw [refT_at k3] at sA
    simp only at sA
    have hgf := hK _ k2
    have sE := encode_sat (tgt (tblOf s D[k].table) D[k]) hgf
    have sN := containsNm_sat N D[k].table (by omega)
    have hN2 : hasName N D[k].table = true := by rw [← d2]; exact n2 d d1
    rw [hN2] at sN
    have sC := containsRow_sat KS 13 [.fz [.str (encB (tgt (tblOf s D[k].table) D[k]))]] (fun r => sEq (encB r) (encB (tgt (tblOf s D[k].table) D[k]))) (by omega) fun r hr => cover1_sat r _ (hK r hr)
    have hpos : decide (0 ≤ idx (fun r => sEq (encB r) (encB (tgt (tblOf s D[k].table) D[k]))) KS 0) = true := by
      rw [idx_any]
      exact List.any_eq_true.2 ⟨_, k2, sEq_iff.2 rfl⟩
    rw [hpos] at sC
    repeat' (first | ((first | with_reducible refine qV tyOk fun K hK => ?_ | (with_reducible first | refine qG ?_ | refine qH ?_ | refine qP ?_ | refine qGx ?_ | refine qHx ?_ | refine qPx ?_) | ((with_reducible first | refine qS ?_ ?_ | refine qT ?_ ?_ | refine qU ?_ ?_) <;> (intro h; try simp only [NM] at h)) | ((with_reducible refine CallJ.is ?_); (first | refine CallJ.pure (sk) ?_ | refine CallJ.pure (sA) ?_ | refine CallJ.pure (sE) ?_ | refine CallJ.pure (sN) ?_ | refine CallJ.pure (sC) ?_ | ((apply CallJ.lentI); (focus (simp -dsimp (disch := (first | omega | (simp only [LN]; omega))) only [go_sem, ↓reduceIte, seval]; rfl)); (focus (first | exact (sk) | exact (sA) | exact (sE) | exact (sN) | exact (sC)))))) | ((with_reducible refine CallH.is ?_); (first | refine CallH.intro (sk) ?_ | refine CallH.intro (sA) ?_ | refine CallH.intro (sE) ?_ | refine CallH.intro (sN) ?_ | refine CallH.intro (sC) ?_))) <;> simp -dsimp (disch := (first | omega | (simp only [LN]; omega))) only [go_sem, ↓reduceIte, seval]) | ((with_reducible refine hK _ ?_); clear hK K) | (with_reducible first | refine qA ?_ | refine qB ?_ | refine qC ?_ | refine qD ?_ | refine qE ?_ | refine qF ?_ | refine qL ?_ | refine qM ?_ | refine qN ?_ | refine qO ?_ | refine qQ ?_) | refine qR rfl ?_ | (with_reducible refine AI ?_) | ((with_reducible refine qW (T := TT) (b := ?_) ?_ ?_); rotate_left; exact rfl) | (with_reducible first | refine qX ?_ | refine qY ?_ | refine qZ ?_) | (with_reducible first | refine qI ?_ | refine qIx ?_ | fail) | ((with_reducible refine yS ?_ ?_) <;> (intro h; try simp only [NM] at h)))
    refine ⟨⟨k + 1, by omega⟩, by simp only; omega, ?_⟩
    refine St.le_mk ?_ ?_ ?_ <;> simp only [LE, EN, Nat.reduceEqDiff, reduceIte, Nat.reduceSub, eSch]
  · repeat' (first | ((first | with_reducible refine qV tyOk fun K hK => ?_ | (with_reducible first | refine qG ?_ | refine qH ?_ | refine qP ?_ | refine qGx ?_ | refine qHx ?_ | refine qPx ?_) | ((with_reducible first | refine qS ?_ ?_ | refine qT ?_ ?_ | refine qU ?_ ?_) <;> (intro h; try simp only [NM] at h))) <;> simp -dsimp (disch := (first | omega | (simp only [LN]; omega))) only [go_sem, ↓reduceIte, seval]) | ((with_reducible refine hK _ ?_); clear hK K) | (with_reducible first | refine qA ?_ | refine qB ?_ | refine qC ?_ | refine qD ?_ | refine qE ?_ | refine qF ?_ | refine qL ?_ | refine qM ?_ | refine qN ?_ | refine qO ?_ | refine qQ ?_) | refine qR rfl ?_ | (with_reducible refine AI ?_) | ((with_reducible refine qW (T := TT) (b := ?_) ?_ ?_); rotate_left; exact rfl) | (with_reducible first | refine qX ?_ | refine qY ?_ | refine qZ ?_) | (with_reducible first | refine qI ?_ | refine qIx ?_ | fail) | ((with_reducible refine yS ?_ ?_) <;> (intro h; try simp only [NM] at h)))
    simp -dsimp (disch := (first | omega | (simp only [LN]; omega))) only [retQ, Tryz.results3, resVals, cellRV, resOf, St.rest, St.freeze, RT, go_sem, ↓reduceIte, seval]

section
open Go.ChangeShapes Go.RowKit Go.Proofs.YtjjnchbfjbjemaaGreatDoor Go.Proofs

theorem gPow : Tryz.prog.globalNamed "internal/strconv.uint64pow10" = some 0 := by kernel_rfl
theorem tPow : (Tryz.prog.globals[0]?).map (·.type) = some 173 := by kernel_rfl
theorem gSyn : Tryz.prog.globalNamed "strconv.ErrSyntax" = none := by kernel_rfl
theorem gRng : Tryz.prog.globalNamed "strconv.ErrRange" = none := by kernel_rfl
theorem laidW_rel {W : World} (h : laidMet Tryz.prog Rows.deltaKeysCoverRow.laid W) : LaidW Tryz.prog W where
  pow := fun _ => Lib.tabIs_of_head (k := .u64) (zs := (List.range 20).map fun i => ((10 ^ i : Nat) : Int)) gPow tPow Tryz.underlying173 Tryz.underlying146 (by kernel_rfl) (by kernel_rfl) h.tail.tail
  rng := fun q => by rw [gRng] at q; cases q
  syn := fun q => by rw [gSyn] at q; cases q
end
end Go.Bw
