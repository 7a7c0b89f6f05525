/-
  WHAT IS PROVED HERE, of this translation: take_next, eq_of_take, ne_of_get, ne_of_len, equalInts_sat, equalFKs_sat, validate1_sat, containsFK_sat, indexCon_sat, containsCon_sat, idx_cases, scan_none, mx0_nat, mx0_neg, okTbl_of, validateFK_sat, satisfies_sat, validate_sat, bytes_ext, zV_iff, validateCon_sat, containsCon_take, schValidate_sat, people_sat, integer_sat, bl_irrefl, bl_cons, bl_trans, bl_total, chain_lt, .., cloneRow_own, cloneRow_sat, relClone_own, relClone_sat, find_sat, conforms_sat, scan_ne, scan_all, scan_eq_none, scan_zero, tblsE_ne, fksE_ne, consE_ne, schE_zero, OkTbl.pk_ge, OkTbl.pk6, fkE_zero, small_of, cellE_ne, rowE_zero, pairE_ne, relE_ne, pairs_none, confE_zero, bounds_of, Small.bounds0, deleteRows_own, CallJ.apart, insertRow_own.
  A theorem that ends in sat says what the function it names returns, whatever the state it is called in; the bounds on its arguments stand ahead of it.
-/
import Derived.Test.YtjjnchbfjbjemaaGreatDoorN21d
set_option linter.unusedSimpArgs false
set_option linter.unusedVariables false

namespace Go.Bw
open Go.Proofs
attribute [local go_sem ↓] VOps_nil VOps_cons VOp_callJ VVal_callH VOps_guard GOn_tt GOn_ff GOn_tf GOn_ft GOn_not GOn_none HOn_none HOn_tt HOn_ff HOn_tf HOn_ft HOn_not VHead_nil VHead_cons VHead_guard VVal_move VVal_assign VVal_pickE pickK_true pickK_false VVal_not VVal_neg negK_int VVal_load loadK_fz loadK_ptr loadK_eptr VVal_fieldAddr VVal_field VVal_indexAddr idxK_sl idxK_ref VVal_index indexK_str VVal_extract VVal_binOp binK_one binK_agg VVal_build VVal_buildSlice VVal_makeFunc VVal_slice sliceK_str sliceK_sl sliceK_nil sliceK_ref VVal_slice3 VVal_nilCheck VVal_convert convKk_int convKk_str VVal_len VVal_max VVal_min VOp_assign assignK_int assignK_bool assignK_str assignK_clo assignK_sl assignK_nil assignK_ref assignK_agg assignK_fz assignK_ptr assignK_eptr assignK_any VOp_box VOp_alloc VOp_store storeK_ptr storeK_eptr VOp_buildSlice VOp_append appK_rr appK_rs appK_rn appK_ri appK_nr appK_ns appK_nn appK_ni appStd_eq VOp_copy copyK_ref VOp_clear clearK_ref VOp_cap VOp_eqNil VOp_move VOp_pick VOp_not VOp_neg VOp_load VOp_fieldAddr VOp_field VOp_indexAddr VOp_index VOp_extract VOp_binTmp VOp_binInt VOp_binStr VOp_binPtr VOp_build VOp_makeFunc VOp_slice VOp_nilCheck VOp_convert VOp_len VOp_max VOp_min mO_some mT_some pk_some pk_none look_cons del_cons
attribute [local go_sem] guardB gOf int_bne beq_true beq_false Bool.not_not gSlot pickK_true pickK_false negK_int loadK_fz loadK_ptr loadK_eptr idxK_sl idxK_ref indexK_str binK_one binK_agg sliceK_str sliceK_sl sliceK_nil sliceK_ref convKk_int convKk_str maxL minL assignK_int assignK_bool assignK_str assignK_clo assignK_sl assignK_nil assignK_ref assignK_agg assignK_fz assignK_ptr assignK_eptr assignK_any nilRow_eq takeRow_eq appended_eq storeK_ptr storeK_eptr store_mk appIn_eq appMk_eq marked_eq ovOut_nil ovOut_cons ovIn_nil ovIn_cons padRow_eq ysC capK_nil capK_ref ioSt_mk outB_nil outR_nil outB outR inB_nil inB_cons inR_nil inR_cons L.kl L.kl0 L.ids L.ids0 Option.getD_some evalO constA mO_some mT_some put_mk putO_some putO_none okD_some okD_none pk_some pk_none look_nil del_nil sput noBox_mk noRow_mk newBox_eq newRow0_eq St.killRow RowC.kill rowMap_mk rowOf ovAll ovAdd ovDel ovGet ovShift dstOf ysOf overlay_nil overlay_nil' overlay A.map V.map L.noPtr L.noPtr0 L.noRow L.noRow0 L.peek L.norm L.flat clos_int clos_bool clos_str clos_sl clos_nil clos_any clos_fz L.clos L.isFz L.kd moveL fieldOff eqCells eqCell eqOp oneOf boolOf intOfA tupOf vOf aggOf isPtrLike isSlice lenKind lenL nL elemTI loadV asV binL intBin intDivL shrL boolBin strBin strAdd ptrNil boundN partCells fillL placesOf setL chunks repL capsOf capL callOf argsOf frzV_int frzV_bool frzV_str frzV_sl frzV_nil frzV_fz frzV_any frzV_own frzV_clo frzV_ref frzV_eptr frzV_ptr frzRow_nil frzRow_ov frzRs_nil frzRs_cons frzCs_nil frzCs_cons frzO_some frzO_none frzN_int frzN_bool frzN_str frzN_sl frzN_nil frzN_any frzN_own List.map_cons List.map_nil List.cons_append List.nil_append List.append_nil List.length_cons List.length_nil List.length_map List.length_append List.headD_cons List.tail_cons List.getElem?_cons_zero List.getElem?_cons_succ List.drop_zero List.drop_succ_cons List.drop_nil List.take_succ_cons List.take_zero List.take_nil List.take_length List.filter_cons List.filter_nil List.elem_cons List.elem_nil List.all_cons List.all_nil Option.bind_some Option.map_some Option.some.injEq bne_self_eq_false beq_self_eq_true if_true if_false Bool.false_eq_true true_and and_true and_self Nat.zero_add Nat.add_zero Nat.zero_le Int.toNat_natCast Int.toNat_zero Option.isSome_some List.getElem?_toArray decide_true decide_false ge_iff_le gt_iff_lt Bool.not_true Bool.not_false Nat.le_refl Bool.and_true Bool.true_and Bool.and_false Bool.false_and eVal eRow eRow1 eRows eInt1 eInts eCol eCols eTbl eTbls eFK eFKs eCon eCons eSch eRel eInst eChg eChgs szOf getD_map_lt wrap_nat wrap_in List.take_of_length_le frz_eVal frz_eRow1 frz_eInt1 frz_eCol frz_eTbl frz_eFK frz_eCon frz_eRel frz_eChg noOwn_nil noOwn_cons noOwn_append L.isOwn noOwn_eVal noOwn_eRow1 noOwn_eInt1 noOwn_eCol noOwn_eTbl noOwn_eFK noOwn_eCon noOwn_eRel noOwn_eChg convK_2 convK_3 convK_5 convK_12 convK_21 convK_31 convK_115 convK_136 convK_144 convK_146 convK_155 TT_2 TT_3 TT_4 TT_5 TT_9 TT_12 TT_13 TT_21 TT_22 TT_23 TT_24 TT_25 TT_26 TT_27 TT_28 TT_29 TT_31 TT_36 TT_39 TT_40 TT_41 TT_42 TT_43 TT_52 TT_53 TT_54 TT_55 TT_57 TT_58 TT_59 TT_60 TT_71 TT_77 TT_78 TT_79 TT_90 TT_91 TT_93 TT_94 TT_99 TT_100 TT_115 TT_136 TT_144 TT_146 TT_155 boolTy_4 eqK_60 eqK_91 eqK_100
attribute [local congr] VOps.congr VHead.congr VOp.congr VVal.congr pk.congr assignK.congr appK.congr appStd.congr copyK.congr clearK.congr storeK.congr loadK.congr idxK.congr sliceK.congr indexK.congr binK.congr convKk.congr
def fkEq (a b : FK) : Bool := sEq a.table b.table && decide (a.cols = b.cols) && sEq a.ref b.ref

theorem take_next {α : Type} {a b : List α} {k : Nat} (h1 : k < a.length) (h2 : k < b.length) (h : a.take k = b.take k) (he : a[k] = b[k]) : a.take (k + 1) = b.take (k + 1) := by
  rw [take_snoc a k h1, take_snoc b k h2, h, he]

theorem eq_of_take {α : Type} {a b : List α} {k : Nat} (h1 : a.length ≤ k) (h2 : b.length ≤ k) (h : a.take k = b.take k) : a = b := by
  rwa [List.take_of_length_le h1, List.take_of_length_le h2] at h
theorem ne_of_get {α : Type} {a b : List α} {k : Nat} (h1 : k < a.length) (h2 : k < b.length) (h : ¬ a[k] = b[k]) : ¬ a = b := fun e => h (by subst e; rfl)
theorem ne_of_len {α : Type} {a b : List α} (h : ¬ (a.length : Int) = b.length) : ¬ a = b := fun e => h (by rw [e])
set_option maxHeartbeats 4000000 in
theorem equalInts_sat (a b : List Int) (hl : a.length ≤ 140737488355328) : Sat Tryz.prog 65 [.one (eInts a), .one (eInts b)] (.v (oB (decide (a = b)))) := by
  refine sat_of_body tyOk Tryz.func65 rfl (by kernel_rfl) ⟨Nat.le_of_ble_eq_true rfl, Nat.le_of_ble_eq_true rfl⟩ fun w0 m0 F0 => ?_
  simp only [Tryz.ntmps65, envOf, Nat.reduceAdd]
  repeat' (first | ((first | with_reducible refine qV tyOk fun K hK => ?_ | (with_reducible first | refine qG ?_ | refine qH ?_ | refine qP ?_ | refine qGx ?_ | refine qHx ?_ | refine qPx ?_) | ((with_reducible first | refine qS ?_ ?_ | refine qT ?_ ?_ | refine qU ?_ ?_) <;> (intro h; try simp only [NM] at h)) | with_reducible refine yD tyOk mixed 6 (by kernel_rfl) fun K hK => ?_) <;> simp -dsimp (disch := (first | omega | (simp only [LN]; omega))) only [go_sem, ↓reduceIte, seval]) | ((with_reducible refine hK _ ?_); clear hK K) | (with_reducible first | refine qA ?_ | refine qB ?_ | refine qC ?_ | refine qD ?_ | refine qE ?_ | refine qF ?_ | refine qL ?_ | refine qM ?_ | refine qN ?_ | refine qO ?_ | refine qQ ?_) | refine qR rfl ?_ | (with_reducible refine AI ?_) | ((with_reducible refine qW (T := TT) (b := ?_) ?_ ?_); rotate_left; exact rfl) | (with_reducible first | refine qX ?_ | refine qY ?_ | refine qZ ?_) | (with_reducible first | refine qI ?_ | refine qIx ?_ | fail) | ((with_reducible refine yS ?_ ?_) <;> (intro h; try simp only [NM] at h)))
  rotate_left
  · simp -dsimp (disch := (first | omega | (simp only [LN]; omega))) only [retQ, Tryz.results65, resVals, cellRV, resOf, St.rest, St.freeze, RT, go_sem, ↓reduceIte, seval]
    simp [ne_of_len ‹_›]
  refine AWP.loop (ι := {k : Nat // k ≤ a.length ∧ a.take k = b.take k}) (fun k => ⟨26, [(0, .v (.one (eInts a))), (1, .v (.one (eInts b))), (12, .v (oI a.length)), (13, .v (oI k.1))], [], []⟩) (fun k => a.length - k.1) ⟨0, Nat.zero_le _, rfl⟩ ?_ fun ⟨k, hkl, hi⟩ => ?_
  · refine St.le_mk ?_ ?_ ?_ <;> simp only [LE, EN, Nat.reduceEqDiff, reduceIte, Nat.reduceSub]
  repeat' (first | ((first | with_reducible refine qV tyOk fun K hK => ?_ | (with_reducible first | refine qG ?_ | refine qH ?_ | refine qP ?_ | refine qGx ?_ | refine qHx ?_ | refine qPx ?_) | ((with_reducible first | refine qS ?_ ?_ | refine qT ?_ ?_ | refine qU ?_ ?_) <;> (intro h; try simp only [NM] at h)) | with_reducible refine yD tyOk mixed 6 (by kernel_rfl) fun K hK => ?_) <;> simp -dsimp (disch := (first | omega | (simp only [LN]; omega))) only [go_sem, ↓reduceIte, seval]) | ((with_reducible refine hK _ ?_); clear hK K) | (with_reducible first | refine qA ?_ | refine qB ?_ | refine qC ?_ | refine qD ?_ | refine qE ?_ | refine qF ?_ | refine qL ?_ | refine qM ?_ | refine qN ?_ | refine qO ?_ | refine qQ ?_) | refine qR rfl ?_ | (with_reducible refine AI ?_) | ((with_reducible refine qW (T := TT) (b := ?_) ?_ ?_); rotate_left; exact rfl) | (with_reducible first | refine qX ?_ | refine qY ?_ | refine qZ ?_) | (with_reducible first | refine qI ?_ | refine qIx ?_ | fail) | ((with_reducible refine yS ?_ ?_) <;> (intro h; try simp only [NM] at h)))
  · have ha : k < a.length := by omega
    have hb : k < b.length := by omega
    rename_i h1 h2 h
    refine ⟨⟨k + 1, by omega, take_next ha hb hi h⟩, by simp only; omega, ?_⟩
    refine St.le_mk ?_ ?_ ?_ <;> simp only [LE, EN, Nat.reduceEqDiff, reduceIte, Nat.reduceSub]
  · have ha : k < a.length := by omega
    have hb : k < b.length := by omega
    simp -dsimp (disch := (first | omega | (simp only [LN]; omega))) only [retQ, Tryz.results65, resVals, cellRV, resOf, St.rest, St.freeze, RT, go_sem, ↓reduceIte, seval]
    rename_i h1 h
    simp [ne_of_get ha hb h]
  · have ha : a.length ≤ k := by omega
    have hb : b.length ≤ k := by omega
    simp -dsimp (disch := (first | omega | (simp only [LN]; omega))) only [retQ, Tryz.results65, resVals, cellRV, resOf, St.rest, St.freeze, RT, go_sem, ↓reduceIte, seval]
    simp [eq_of_take ha hb hi]

set_option maxHeartbeats 4000000 in
theorem equalFKs_sat (a b : FK) (hl : a.cols.length ≤ 140737488355328) : Sat Tryz.prog 38 [.agg (eFK a), .agg (eFK b)] (.v (oB (fkEq a b))) := by
  refine sat_of_body tyOk Tryz.func38 rfl (by kernel_rfl) ⟨Nat.le_of_ble_eq_true rfl, Nat.le_of_ble_eq_true rfl⟩ fun w0 m0 F0 => ?_
  simp only [Tryz.ntmps38, envOf, Nat.reduceAdd]
  repeat' (first | ((first | with_reducible refine qV tyOk fun K hK => ?_ | (with_reducible first | refine qG ?_ | refine qH ?_ | refine qP ?_ | refine qGx ?_ | refine qHx ?_ | refine qPx ?_) | ((with_reducible first | refine qS ?_ ?_ | refine qT ?_ ?_ | refine qU ?_ ?_) <;> (intro h; try simp only [NM] at h)) | with_reducible refine yD tyOk mixed 6 (by kernel_rfl) fun K hK => ?_ | ((with_reducible refine CallJ.is ?_); (first | refine CallJ.pure (equalInts_sat _ _ hl) ?_ | ((apply CallJ.lentI); (focus (simp -dsimp (disch := (first | omega | (simp only [LN]; omega))) only [go_sem, ↓reduceIte, seval]; rfl)); (focus (first | exact (equalInts_sat _ _ hl)))))) | ((with_reducible refine CallH.is ?_); (first | refine CallH.intro (equalInts_sat _ _ hl) ?_))) <;> simp -dsimp (disch := (first | omega | (simp only [LN]; omega))) only [go_sem, ↓reduceIte, seval]) | ((with_reducible refine hK _ ?_); clear hK K) | (with_reducible first | refine qA ?_ | refine qB ?_ | refine qC ?_ | refine qD ?_ | refine qE ?_ | refine qF ?_ | refine qL ?_ | refine qM ?_ | refine qN ?_ | refine qO ?_ | refine qQ ?_) | refine qR rfl ?_ | (with_reducible refine AI ?_) | ((with_reducible refine qW (T := TT) (b := ?_) ?_ ?_); rotate_left; exact rfl) | (with_reducible first | refine qX ?_ | refine qY ?_ | refine qZ ?_) | (with_reducible first | refine qI ?_ | refine qIx ?_ | fail) | ((with_reducible refine yS ?_ ?_) <;> (intro h; try simp only [NM] at h)))
  all_goals simp -dsimp (disch := (first | omega | (simp only [LN]; omega))) only [retQ, Tryz.results38, resVals, cellRV, resOf, St.rest, St.freeze, RT, go_sem, ↓reduceIte, seval]
  all_goals simp_all [fkEq, sEq]

theorem validate1_sat (a b : FK) (hl : a.cols.length ≤ 140737488355328) : Sat Tryz.prog 37 [.agg (eFK a), .one (.fz (eFK b))] (.v (oB (fkEq a b))) := by
  refine sat_of_body tyOk Tryz.func37 rfl (by kernel_rfl) ⟨Nat.le_of_ble_eq_true rfl, Nat.le_of_ble_eq_true rfl⟩ fun w0 m0 F0 => ?_
  simp only [Tryz.ntmps37, envOf, Nat.reduceAdd]
  repeat' (first | ((first | with_reducible refine qV tyOk fun K hK => ?_ | (with_reducible first | refine qG ?_ | refine qH ?_ | refine qP ?_ | refine qGx ?_ | refine qHx ?_ | refine qPx ?_) | ((with_reducible first | refine qS ?_ ?_ | refine qT ?_ ?_ | refine qU ?_ ?_) <;> (intro h; try simp only [NM] at h)) | with_reducible refine yD tyOk mixed 6 (by kernel_rfl) fun K hK => ?_ | ((with_reducible refine CallJ.is ?_); (first | refine CallJ.pure (equalFKs_sat _ _ hl) ?_ | ((apply CallJ.lentI); (focus (simp -dsimp (disch := (first | omega | (simp only [LN]; omega))) only [go_sem, ↓reduceIte, seval]; rfl)); (focus (first | exact (equalFKs_sat _ _ hl)))))) | ((with_reducible refine CallH.is ?_); (first | refine CallH.intro (equalFKs_sat _ _ hl) ?_))) <;> simp -dsimp (disch := (first | omega | (simp only [LN]; omega))) only [go_sem, ↓reduceIte, seval]) | ((with_reducible refine hK _ ?_); clear hK K) | (with_reducible first | refine qA ?_ | refine qB ?_ | refine qC ?_ | refine qD ?_ | refine qE ?_ | refine qF ?_ | refine qL ?_ | refine qM ?_ | refine qN ?_ | refine qO ?_ | refine qQ ?_) | refine qR rfl ?_ | (with_reducible refine AI ?_) | ((with_reducible refine qW (T := TT) (b := ?_) ?_ ?_); rotate_left; exact rfl) | (with_reducible first | refine qX ?_ | refine qY ?_ | refine qZ ?_) | (with_reducible first | refine qI ?_ | refine qIx ?_ | fail) | ((with_reducible refine yS ?_ ?_) <;> (intro h; try simp only [NM] at h)))
  simp -dsimp (disch := (first | omega | (simp only [LN]; omega))) only [retQ, Tryz.results37, resVals, cellRV, resOf, St.rest, St.freeze, RT, go_sem, ↓reduceIte, seval]

theorem containsFK_sat (l : List FK) (f : Nat) (cs : List L) (p : FK → Bool) (hlen : l.length ≤ 140737488355328) (hp : ∀ t ∈ l, Sat Tryz.prog f (.agg (eFK t) :: cs.map .one) (.v (oB (p t)))) :
    Sat Tryz.prog 36 [.one (eFKs l), .one (.clo f cs)] (.v (oB (decide (0 ≤ idx p l 0)))) := by
  refine sat_of_body tyOk Tryz.func36 rfl (by kernel_rfl) ⟨Nat.le_of_ble_eq_true rfl, Nat.le_of_ble_eq_true rfl⟩ fun w0 m0 F0 => ?_
  simp only [Tryz.ntmps36, envOf, Nat.reduceAdd]
  repeat' (first | ((first | with_reducible refine qV tyOk fun K hK => ?_ | (with_reducible first | refine qG ?_ | refine qH ?_ | refine qP ?_ | refine qGx ?_ | refine qHx ?_ | refine qPx ?_) | ((with_reducible first | refine qS ?_ ?_ | refine qT ?_ ?_ | refine qU ?_ ?_) <;> (intro h; try simp only [NM] at h)) | with_reducible refine yD tyOk mixed 6 (by kernel_rfl) fun K hK => ?_ | ((with_reducible refine CallJ.is ?_); (first | refine CallJ.pure (indexFuncFK_sat l _ _ _ hlen hp) ?_ | ((apply CallJ.lentI); (focus (simp -dsimp (disch := (first | omega | (simp only [LN]; omega))) only [go_sem, ↓reduceIte, seval]; rfl)); (focus (first | exact (indexFuncFK_sat l _ _ _ hlen hp)))))) | ((with_reducible refine CallH.is ?_); (first | refine CallH.intro (indexFuncFK_sat l _ _ _ hlen hp) ?_))) <;> simp -dsimp (disch := (first | omega | (simp only [LN]; omega))) only [go_sem, ↓reduceIte, seval]) | ((with_reducible refine hK _ ?_); clear hK K) | (with_reducible first | refine qA ?_ | refine qB ?_ | refine qC ?_ | refine qD ?_ | refine qE ?_ | refine qF ?_ | refine qL ?_ | refine qM ?_ | refine qN ?_ | refine qO ?_ | refine qQ ?_) | refine qR rfl ?_ | (with_reducible refine AI ?_) | ((with_reducible refine qW (T := TT) (b := ?_) ?_ ?_); rotate_left; exact rfl) | (with_reducible first | refine qX ?_ | refine qY ?_ | refine qZ ?_) | (with_reducible first | refine qI ?_ | refine qIx ?_ | fail) | ((with_reducible refine yS ?_ ?_) <;> (intro h; try simp only [NM] at h)))
  simp -dsimp (disch := (first | omega | (simp only [LN]; omega))) only [retQ, Tryz.results36, resVals, cellRV, resOf, St.rest, St.freeze, RT, go_sem, ↓reduceIte, seval]

def conEq (a b : Con) : Bool := sEq a.table b.table && (a.left == b.left) && sEq a.op b.op && (a.right == b.right) && (a.value.kind == b.value.kind) && (a.value.int == b.value.int) && sEq a.value.text b.value.text

set_option maxHeartbeats 4000000 in
theorem indexCon_sat (l : List Con) (c : Con) (hlen : l.length ≤ 140737488355328) :
    Sat Tryz.prog 68 [.one (eCons l), .agg (eCon c)] (.v (oI (idx (conEq c) l 0))) := by
  refine sat_of_body tyOk Tryz.func68 rfl (by kernel_rfl) ⟨Nat.le_of_ble_eq_true rfl, Nat.le_of_ble_eq_true rfl⟩ fun w0 m0 F0 => ?_
  simp only [Tryz.ntmps68, envOf, Nat.reduceAdd]
  repeat' (first | ((first | with_reducible refine qV tyOk fun K hK => ?_ | (with_reducible first | refine qG ?_ | refine qH ?_ | refine qP ?_ | refine qGx ?_ | refine qHx ?_ | refine qPx ?_) | ((with_reducible first | refine qS ?_ ?_ | refine qT ?_ ?_ | refine qU ?_ ?_) <;> (intro h; try simp only [NM] at h)) | with_reducible refine yD tyOk mixed 6 (by kernel_rfl) fun K hK => ?_) <;> simp -dsimp (disch := (first | omega | (simp only [LN]; omega))) only [go_sem, ↓reduceIte, seval]) | ((with_reducible refine hK _ ?_); clear hK K) | (with_reducible first | refine qA ?_ | refine qB ?_ | refine qC ?_ | refine qD ?_ | refine qE ?_ | refine qF ?_ | refine qL ?_ | refine qM ?_ | refine qN ?_ | refine qO ?_ | refine qQ ?_) | refine qR rfl ?_ | (with_reducible refine AI ?_) | ((with_reducible refine qW (T := TT) (b := ?_) ?_ ?_); rotate_left; exact rfl) | (with_reducible first | refine qX ?_ | refine qY ?_ | refine qZ ?_) | (with_reducible first | refine qI ?_ | refine qIx ?_ | fail) | ((with_reducible refine yS ?_ ?_) <;> (intro h; try simp only [NM] at h)))
  refine AWP.loop (ι := {k : Nat // k ≤ l.length ∧ idx (conEq c) (l.drop k) k = idx (conEq c) l 0}) (fun k => ⟨19, [(0, .v (.one (eCons l))), (3, .v (.one (.ptr 3 0))), (7, .v (oI l.length)), (8, .v (oI k.1))], [(3, eCon c)], []⟩) (fun k => l.length - k.1) ⟨0, Nat.zero_le _, rfl⟩ ?_ fun ⟨k, hkl, hi⟩ => ?_
  · refine St.le_mk ?_ ?_ ?_ <;> simp only [LE, EN, Nat.reduceEqDiff, reduceIte, Nat.reduceSub]
  repeat' (first | ((first | with_reducible refine qV tyOk fun K hK => ?_ | (with_reducible first | refine qG ?_ | refine qH ?_ | refine qP ?_ | refine qGx ?_ | refine qHx ?_ | refine qPx ?_) | ((with_reducible first | refine qS ?_ ?_ | refine qT ?_ ?_ | refine qU ?_ ?_) <;> (intro h; try simp only [NM] at h)) | with_reducible refine yD tyOk mixed 6 (by kernel_rfl) fun K hK => ?_) <;> simp -dsimp (disch := (first | omega | (simp only [LN]; omega))) only [go_sem, ↓reduceIte, seval]) | ((with_reducible refine hK _ ?_); clear hK K) | (with_reducible first | refine qA ?_ | refine qB ?_ | refine qC ?_ | refine qD ?_ | refine qE ?_ | refine qF ?_ | refine qL ?_ | refine qM ?_ | refine qN ?_ | refine qO ?_ | refine qQ ?_) | refine qR rfl ?_ | (with_reducible refine AI ?_) | ((with_reducible refine qW (T := TT) (b := ?_) ?_ ?_); rotate_left; exact rfl) | (with_reducible first | refine qX ?_ | refine qY ?_ | refine qZ ?_) | (with_reducible first | refine qI ?_ | refine qIx ?_ | fail) | ((with_reducible refine yS ?_ ?_) <;> (intro h; try simp only [NM] at h)))
  all_goals first
    | (have hk : ¬ k < l.length := by omega
       simp -dsimp (disch := (first | omega | (simp only [LN]; omega))) only [retQ, Tryz.results68, resVals, cellRV, resOf, St.rest, St.freeze, RT, go_sem, ↓reduceIte, seval]
       rw [← hi, idx_end hk]
       done)
    | (have hk : k < l.length := by omega
       have he : conEq c l[k] = true := by simp_all [conEq, sEq]
       simp -dsimp (disch := (first | omega | (simp only [LN]; omega))) only [retQ, Tryz.results68, resVals, cellRV, resOf, St.rest, St.freeze, RT, go_sem, ↓reduceIte, seval]
       rw [← hi, idx_hit hk he]
       done)
    | (have hk : k < l.length := by omega
       have he : conEq c l[k] = false := by simp_all [conEq, sEq]
       refine ⟨⟨k + 1, by omega, by rw [idx_step hk he, hi]⟩, by simp only; omega, ?_⟩
       refine St.le_mk ?_ ?_ ?_ <;> simp only [LE, EN, Nat.reduceEqDiff, reduceIte, Nat.reduceSub]
       )

theorem containsCon_sat (l : List Con) (c : Con) (hlen : l.length ≤ 140737488355328) :
    Sat Tryz.prog 40 [.one (eCons l), .agg (eCon c)] (.v (oB (decide (0 ≤ idx (conEq c) l 0)))) := by
  refine sat_of_body tyOk Tryz.func40 rfl (by kernel_rfl) ⟨Nat.le_of_ble_eq_true rfl, Nat.le_of_ble_eq_true rfl⟩ fun w0 m0 F0 => ?_
  simp only [Tryz.ntmps40, envOf, Nat.reduceAdd]
  repeat' (first | ((first | with_reducible refine qV tyOk fun K hK => ?_ | (with_reducible first | refine qG ?_ | refine qH ?_ | refine qP ?_ | refine qGx ?_ | refine qHx ?_ | refine qPx ?_) | ((with_reducible first | refine qS ?_ ?_ | refine qT ?_ ?_ | refine qU ?_ ?_) <;> (intro h; try simp only [NM] at h)) | with_reducible refine yD tyOk mixed 6 (by kernel_rfl) fun K hK => ?_ | ((with_reducible refine CallJ.is ?_); (first | refine CallJ.pure (indexCon_sat l _ hlen) ?_ | ((apply CallJ.lentI); (focus (simp -dsimp (disch := (first | omega | (simp only [LN]; omega))) only [go_sem, ↓reduceIte, seval]; rfl)); (focus (first | exact (indexCon_sat l _ hlen)))))) | ((with_reducible refine CallH.is ?_); (first | refine CallH.intro (indexCon_sat l _ hlen) ?_))) <;> simp -dsimp (disch := (first | omega | (simp only [LN]; omega))) only [go_sem, ↓reduceIte, seval]) | ((with_reducible refine hK _ ?_); clear hK K) | (with_reducible first | refine qA ?_ | refine qB ?_ | refine qC ?_ | refine qD ?_ | refine qE ?_ | refine qF ?_ | refine qL ?_ | refine qM ?_ | refine qN ?_ | refine qO ?_ | refine qQ ?_) | refine qR rfl ?_ | (with_reducible refine AI ?_) | ((with_reducible refine qW (T := TT) (b := ?_) ?_ ?_); rotate_left; exact rfl) | (with_reducible first | refine qX ?_ | refine qY ?_ | refine qZ ?_) | (with_reducible first | refine qI ?_ | refine qIx ?_ | fail) | ((with_reducible refine yS ?_ ?_) <;> (intro h; try simp only [NM] at h)))
  simp -dsimp (disch := (first | omega | (simp only [LN]; omega))) only [retQ, Tryz.results40, resVals, cellRV, resOf, St.rest, St.freeze, RT, go_sem, ↓reduceIte, seval]

theorem idx_cases {α : Type} (p : α → Bool) : ∀ (l : List α) (k : Nat), (idx p l k = -1 ∧ ∀ x ∈ l, p x = false) ∨ ∃ j, ∃ h : j < l.length, idx p l k = ((k + j : Nat) : Int) ∧ p l[j] = true ∧ ∀ i, ∀ hi : i < j, p (l[i]'(by omega)) = false
  | [], k => .inl ⟨rfl, fun x hx => by cases hx⟩
  | x :: l, k => by
    cases hx : p x with
    | true => exact .inr ⟨0, by simp, by simp [idx, hx], by simpa using hx, fun i hi => by omega⟩
    | false =>
      rcases idx_cases p l (k + 1) with ⟨h1, h2⟩ | ⟨j, hj, h1, h2, h3⟩
      · refine .inl ⟨by simp [idx, hx, h1], fun y hy => ?_⟩
        rcases List.mem_cons.1 hy with rfl | hy
        · exact hx
        · exact h2 y hy
      · refine .inr ⟨j + 1, by simpa using hj, ?_, by simpa using h2, fun i hi => ?_⟩
        · simp only [idx, hx, Bool.false_eq_true, if_false, h1]
          omega
        · cases i with
          | zero => simpa using hx
          | succ i => simpa using h3 i (by omega)

theorem scan_none {α : Type} {f : Nat → α → Option Int} : ∀ {l : List α} {k : Nat}, scan f l k = none → ∀ j, ∀ h : j < l.length, f (k + j) l[j] = none
  | [], k, _, j, h => by simp at h
  | x :: l, k, hs, j, h => by
    unfold scan at hs
    split at hs
    · cases hs
    · rename_i hx
      cases j with
      | zero => simpa using hx
      | succ j =>
        have := scan_none hs j (by simpa using h)
        rw [show k + (j + 1) = k + 1 + j by omega]
        simpa using this

theorem mx0_nat (i : Nat) : mx0 (i : Int) = i := by simp [mx0]; omega
theorem mx0_neg : mx0 (-1) = 0 := rfl

structure OkTbl (t : Tbl) : Prop where
  name : validName t.name = true
  cols0 : t.cols.length ≠ 0
  cols6 : t.cols.length ≤ 6
  col : ∀ k, ∀ h : k < t.cols.length, validName t.cols[k].name = true ∧ (k : Int) ≤ mx0 (colAt t.cols t.cols[k].name) ∧ 1 ≤ t.cols[k].kind ∧ t.cols[k].kind ≤ 3
  key : ∀ k, ∀ h : k < t.pk.length, 0 ≤ t.pk[k] ∧ t.pk[k] < t.cols.length ∧ (t.cols.getD t.pk[k].toNat zCol).nullable = false ∧ ∀ h0 : 0 < k, t.pk[k - 1] < t.pk[k]
  pk0 : t.pk.length ≠ 0

theorem okTbl_of {t : Tbl} (h : tblE t = 0) : OkTbl t := by
  unfold tblE at h
  split at h
  · cases h
  split at h
  · cases h
  split at h
  · cases h
  rename_i h1 h2 h3
  cases hc : scan (colE t) t.cols 0 with
  | some e =>
    rw [hc] at h
    simp only at h
    subst h
    exfalso
    -- no code of a column is 0
    have : ∀ (l : List Col) (k : Nat) (e : Int), scan (colE t) l k = some e → e ≠ 0 := by
      intro l
      induction l with
      | nil => intro k e he; cases he
      | cons x l ih =>
        intro k e he
        unfold scan at he
        split at he
        · rename_i e' he'
          injection he with he
          subst he
          unfold colE at he'
          split at he'
          · injection he' with he'; omega
          split at he'
          · injection he' with he'; omega
          split at he'
          · injection he' with he'; omega
          · cases he'
        · exact ih _ _ he
    exact this _ _ _ hc rfl
  | none =>
    rw [hc] at h
    simp only at h
    cases hp : scan (pkE t) t.pk 0 with
    | some e =>
      rw [hp] at h
      simp only at h
      subst h
      exfalso
      have : ∀ (l : List Int) (k : Nat) (e : Int), scan (pkE t) l k = some e → e ≠ 0 := by
        intro l
        induction l with
        | nil => intro k e he; cases he
        | cons x l ih =>
          intro k e he
          unfold scan at he
          split at he
          · rename_i e' he'
            injection he with he
            subst he
            unfold pkE at he'
            split at he'
            · injection he' with he'; omega
            · cases he'
          · exact ih _ _ he
      exact this _ _ _ hp rfl
    | none =>
      rw [hp] at h
      simp only at h
      split at h
      · cases h
      rename_i h4
      refine ⟨by simpa using h1, h2, by omega, fun k hk => ?_, fun k hk => ?_, h4⟩
      · have := scan_none hc k hk
        simp only [Nat.zero_add, colE] at this
        split at this
        · cases this
        split at this
        · cases this
        split at this
        · cases this
        rename_i a b c
        exact ⟨by simpa using a, by omega, by omega, by omega⟩
      · have := scan_none hp k hk
        simp only [Nat.zero_add, pkE] at this
        split at this
        · cases this
        rename_i a
        simp only [not_or, Int.not_lt, Int.not_le, Bool.not_eq_true, not_and] at a
        refine ⟨a.1, a.2.1, a.2.2.1, fun h0 => ?_⟩
        have := a.2.2.2 (by omega)
        rw [show ((k : Int) - 1).toNat = k - 1 by omega, List.getD_eq_getElem?_getD, List.getElem?_eq_getElem (by omega)] at this
        simpa using this

def zTbl : Tbl := ⟨ByteArray.empty, [], []⟩

def fkColE (t r : Tbl) (j : Nat) (c : Int) : Option Int :=
  if c < 0 ∨ (t.cols.length : Int) ≤ c then some 3 else if (t.cols.getD c.toNat zCol).kind ≠ (r.cols.getD (r.pk.getD j 0).toNat zCol).kind then some 7 else none
def fkTE (fk : FK) (t r : Tbl) : Int := if fk.cols.length ≠ r.pk.length then 3 else match scan (fkColE t r) fk.cols 0 with | some e => e | none => 0
def fkE (s : Sch) (fk : FK) : Int :=
  if tblAt s.tables fk.table < 0 ∨ tblAt s.tables fk.ref < 0 then 4 else fkTE fk (s.tables.getD (tblAt s.tables fk.table).toNat zTbl) (s.tables.getD (tblAt s.tables fk.ref).toNat zTbl)

set_option maxHeartbeats 8000000 in
theorem validateFK_sat (s : Sch) (fk : FK) (h1 : s.tables.length ≤ 140737488355328) (h2 : fk.cols.length ≤ 140737488355328) (hok : ∀ t ∈ s.tables, OkTbl t) :
    Sat Tryz.prog 35 [.agg (eSch s), .agg (eFK fk)] (.v (oI (fkE s fk))) := by
  rcases idx_cases (fun t => sEq t.name fk.table) s.tables 0 with ⟨e1, _⟩ | ⟨i, hi, e1, _⟩
  · have e1 : tblAt s.tables fk.table = -1 := e1
    refine sat_of_body tyOk Tryz.func35 rfl (by kernel_rfl) ⟨Nat.le_of_ble_eq_true rfl, Nat.le_of_ble_eq_true rfl⟩ fun w0 m0 F0 => ?_
    simp only [Tryz.ntmps35, envOf, Nat.reduceAdd]
    repeat' (first | ((first | with_reducible refine qV tyOk fun K hK => ?_ | (with_reducible first | refine qG ?_ | refine qH ?_ | refine qP ?_ | refine qGx ?_ | refine qHx ?_ | refine qPx ?_) | ((with_reducible first | refine qS ?_ ?_ | refine qT ?_ ?_ | refine qU ?_ ?_) <;> (intro h; try simp only [NM] at h)) | ((with_reducible refine CallJ.is ?_); (first | refine CallJ.pure (findTable_sat _ _ h1) ?_ | ((apply CallJ.lentI); (focus (simp -dsimp (disch := (first | omega | (simp only [LN]; omega))) only [go_sem, ↓reduceIte, seval, e1, mx0_neg]; rfl)); (focus (first | exact (findTable_sat _ _ h1)))))) | ((with_reducible refine CallH.is ?_); (first | refine CallH.intro (findTable_sat _ _ h1) ?_))) <;> simp -dsimp (disch := (first | omega | (simp only [LN]; omega))) only [go_sem, ↓reduceIte, seval, e1, mx0_neg]) | ((with_reducible refine hK _ ?_); clear hK K) | (with_reducible first | refine qA ?_ | refine qB ?_ | refine qC ?_ | refine qD ?_ | refine qE ?_ | refine qF ?_ | refine qL ?_ | refine qM ?_ | refine qN ?_ | refine qO ?_ | refine qQ ?_) | refine qR rfl ?_ | (with_reducible refine AI ?_) | ((with_reducible refine qW (T := TT) (b := ?_) ?_ ?_); rotate_left; exact rfl) | (with_reducible first | refine qX ?_ | refine qY ?_ | refine qZ ?_) | (with_reducible first | refine qI ?_ | refine qIx ?_ | fail) | ((with_reducible refine yS ?_ ?_) <;> (intro h; try simp only [NM] at h)))
    simp -dsimp (disch := (first | omega | (simp only [LN]; omega))) only [retQ, Tryz.results35, resVals, cellRV, resOf, St.rest, St.freeze, RT, go_sem, ↓reduceIte, seval]
    simp [fkE, e1]
  have e1 : tblAt s.tables fk.table = (i : Int) := by unfold tblAt; simpa using e1
  rcases idx_cases (fun t => sEq t.name fk.ref) s.tables 0 with ⟨e2, _⟩ | ⟨q, hq, e2, _⟩
  · have e2 : tblAt s.tables fk.ref = -1 := e2
    refine sat_of_body tyOk Tryz.func35 rfl (by kernel_rfl) ⟨Nat.le_of_ble_eq_true rfl, Nat.le_of_ble_eq_true rfl⟩ fun w0 m0 F0 => ?_
    simp only [Tryz.ntmps35, envOf, Nat.reduceAdd]
    repeat' (first | ((first | with_reducible refine qV tyOk fun K hK => ?_ | (with_reducible first | refine qG ?_ | refine qH ?_ | refine qP ?_ | refine qGx ?_ | refine qHx ?_ | refine qPx ?_) | ((with_reducible first | refine qS ?_ ?_ | refine qT ?_ ?_ | refine qU ?_ ?_) <;> (intro h; try simp only [NM] at h)) | ((with_reducible refine CallJ.is ?_); (first | refine CallJ.pure (findTable_sat _ _ h1) ?_ | ((apply CallJ.lentI); (focus (simp -dsimp (disch := (first | omega | (simp only [LN]; omega))) only [go_sem, ↓reduceIte, seval, e1, e2, mx0_neg, mx0_nat]; rfl)); (focus (first | exact (findTable_sat _ _ h1)))))) | ((with_reducible refine CallH.is ?_); (first | refine CallH.intro (findTable_sat _ _ h1) ?_))) <;> simp -dsimp (disch := (first | omega | (simp only [LN]; omega))) only [go_sem, ↓reduceIte, seval, e1, e2, mx0_neg, mx0_nat]) | ((with_reducible refine hK _ ?_); clear hK K) | (with_reducible first | refine qA ?_ | refine qB ?_ | refine qC ?_ | refine qD ?_ | refine qE ?_ | refine qF ?_ | refine qL ?_ | refine qM ?_ | refine qN ?_ | refine qO ?_ | refine qQ ?_) | refine qR rfl ?_ | (with_reducible refine AI ?_) | ((with_reducible refine qW (T := TT) (b := ?_) ?_ ?_); rotate_left; exact rfl) | (with_reducible first | refine qX ?_ | refine qY ?_ | refine qZ ?_) | (with_reducible first | refine qI ?_ | refine qIx ?_ | fail) | ((with_reducible refine yS ?_ ?_) <;> (intro h; try simp only [NM] at h)))
    simp -dsimp (disch := (first | omega | (simp only [LN]; omega))) only [retQ, Tryz.results35, resVals, cellRV, resOf, St.rest, St.freeze, RT, go_sem, ↓reduceIte, seval]
    simp [fkE, e2]
  have e2 : tblAt s.tables fk.ref = (q : Int) := by unfold tblAt; simpa using e2
  have g1 : s.tables.getD i zTbl = s.tables[i] := by simp [List.getD, hi]
  have g2 : s.tables.getD q zTbl = s.tables[q] := by simp [List.getD, hq]
  have spec : fkE s fk = fkTE fk s.tables[i] s.tables[q] := by
    simp only [fkE, e1, e2, Int.toNat_natCast, g1, g2]
    rw [if_neg (by omega)]
  have okr := hok _ (List.getElem_mem hq)
  rw [spec]
  refine sat_of_body tyOk Tryz.func35 rfl (by kernel_rfl) ⟨Nat.le_of_ble_eq_true rfl, Nat.le_of_ble_eq_true rfl⟩ fun w0 m0 F0 => ?_
  simp only [Tryz.ntmps35, envOf, Nat.reduceAdd]
  repeat' (first | ((first | with_reducible refine qV tyOk fun K hK => ?_ | (with_reducible first | refine qG ?_ | refine qH ?_ | refine qP ?_ | refine qGx ?_ | refine qHx ?_ | refine qPx ?_) | ((with_reducible first | refine qS ?_ ?_ | refine qT ?_ ?_ | refine qU ?_ ?_) <;> (intro h; try simp only [NM] at h)) | ((with_reducible refine CallJ.is ?_); (first | refine CallJ.pure (findTable_sat _ _ h1) ?_ | ((apply CallJ.lentI); (focus (simp -dsimp (disch := (first | omega | (simp only [LN]; omega))) only [go_sem, ↓reduceIte, seval, e1, e2, mx0_neg, mx0_nat]; rfl)); (focus (first | exact (findTable_sat _ _ h1)))))) | ((with_reducible refine CallH.is ?_); (first | refine CallH.intro (findTable_sat _ _ h1) ?_))) <;> simp -dsimp (disch := (first | omega | (simp only [LN]; omega))) only [go_sem, ↓reduceIte, seval, e1, e2, mx0_neg, mx0_nat]) | ((with_reducible refine hK _ ?_); clear hK K) | (with_reducible first | refine qA ?_ | refine qB ?_ | refine qC ?_ | refine qD ?_ | refine qE ?_ | refine qF ?_ | refine qL ?_ | refine qM ?_ | refine qN ?_ | refine qO ?_ | refine qQ ?_) | refine qR rfl ?_ | (with_reducible refine AI ?_) | ((with_reducible refine qW (T := TT) (b := ?_) ?_ ?_); rotate_left; exact rfl) | (with_reducible first | refine qX ?_ | refine qY ?_ | refine qZ ?_) | (with_reducible first | refine qI ?_ | refine qIx ?_ | fail) | ((with_reducible refine yS ?_ ?_) <;> (intro h; try simp only [NM] at h)))
  refine AWP.drawF tyOk mixed 10 2 8 (bx := [(9, [.str ByteArray.empty, .nil 3, .nil 1]), (10, [.str ByteArray.empty, .nil 3, .nil 1])]) (by kernel_rfl) rfl rfl rfl rfl rfl rfl (fun p hp q hq => ?_) (fun p hp => ?_) fun K2 hK2 => ?_
  · simp only [List.mem_cons, List.not_mem_nil, or_false] at hp hq
    (rcases hp with rfl | rfl) <;> (rcases hq with rfl | rfl) <;> rfl
  · simp only [List.mem_cons, List.not_mem_nil, or_false] at hp
    (rcases hp with rfl | rfl) <;> (simp -dsimp (disch := (first | omega | (simp only [LN]; omega))) only [go_sem, ↓reduceIte, seval])
  simp -dsimp (disch := (first | omega | (simp only [LN]; omega))) only [go_sem, ↓reduceIte, seval]
  repeat (with_reducible refine AI ?_)
  refine hK2 _ (fun p hp => ?_) fun K hK => ?_
  · simp only [List.mem_cons, List.not_mem_nil, or_false] at hp
    (rcases hp with rfl | rfl) <;> (simp -dsimp (disch := (first | omega | (simp only [LN]; omega))) only [go_sem, ↓reduceIte, seval])
  clear hK2 K2
  simp -dsimp (disch := (first | omega | (simp only [LN]; omega))) only [go_sem, ↓reduceIte, seval]
  repeat (with_reducible refine AI ?_)
  refine hK _ ?_
  clear hK K
  repeat' (first | ((first | with_reducible refine qV tyOk fun K hK => ?_ | (with_reducible first | refine qG ?_ | refine qH ?_ | refine qP ?_ | refine qGx ?_ | refine qHx ?_ | refine qPx ?_) | ((with_reducible first | refine qS ?_ ?_ | refine qT ?_ ?_ | refine qU ?_ ?_) <;> (intro h; try simp only [NM] at h)) | with_reducible refine yD tyOk mixed 6 (by kernel_rfl) fun K hK => ?_) <;> simp -dsimp (disch := (first | omega | (simp only [LN]; omega))) only [go_sem, ↓reduceIte, seval]) | ((with_reducible refine hK _ ?_); clear hK K) | (with_reducible first | refine qA ?_ | refine qB ?_ | refine qC ?_ | refine qD ?_ | refine qE ?_ | refine qF ?_ | refine qL ?_ | refine qM ?_ | refine qN ?_ | refine qO ?_ | refine qQ ?_) | refine qR rfl ?_ | (with_reducible refine AI ?_) | ((with_reducible refine qW (T := TT) (b := ?_) ?_ ?_); rotate_left; exact rfl) | (with_reducible first | refine qX ?_ | refine qY ?_ | refine qZ ?_) | (with_reducible first | refine qI ?_ | refine qIx ?_ | fail) | ((with_reducible refine yS ?_ ?_) <;> (intro h; try simp only [NM] at h)))
  rotate_left
  · simp -dsimp (disch := (first | omega | (simp only [LN]; omega))) only [retQ, Tryz.results35, resVals, cellRV, resOf, St.rest, St.freeze, RT, go_sem, ↓reduceIte, seval]
    rename_i hl
    have hl' : ¬ fk.cols.length = s.tables[q].pk.length := by omega
    simp [fkTE, hl']
  have hl : fk.cols.length = s.tables[q].pk.length := by omega
  have spec : fkTE fk s.tables[i] s.tables[q] = match scan (fkColE s.tables[i] s.tables[q]) fk.cols 0 with | some e => e | none => 0 := by simp [fkTE, hl]
  rw [spec]
  refine AWP.loop (ι := {k : Nat // k ≤ fk.cols.length ∧ scan (fkColE s.tables[i] s.tables[q]) (fk.cols.drop k) k = scan (fkColE s.tables[i] s.tables[q]) fk.cols 0}) (fun k => ⟨85, [(9, .v (.one (.ptr 9 0))), (10, .v (.one (.ptr 10 0))), (51, .v (.one (eInts fk.cols))), (52, .v (oI fk.cols.length)), (53, .v (oI k.1))], [(9, eTbl s.tables[i]), (10, eTbl s.tables[q])], []⟩) (fun k => fk.cols.length - k.1) ⟨0, Nat.zero_le _, rfl⟩ ?_ fun ⟨k, hkl, hj⟩ => ?_
  · refine St.le_mk ?_ ?_ ?_ <;> simp only [LE, EN, Nat.reduceEqDiff, reduceIte, Nat.reduceSub, eTbl]
  rcases Nat.lt_or_ge k fk.cols.length with hc | hc
  · have hcp : k < s.tables[q].pk.length := by omega
    obtain ⟨p1, p2, -, -⟩ := okr.key k hcp
    repeat' (first | ((first | with_reducible refine qV tyOk fun K hK => ?_ | (with_reducible first | refine qG ?_ | refine qH ?_ | refine qP ?_ | refine qGx ?_ | refine qHx ?_ | refine qPx ?_) | ((with_reducible first | refine qS ?_ ?_ | refine qT ?_ ?_ | refine qU ?_ ?_) <;> (intro h; try simp only [NM] at h)) | with_reducible refine yD tyOk mixed 6 (by kernel_rfl) fun K hK => ?_) <;> simp -dsimp (disch := (first | omega | (simp only [LN]; omega))) only [go_sem, ↓reduceIte, seval]) | ((with_reducible refine hK _ ?_); clear hK K) | (with_reducible first | refine qA ?_ | refine qB ?_ | refine qC ?_ | refine qD ?_ | refine qE ?_ | refine qF ?_ | refine qL ?_ | refine qM ?_ | refine qN ?_ | refine qO ?_ | refine qQ ?_) | refine qR rfl ?_ | (with_reducible refine AI ?_) | ((with_reducible refine qW (T := TT) (b := ?_) ?_ ?_); rotate_left; exact rfl) | (with_reducible first | refine qX ?_ | refine qY ?_ | refine qZ ?_) | (with_reducible first | refine qI ?_ | refine qIx ?_ | fail) | ((with_reducible refine yS ?_ ?_) <;> (intro h; try simp only [NM] at h)))
    all_goals
      first
        | (have hs : (fkColE s.tables[i] s.tables[q]) k fk.cols[k] = none := by
             (simp (disch := omega) only [fkColE, getD_lt]; (repeat' split) <;> first | rfl | with_reducible assumption | omega | (exfalso; omega) | (simp_all; done) | (simp_all; omega))
           refine ⟨⟨k + 1, by omega, by rw [scan_step (by omega) hs, hj]⟩, by simp only; omega, ?_⟩
           refine St.le_mk ?_ ?_ ?_ <;> simp only [LE, EN, Nat.reduceEqDiff, reduceIte, Nat.reduceSub, eTbl]
           done)
        | (simp -dsimp (disch := (first | omega | (simp only [LN]; omega))) only [retQ, Tryz.results35, resVals, cellRV, resOf, St.rest, St.freeze, RT, go_sem, ↓reduceIte, seval]
           rw [scan_leaf (by omega) ?_ hj]
           all_goals first | with_reducible rfl | ((simp (disch := omega) only [fkColE, getD_lt]; (repeat' split) <;> first | rfl | with_reducible assumption | omega | (exfalso; omega) | (simp_all; done) | (simp_all; omega)); done) | rfl
           done)
  · rw [scan_end (by omega)] at hj
    repeat' (first | ((first | with_reducible refine qV tyOk fun K hK => ?_ | (with_reducible first | refine qG ?_ | refine qH ?_ | refine qP ?_ | refine qGx ?_ | refine qHx ?_ | refine qPx ?_) | ((with_reducible first | refine qS ?_ ?_ | refine qT ?_ ?_ | refine qU ?_ ?_) <;> (intro h; try simp only [NM] at h)) | with_reducible refine yD tyOk mixed 6 (by kernel_rfl) fun K hK => ?_) <;> simp -dsimp (disch := (first | omega | (simp only [LN]; omega))) only [go_sem, ↓reduceIte, seval]) | ((with_reducible refine hK _ ?_); clear hK K) | (with_reducible first | refine qA ?_ | refine qB ?_ | refine qC ?_ | refine qD ?_ | refine qE ?_ | refine qF ?_ | refine qL ?_ | refine qM ?_ | refine qN ?_ | refine qO ?_ | refine qQ ?_) | refine qR rfl ?_ | (with_reducible refine AI ?_) | ((with_reducible refine qW (T := TT) (b := ?_) ?_ ?_); rotate_left; exact rfl) | (with_reducible first | refine qX ?_ | refine qY ?_ | refine qZ ?_) | (with_reducible first | refine qI ?_ | refine qIx ?_ | fail) | ((with_reducible refine yS ?_ ?_) <;> (intro h; try simp only [NM] at h)))
    simp -dsimp (disch := (first | omega | (simp only [LN]; omega))) only [retQ, Tryz.results35, resVals, cellRV, resOf, St.rest, St.freeze, RT, go_sem, ↓reduceIte, seval]
    rw [← hj]

set_option maxHeartbeats 4000000 in
theorem satisfies_sat (a b : Val) (op : ByteArray) : Sat Tryz.prog 66 [.agg (eVal a), oS op, .agg (eVal b)] (.tup [oB (satV a op b), oI (satE op)]) := by
  refine sat_of_body tyOk Tryz.func66 rfl (by kernel_rfl) ⟨Nat.le_of_ble_eq_true rfl, Nat.le_of_ble_eq_true rfl⟩ fun w0 m0 F0 => ?_
  simp only [Tryz.ntmps66, envOf, Nat.reduceAdd]
  repeat' (first | ((first | with_reducible refine qV tyOk fun K hK => ?_ | (with_reducible first | refine qG ?_ | refine qH ?_ | refine qP ?_ | refine qGx ?_ | refine qHx ?_ | refine qPx ?_) | ((with_reducible first | refine qS ?_ ?_ | refine qT ?_ ?_ | refine qU ?_ ?_) <;> (intro h; try simp only [NM] at h)) | with_reducible refine yD tyOk mixed 6 (by kernel_rfl) fun K hK => ?_ | ((with_reducible refine CallJ.is ?_); (first | refine CallJ.pure (compare_sat _ _) ?_ | ((apply CallJ.lentI); (focus (simp -dsimp (disch := (first | omega | (simp only [LN]; omega))) only [go_sem, ↓reduceIte, seval]; rfl)); (focus (first | exact (compare_sat _ _)))))) | ((with_reducible refine CallH.is ?_); (first | refine CallH.intro (compare_sat _ _) ?_))) <;> simp -dsimp (disch := (first | omega | (simp only [LN]; omega))) only [go_sem, ↓reduceIte, seval]) | ((with_reducible refine hK _ ?_); clear hK K) | (with_reducible first | refine qA ?_ | refine qB ?_ | refine qC ?_ | refine qD ?_ | refine qE ?_ | refine qF ?_ | refine qL ?_ | refine qM ?_ | refine qN ?_ | refine qO ?_ | refine qQ ?_) | refine qR rfl ?_ | (with_reducible refine AI ?_) | ((with_reducible refine qW (T := TT) (b := ?_) ?_ ?_); rotate_left; exact rfl) | (with_reducible first | refine qX ?_ | refine qY ?_ | refine qZ ?_) | (with_reducible first | refine qI ?_ | refine qIx ?_ | fail) | ((with_reducible refine yS ?_ ?_) <;> (intro h; try simp only [NM] at h)))
  all_goals try simp -dsimp (disch := (first | omega | (simp only [LN]; omega))) only [retQ, Tryz.results66, resVals, cellRV, resOf, St.rest, St.freeze, RT, go_sem, ↓reduceIte, seval]
  all_goals try simp_all [satV, satE, sEq, opOk, opEq, opLt, opLe]

set_option maxHeartbeats 4000000 in
theorem validate_sat (v : Val) : Sat Tryz.prog 67 [.agg (eVal v)] (.v (oI (valE v))) := by
  refine sat_of_body tyOk Tryz.func67 rfl (by kernel_rfl) ⟨Nat.le_of_ble_eq_true rfl, Nat.le_of_ble_eq_true rfl⟩ fun w0 m0 F0 => ?_
  simp only [Tryz.ntmps67, envOf, Nat.reduceAdd]
  repeat' (first | ((first | with_reducible refine qV tyOk fun K hK => ?_ | (with_reducible first | refine qG ?_ | refine qH ?_ | refine qP ?_ | refine qGx ?_ | refine qHx ?_ | refine qPx ?_) | ((with_reducible first | refine qS ?_ ?_ | refine qT ?_ ?_ | refine qU ?_ ?_) <;> (intro h; try simp only [NM] at h)) | with_reducible refine yD tyOk mixed 6 (by kernel_rfl) fun K hK => ?_) <;> simp -dsimp (disch := (first | omega | (simp only [LN]; omega))) only [go_sem, ↓reduceIte, seval]) | ((with_reducible refine hK _ ?_); clear hK K) | (with_reducible first | refine qA ?_ | refine qB ?_ | refine qC ?_ | refine qD ?_ | refine qE ?_ | refine qF ?_ | refine qL ?_ | refine qM ?_ | refine qN ?_ | refine qO ?_ | refine qQ ?_) | refine qR rfl ?_ | (with_reducible refine AI ?_) | ((with_reducible refine qW (T := TT) (b := ?_) ?_ ?_); rotate_left; exact rfl) | (with_reducible first | refine qX ?_ | refine qY ?_ | refine qZ ?_) | (with_reducible first | refine qI ?_ | refine qIx ?_ | fail) | ((with_reducible refine yS ?_ ?_) <;> (intro h; try simp only [NM] at h)))
  all_goals simp -dsimp (disch := (first | omega | (simp only [LN]; omega))) only [retQ, Tryz.results67, resVals, cellRV, resOf, St.rest, St.freeze, RT, go_sem, ↓reduceIte, seval]
  all_goals simp_all [valE, sEq]
  all_goals omega

def conE (s : Sch) (c : Con) : Int :=
  if tblAt s.tables c.table < 0 then 4 else
  let cols := (s.tables.getD (tblAt s.tables c.table).toNat zTbl).cols
  if c.left < 0 ∨ (cols.length : Int) ≤ c.left ∨ opOk c.op = false ∨ c.right < -1 ∨ (cols.length : Int) ≤ c.right ∨ (0 ≤ c.right ∧ c.value ≠ zV) then 3
  else if 0 ≤ c.right then (if (cols.getD c.left.toNat zCol).kind ≠ (cols.getD c.right.toNat zCol).kind then 7 else 0)
  else if c.value.kind ≠ (cols.getD c.left.toNat zCol).kind then 7 else valE c.value

theorem bytes_ext {a b : ByteArray} (h : a.toList = b.toList) : a = b := by
  rw [ByteArray.toList_eq, ByteArray.toList_eq] at h
  obtain ⟨⟨x⟩⟩ := a
  obtain ⟨⟨y⟩⟩ := b
  have h : x = y := h
  rw [h]
theorem zV_iff {v : Val} : v = zV ↔ v.kind = 0 ∧ v.int = 0 ∧ v.text.toList = ByteArray.empty.toList := by
  constructor
  · rintro rfl
    exact ⟨rfl, rfl, rfl⟩
  · rintro ⟨a, b, c⟩
    cases v
    simp only at a b c
    subst a b
    rw [bytes_ext c]
    rfl
set_option maxHeartbeats 8000000 in
theorem validateCon_sat (s : Sch) (c : Con) (h1 : s.tables.length ≤ 140737488355328) (h2 : ∀ t ∈ s.tables, t.cols.length ≤ 140737488355328) :
    Sat Tryz.prog 39 [.agg (eSch s), .agg (eCon c)] (.v (oI (conE s c))) := by
  rcases idx_cases (fun t => sEq t.name c.table) s.tables 0 with ⟨e1, _⟩ | ⟨i, hi, e1, _⟩
  · have e1 : tblAt s.tables c.table = -1 := e1
    refine sat_of_body tyOk Tryz.func39 rfl (by kernel_rfl) ⟨Nat.le_of_ble_eq_true rfl, Nat.le_of_ble_eq_true rfl⟩ fun w0 m0 F0 => ?_
    simp only [Tryz.ntmps39, envOf, Nat.reduceAdd]
    repeat' (first | ((first | with_reducible refine qV tyOk fun K hK => ?_ | (with_reducible first | refine qG ?_ | refine qH ?_ | refine qP ?_ | refine qGx ?_ | refine qHx ?_ | refine qPx ?_) | ((with_reducible first | refine qS ?_ ?_ | refine qT ?_ ?_ | refine qU ?_ ?_) <;> (intro h; try simp only [NM] at h)) | with_reducible refine yD tyOk mixed 6 (by kernel_rfl) fun K hK => ?_ | ((with_reducible refine CallJ.is ?_); (first | refine CallJ.pure (findTable_sat _ _ h1) ?_ | refine CallJ.pure (satisfies_sat zV zV _) ?_ | refine CallJ.pure (validate_sat _) ?_ | ((apply CallJ.lentI); (focus (simp -dsimp (disch := (first | omega | (simp only [LN]; omega))) only [go_sem, ↓reduceIte, seval, e1, mx0_neg]; rfl)); (focus (first | exact (findTable_sat _ _ h1) | exact (satisfies_sat zV zV _) | exact (validate_sat _)))))) | ((with_reducible refine CallH.is ?_); (first | refine CallH.intro (findTable_sat _ _ h1) ?_ | refine CallH.intro (satisfies_sat zV zV _) ?_ | refine CallH.intro (validate_sat _) ?_))) <;> simp -dsimp (disch := (first | omega | (simp only [LN]; omega))) only [go_sem, ↓reduceIte, seval, e1, mx0_neg]) | ((with_reducible refine hK _ ?_); clear hK K) | (with_reducible first | refine qA ?_ | refine qB ?_ | refine qC ?_ | refine qD ?_ | refine qE ?_ | refine qF ?_ | refine qL ?_ | refine qM ?_ | refine qN ?_ | refine qO ?_ | refine qQ ?_) | refine qR rfl ?_ | (with_reducible refine AI ?_) | ((with_reducible refine qW (T := TT) (b := ?_) ?_ ?_); rotate_left; exact rfl) | (with_reducible first | refine qX ?_ | refine qY ?_ | refine qZ ?_) | (with_reducible first | refine qI ?_ | refine qIx ?_ | fail) | ((with_reducible refine yS ?_ ?_) <;> (intro h; try simp only [NM] at h)))
    simp -dsimp (disch := (first | omega | (simp only [LN]; omega))) only [retQ, Tryz.results39, resVals, cellRV, resOf, St.rest, St.freeze, RT, go_sem, ↓reduceIte, seval]
    simp [conE, e1]
  have e1 : tblAt s.tables c.table = (i : Int) := by unfold tblAt; simpa using e1
  have g1 : s.tables.getD i zTbl = s.tables[i] := by simp [List.getD, hi]
  have spec : conE s c = if c.left < 0 ∨ (s.tables[i].cols.length : Int) ≤ c.left ∨ opOk c.op = false ∨ c.right < -1 ∨ (s.tables[i].cols.length : Int) ≤ c.right ∨ (0 ≤ c.right ∧ c.value ≠ zV) then 3
      else if 0 ≤ c.right then (if (s.tables[i].cols.getD c.left.toNat zCol).kind ≠ (s.tables[i].cols.getD c.right.toNat zCol).kind then 7 else 0)
      else if c.value.kind ≠ (s.tables[i].cols.getD c.left.toNat zCol).kind then 7 else valE c.value := by
    simp only [conE, e1, Int.toNat_natCast, g1]
    rw [if_neg (by omega)]
  rw [spec]
  cases ho : opOk c.op with
  | false =>
    have e3 : satE c.op = 3 := by simp [satE, ho]
    refine sat_of_body tyOk Tryz.func39 rfl (by kernel_rfl) ⟨Nat.le_of_ble_eq_true rfl, Nat.le_of_ble_eq_true rfl⟩ fun w0 m0 F0 => ?_
    simp only [Tryz.ntmps39, envOf, Nat.reduceAdd]
    repeat' (first | ((first | with_reducible refine qV tyOk fun K hK => ?_ | (with_reducible first | refine qG ?_ | refine qH ?_ | refine qP ?_ | refine qGx ?_ | refine qHx ?_ | refine qPx ?_) | ((with_reducible first | refine qS ?_ ?_ | refine qT ?_ ?_ | refine qU ?_ ?_) <;> (intro h; try simp only [NM] at h)) | with_reducible refine yD tyOk mixed 6 (by kernel_rfl) fun K hK => ?_ | ((with_reducible refine CallJ.is ?_); (first | refine CallJ.pure (findTable_sat _ _ h1) ?_ | refine CallJ.pure (satisfies_sat zV zV _) ?_ | refine CallJ.pure (validate_sat _) ?_ | ((apply CallJ.lentI); (focus (simp -dsimp (disch := (first | omega | (simp only [LN]; omega))) only [go_sem, ↓reduceIte, seval, e1, mx0_neg, mx0_nat, e3]; rfl)); (focus (first | exact (findTable_sat _ _ h1) | exact (satisfies_sat zV zV _) | exact (validate_sat _)))))) | ((with_reducible refine CallH.is ?_); (first | refine CallH.intro (findTable_sat _ _ h1) ?_ | refine CallH.intro (satisfies_sat zV zV _) ?_ | refine CallH.intro (validate_sat _) ?_))) <;> simp -dsimp (disch := (first | omega | (simp only [LN]; omega))) only [go_sem, ↓reduceIte, seval, e1, mx0_neg, mx0_nat, e3]) | ((with_reducible refine hK _ ?_); clear hK K) | (with_reducible first | refine qA ?_ | refine qB ?_ | refine qC ?_ | refine qD ?_ | refine qE ?_ | refine qF ?_ | refine qL ?_ | refine qM ?_ | refine qN ?_ | refine qO ?_ | refine qQ ?_) | refine qR rfl ?_ | (with_reducible refine AI ?_) | ((with_reducible refine qW (T := TT) (b := ?_) ?_ ?_); rotate_left; exact rfl) | (with_reducible first | refine qX ?_ | refine qY ?_ | refine qZ ?_) | (with_reducible first | refine qI ?_ | refine qIx ?_ | fail) | ((with_reducible refine yS ?_ ?_) <;> (intro h; try simp only [NM] at h)))
    all_goals simp -dsimp (disch := (first | omega | (simp only [LN]; omega))) only [retQ, Tryz.results39, resVals, cellRV, resOf, St.rest, St.freeze, RT, go_sem, ↓reduceIte, seval]
    all_goals
      (simp (disch := omega) only [ho, ne_eq, zV_iff, getD_lt]
       (repeat' split) <;> first
         | rfl
         | omega
         | (exfalso; omega)
         | (exfalso; simp_all; done)
         | (simp_all; done)
         | (simp_all; omega)
         | (exfalso; simp_all; omega))
  | true =>
    have e3 : satE c.op = 0 := by simp [satE, ho]
    refine sat_of_body tyOk Tryz.func39 rfl (by kernel_rfl) ⟨Nat.le_of_ble_eq_true rfl, Nat.le_of_ble_eq_true rfl⟩ fun w0 m0 F0 => ?_
    simp only [Tryz.ntmps39, envOf, Nat.reduceAdd]
    repeat' (first | ((first | with_reducible refine qV tyOk fun K hK => ?_ | (with_reducible first | refine qG ?_ | refine qH ?_ | refine qP ?_ | refine qGx ?_ | refine qHx ?_ | refine qPx ?_) | ((with_reducible first | refine qS ?_ ?_ | refine qT ?_ ?_ | refine qU ?_ ?_) <;> (intro h; try simp only [NM] at h)) | with_reducible refine yD tyOk mixed 6 (by kernel_rfl) fun K hK => ?_ | ((with_reducible refine CallJ.is ?_); (first | refine CallJ.pure (findTable_sat _ _ h1) ?_ | refine CallJ.pure (satisfies_sat zV zV _) ?_ | refine CallJ.pure (validate_sat _) ?_ | ((apply CallJ.lentI); (focus (simp -dsimp (disch := (first | omega | (simp only [LN]; omega))) only [go_sem, ↓reduceIte, seval, e1, mx0_neg, mx0_nat, e3]; rfl)); (focus (first | exact (findTable_sat _ _ h1) | exact (satisfies_sat zV zV _) | exact (validate_sat _)))))) | ((with_reducible refine CallH.is ?_); (first | refine CallH.intro (findTable_sat _ _ h1) ?_ | refine CallH.intro (satisfies_sat zV zV _) ?_ | refine CallH.intro (validate_sat _) ?_))) <;> simp -dsimp (disch := (first | omega | (simp only [LN]; omega))) only [go_sem, ↓reduceIte, seval, e1, mx0_neg, mx0_nat, e3]) | ((with_reducible refine hK _ ?_); clear hK K) | (with_reducible first | refine qA ?_ | refine qB ?_ | refine qC ?_ | refine qD ?_ | refine qE ?_ | refine qF ?_ | refine qL ?_ | refine qM ?_ | refine qN ?_ | refine qO ?_ | refine qQ ?_) | refine qR rfl ?_ | (with_reducible refine AI ?_) | ((with_reducible refine qW (T := TT) (b := ?_) ?_ ?_); rotate_left; exact rfl) | (with_reducible first | refine qX ?_ | refine qY ?_ | refine qZ ?_) | (with_reducible first | refine qI ?_ | refine qIx ?_ | fail) | ((with_reducible refine yS ?_ ?_) <;> (intro h; try simp only [NM] at h)))
    all_goals simp -dsimp (disch := (first | omega | (simp only [LN]; omega))) only [retQ, Tryz.results39, resVals, cellRV, resOf, St.rest, St.freeze, RT, go_sem, ↓reduceIte, seval]
    all_goals
      (simp (disch := omega) only [ho, ne_eq, zV_iff, getD_lt]
       (repeat' split) <;> first
         | rfl
         | omega
         | (exfalso; omega)
         | (exfalso; simp_all; done)
         | (simp_all; done)
         | (simp_all; omega)
         | (exfalso; simp_all; omega))

def tblsE (ts : List Tbl) (k : Nat) (t : Tbl) : Option Int :=
  if tblE t ≠ 0 then some (tblE t) else if 0 < (k : Int) ∧ (Op.bytesLess t.name.toList (ts.getD ((k : Int) - 1).toNat zTbl).name.toList = true ∨ t.name.toList = (ts.getD ((k : Int) - 1).toNat zTbl).name.toList) then some 6 else none
def fksE (s : Sch) (k : Nat) (f : FK) : Option Int :=
  if fkE s f ≠ 0 then some (fkE s f) else if 0 ≤ idx (fun o => fkEq o f) (s.fks.take k) 0 then some 5 else none
def consE (s : Sch) (k : Nat) (c : Con) : Option Int :=
  if conE s c ≠ 0 then some (conE s c) else if 0 ≤ idx (conEq c) (s.cons.take k) 0 then some 5 else none
def schE (s : Sch) : Int :=
  if 6 < s.tables.length ∨ 8 < s.fks.length ∨ 8 < s.cons.length then 2 else
  match scan (tblsE s.tables) s.tables 0 with
  | some e => e
  | none => match scan (fksE s) s.fks 0 with
    | some e => e
    | none => match scan (consE s) s.cons 0 with
      | some e => e
      | none => 0

structure Sch.Fits (s : Sch) : Prop where
  tables : s.tables.length ≤ 140737488355328
  table : ∀ t ∈ s.tables, t.cols.length ≤ 140737488355328 ∧ t.pk.length ≤ 140737488355328
  fks : s.fks.length ≤ 140737488355328
  fk : ∀ f ∈ s.fks, f.cols.length ≤ 140737488355328
  cons : s.cons.length ≤ 140737488355328

theorem containsCon_take (l : List Con) (k : Nat) (c : Con) (hlen : l.length ≤ 140737488355328) :
    Sat Tryz.prog 40 [.one (.sl 7 ((l.map eCon).take k)), .agg (eCon c)] (.v (oB (decide (0 ≤ idx (conEq c) (l.take k) 0)))) := by
  have h := containsCon_sat (l.take k) c (by rw [List.length_take]; omega)
  rw [eCons, List.map_take] at h
  exact h

set_option maxHeartbeats 16000000 in
theorem schValidate_sat (s : Sch) (hf : s.Fits) : Sat Tryz.prog 16 [.agg (eSch s)] (.v (oI (schE s))) := by
  by_cases h0 : 6 < s.tables.length ∨ 8 < s.fks.length ∨ 8 < s.cons.length
  · refine sat_of_body tyOk Tryz.func16 rfl (by kernel_rfl) ⟨Nat.le_of_ble_eq_true rfl, Nat.le_of_ble_eq_true rfl⟩ fun w0 m0 F0 => ?_
    simp only [Tryz.ntmps16, envOf, Nat.reduceAdd]
    repeat' (first | ((first | with_reducible refine qV tyOk fun K hK => ?_ | (with_reducible first | refine qG ?_ | refine qH ?_ | refine qP ?_ | refine qGx ?_ | refine qHx ?_ | refine qPx ?_) | ((with_reducible first | refine qS ?_ ?_ | refine qT ?_ ?_ | refine qU ?_ ?_) <;> (intro h; try simp only [NM] at h)) | with_reducible refine yD tyOk mixed 6 (by kernel_rfl) fun K hK => ?_) <;> simp -dsimp (disch := (first | omega | (simp only [LN]; omega))) only [go_sem, ↓reduceIte, seval]) | ((with_reducible refine hK _ ?_); clear hK K) | (with_reducible first | refine qA ?_ | refine qB ?_ | refine qC ?_ | refine qD ?_ | refine qE ?_ | refine qF ?_ | refine qL ?_ | refine qM ?_ | refine qN ?_ | refine qO ?_ | refine qQ ?_) | refine qR rfl ?_ | (with_reducible refine AI ?_) | ((with_reducible refine qW (T := TT) (b := ?_) ?_ ?_); rotate_left; exact rfl) | (with_reducible first | refine qX ?_ | refine qY ?_ | refine qZ ?_) | (with_reducible first | refine qI ?_ | refine qIx ?_ | fail) | ((with_reducible refine yS ?_ ?_) <;> (intro h; try simp only [NM] at h)))
    all_goals first
      | (exfalso; omega)
      | (
         simp -dsimp (disch := (first | omega | (simp only [LN]; omega))) only [retQ, Tryz.results16, resVals, cellRV, resOf, St.rest, St.freeze, RT, go_sem, ↓reduceIte, seval]
         rw [schE, if_pos h0])
  have spec : schE s = match scan (tblsE s.tables) s.tables 0 with
    | some e => e
    | none => match scan (fksE s) s.fks 0 with
      | some e => e
      | none => match scan (consE s) s.cons 0 with
        | some e => e
        | none => 0 := by rw [schE, if_neg h0]
  rw [spec]
  refine sat_of_body tyOk Tryz.func16 rfl (by kernel_rfl) ⟨Nat.le_of_ble_eq_true rfl, Nat.le_of_ble_eq_true rfl⟩ fun w0 m0 F0 => ?_
  simp only [Tryz.ntmps16, envOf, Nat.reduceAdd]
  repeat' (first | ((first | with_reducible refine qV tyOk fun K hK => ?_ | (with_reducible first | refine qG ?_ | refine qH ?_ | refine qP ?_ | refine qGx ?_ | refine qHx ?_ | refine qPx ?_) | ((with_reducible first | refine qS ?_ ?_ | refine qT ?_ ?_ | refine qU ?_ ?_) <;> (intro h; try simp only [NM] at h)) | with_reducible refine yD tyOk mixed 6 (by kernel_rfl) fun K hK => ?_) <;> simp -dsimp (disch := (first | omega | (simp only [LN]; omega))) only [go_sem, ↓reduceIte, seval]) | ((with_reducible refine hK _ ?_); clear hK K) | (with_reducible first | refine qA ?_ | refine qB ?_ | refine qC ?_ | refine qD ?_ | refine qE ?_ | refine qF ?_ | refine qL ?_ | refine qM ?_ | refine qN ?_ | refine qO ?_ | refine qQ ?_) | refine qR rfl ?_ | (with_reducible refine AI ?_) | ((with_reducible refine qW (T := TT) (b := ?_) ?_ ?_); rotate_left; exact rfl) | (with_reducible first | refine qX ?_ | refine qY ?_ | refine qZ ?_) | (with_reducible first | refine qI ?_ | refine qIx ?_ | fail) | ((with_reducible refine yS ?_ ?_) <;> (intro h; try simp only [NM] at h)))
  refine AWP.loop (ι := {k : Nat // k ≤ s.tables.length ∧ scan (tblsE s.tables) (s.tables.drop k) k = scan (tblsE s.tables) s.tables 0}) (fun k => ⟨98, [(1, .v (.one (.ptr 1 0))), (29, .v (.one (.sl 3 (s.tables.map eTbl)))), (30, .v (oI s.tables.length)), (31, .v (oI k.1))], [(1, eSch s)], []⟩) (fun k => s.tables.length - k.1) ⟨0, Nat.zero_le _, rfl⟩ ?_ fun ⟨k, hkl, hi⟩ => ?_
  · refine St.le_mk ?_ ?_ ?_ <;> simp only [LE, EN, Nat.reduceEqDiff, reduceIte, Nat.reduceSub, eSch]
  rcases Nat.lt_or_ge k s.tables.length with hc | hc
  · obtain ⟨b1, b2⟩ := hf.table s.tables[k] (List.getElem_mem hc)
    repeat' (first | ((first | with_reducible refine qV tyOk fun K hK => ?_ | (with_reducible first | refine qG ?_ | refine qH ?_ | refine qP ?_ | refine qGx ?_ | refine qHx ?_ | refine qPx ?_) | ((with_reducible first | refine qS ?_ ?_ | refine qT ?_ ?_ | refine qU ?_ ?_) <;> (intro h; try simp only [NM] at h)) | with_reducible refine yD tyOk mixed 6 (by kernel_rfl) fun K hK => ?_ | ((with_reducible refine CallJ.is ?_); (first | refine CallJ.pure (validateTable_sat _ b1 b2) ?_ | ((apply CallJ.lentI); (focus (simp -dsimp (disch := (first | omega | (simp only [LN]; omega))) only [go_sem, ↓reduceIte, seval]; rfl)); (focus (first | exact (validateTable_sat _ b1 b2)))))) | ((with_reducible refine CallH.is ?_); (first | refine CallH.intro (validateTable_sat _ b1 b2) ?_))) <;> simp -dsimp (disch := (first | omega | (simp only [LN]; omega))) only [go_sem, ↓reduceIte, seval]) | ((with_reducible refine hK _ ?_); clear hK K) | (with_reducible first | refine qA ?_ | refine qB ?_ | refine qC ?_ | refine qD ?_ | refine qE ?_ | refine qF ?_ | refine qL ?_ | refine qM ?_ | refine qN ?_ | refine qO ?_ | refine qQ ?_) | refine qR rfl ?_ | (with_reducible refine AI ?_) | ((with_reducible refine qW (T := TT) (b := ?_) ?_ ?_); rotate_left; exact rfl) | (with_reducible first | refine qX ?_ | refine qY ?_ | refine qZ ?_) | (with_reducible first | refine qI ?_ | refine qIx ?_ | fail) | ((with_reducible refine yS ?_ ?_) <;> (intro h; try simp only [NM] at h)))
    all_goals
      first
        | (have hs : (tblsE s.tables) k s.tables[k] = none := by
             (simp (disch := omega) only [tblsE, getD_lt]; (repeat' split) <;> first | rfl | with_reducible assumption | omega | (exfalso; omega) | (simp_all; done) | (simp_all; omega))
           refine ⟨⟨k + 1, by omega, by rw [scan_step (by omega) hs, hi]⟩, by simp only; omega, ?_⟩
           refine St.le_mk ?_ ?_ ?_ <;> simp only [LE, EN, Nat.reduceEqDiff, reduceIte, Nat.reduceSub, eSch]
           done)
        | (simp -dsimp (disch := (first | omega | (simp only [LN]; omega))) only [retQ, Tryz.results16, resVals, cellRV, resOf, St.rest, St.freeze, RT, go_sem, ↓reduceIte, seval]
           rw [scan_leaf (by omega) ?_ hi]
           all_goals first | with_reducible rfl | ((simp (disch := omega) only [tblsE, getD_lt]; (repeat' split) <;> first | rfl | with_reducible assumption | omega | (exfalso; omega) | (simp_all; done) | (simp_all; omega)); done) | rfl
           done)
  · rw [scan_end (by omega)] at hi
    have hi0 := hi.symm
    have hok : ∀ t ∈ s.tables, OkTbl t := by
      intro t ht
      obtain ⟨j, hj, rfl⟩ := List.mem_iff_getElem.1 ht
      have h5 := scan_none hi.symm j hj
      rw [Nat.zero_add, tblsE] at h5
      split at h5
      · cases h5
      · rename_i h6
        exact okTbl_of (by simpa using h6)
    clear hi
    repeat' (first | ((first | with_reducible refine qV tyOk fun K hK => ?_ | (with_reducible first | refine qG ?_ | refine qH ?_ | refine qP ?_ | refine qGx ?_ | refine qHx ?_ | refine qPx ?_) | ((with_reducible first | refine qS ?_ ?_ | refine qT ?_ ?_ | refine qU ?_ ?_) <;> (intro h; try simp only [NM] at h)) | with_reducible refine yD tyOk mixed 6 (by kernel_rfl) fun K hK => ?_) <;> simp -dsimp (disch := (first | omega | (simp only [LN]; omega))) only [go_sem, ↓reduceIte, seval]) | ((with_reducible refine hK _ ?_); clear hK K) | (with_reducible first | refine qA ?_ | refine qB ?_ | refine qC ?_ | refine qD ?_ | refine qE ?_ | refine qF ?_ | refine qL ?_ | refine qM ?_ | refine qN ?_ | refine qO ?_ | refine qQ ?_) | refine qR rfl ?_ | (with_reducible refine AI ?_) | ((with_reducible refine qW (T := TT) (b := ?_) ?_ ?_); rotate_left; exact rfl) | (with_reducible first | refine qX ?_ | refine qY ?_ | refine qZ ?_) | (with_reducible first | refine qI ?_ | refine qIx ?_ | fail) | ((with_reducible refine yS ?_ ?_) <;> (intro h; try simp only [NM] at h)))
    rw [hi0]
    simp only
    clear hi0
    refine AWP.loop (ι := {k : Nat // k ≤ s.fks.length ∧ scan (fksE s) (s.fks.drop k) k = scan (fksE s) s.fks 0}) (fun k => ⟨98, [(1, .v (.one (.ptr 1 0))), (57, .v (.one (.sl 3 (s.fks.map eFK)))), (58, .v (oI s.fks.length)), (59, .v (oI k.1))], [(1, eSch s)], []⟩) (fun k => s.fks.length - k.1) ⟨0, Nat.zero_le _, rfl⟩ ?_ fun ⟨k, hkl, hi⟩ => ?_
    · refine St.le_mk ?_ ?_ ?_ <;> simp only [LE, EN, Nat.reduceEqDiff, reduceIte, Nat.reduceSub, eSch]
    rcases Nat.lt_or_ge k s.fks.length with hc | hc
    · have b1 := hf.fk s.fks[k] (List.getElem_mem hc)
      have b2 := hf.fks
      have b3 := hf.tables
      repeat' (first | ((first | with_reducible refine qV tyOk fun K hK => ?_ | (with_reducible first | refine qG ?_ | refine qH ?_ | refine qP ?_ | refine qGx ?_ | refine qHx ?_ | refine qPx ?_) | ((with_reducible first | refine qS ?_ ?_ | refine qT ?_ ?_ | refine qU ?_ ?_) <;> (intro h; try simp only [NM] at h)) | with_reducible refine yD tyOk mixed 6 (by kernel_rfl) fun K hK => ?_ | ((with_reducible refine CallJ.is ?_); (first | refine CallJ.pure (validateFK_sat s _ b3 b1 hok) ?_ | refine CallJ.pure (containsFK_sat (s.fks.take k) _ [.fz (eFK s.fks[k])] (fun o => fkEq o s.fks[k]) (by rw [List.length_take]; omega) fun t ht => validate1_sat t s.fks[k] (hf.fk t (List.mem_of_mem_take ht))) ?_ | ((first | refine CallJ.lent (validateFK_sat s _ b3 b1 hok) ?_ ?_; focus (simp -dsimp (disch := (first | omega | (simp only [LN]; omega))) only [go_sem, ↓reduceIte, seval, List.map_take]; done) | refine CallJ.lent (containsFK_sat (s.fks.take k) _ [.fz (eFK s.fks[k])] (fun o => fkEq o s.fks[k]) (by rw [List.length_take]; omega) fun t ht => validate1_sat t s.fks[k] (hf.fk t (List.mem_of_mem_take ht))) ?_ ?_; focus (simp -dsimp (disch := (first | omega | (simp only [LN]; omega))) only [go_sem, ↓reduceIte, seval, List.map_take]; done))))) | ((with_reducible refine CallH.is ?_); (first | refine CallH.intro (validateFK_sat s _ b3 b1 hok) ?_ | refine CallH.intro (containsFK_sat (s.fks.take k) _ [.fz (eFK s.fks[k])] (fun o => fkEq o s.fks[k]) (by rw [List.length_take]; omega) fun t ht => validate1_sat t s.fks[k] (hf.fk t (List.mem_of_mem_take ht))) ?_))) <;> simp -dsimp (disch := (first | omega | (simp only [LN]; omega))) only [go_sem, ↓reduceIte, seval, List.map_take]) | ((with_reducible refine hK _ ?_); clear hK K) | (with_reducible first | refine qA ?_ | refine qB ?_ | refine qC ?_ | refine qD ?_ | refine qE ?_ | refine qF ?_ | refine qL ?_ | refine qM ?_ | refine qN ?_ | refine qO ?_ | refine qQ ?_) | refine qR rfl ?_ | (with_reducible refine AI ?_) | ((with_reducible refine qW (T := TT) (b := ?_) ?_ ?_); rotate_left; exact rfl) | (with_reducible first | refine qX ?_ | refine qY ?_ | refine qZ ?_) | (with_reducible first | refine qI ?_ | refine qIx ?_ | fail) | ((with_reducible refine yS ?_ ?_) <;> (intro h; try simp only [NM] at h)))
      all_goals
        first
          | (have hs : (fksE s) k s.fks[k] = none := by
               (simp (disch := omega) only [fksE, getD_lt]; (repeat' split) <;> first | rfl | with_reducible assumption | omega | (exfalso; omega) | (simp_all; done) | (simp_all; omega))
             refine ⟨⟨k + 1, by omega, by rw [scan_step (by omega) hs, hi]⟩, by simp only; omega, ?_⟩
             refine St.le_mk ?_ ?_ ?_ <;> simp only [LE, EN, Nat.reduceEqDiff, reduceIte, Nat.reduceSub, eSch]
             done)
          | (simp -dsimp (disch := (first | omega | (simp only [LN]; omega))) only [retQ, Tryz.results16, resVals, cellRV, resOf, St.rest, St.freeze, RT, go_sem, ↓reduceIte, seval]
             rw [scan_leaf (by omega) ?_ hi]
             all_goals first | with_reducible rfl | ((simp (disch := omega) only [fksE, getD_lt]; (repeat' split) <;> first | rfl | with_reducible assumption | omega | (exfalso; omega) | (simp_all; done) | (simp_all; omega)); done) | rfl
             done)
    rw [scan_end (by omega)] at hi
    have hi0 := hi.symm
    clear hi
    repeat' (first | ((first | with_reducible refine qV tyOk fun K hK => ?_ | (with_reducible first | refine qG ?_ | refine qH ?_ | refine qP ?_ | refine qGx ?_ | refine qHx ?_ | refine qPx ?_) | ((with_reducible first | refine qS ?_ ?_ | refine qT ?_ ?_ | refine qU ?_ ?_) <;> (intro h; try simp only [NM] at h)) | with_reducible refine yD tyOk mixed 6 (by kernel_rfl) fun K hK => ?_) <;> simp -dsimp (disch := (first | omega | (simp only [LN]; omega))) only [go_sem, ↓reduceIte, seval]) | ((with_reducible refine hK _ ?_); clear hK K) | (with_reducible first | refine qA ?_ | refine qB ?_ | refine qC ?_ | refine qD ?_ | refine qE ?_ | refine qF ?_ | refine qL ?_ | refine qM ?_ | refine qN ?_ | refine qO ?_ | refine qQ ?_) | refine qR rfl ?_ | (with_reducible refine AI ?_) | ((with_reducible refine qW (T := TT) (b := ?_) ?_ ?_); rotate_left; exact rfl) | (with_reducible first | refine qX ?_ | refine qY ?_ | refine qZ ?_) | (with_reducible first | refine qI ?_ | refine qIx ?_ | fail) | ((with_reducible refine yS ?_ ?_) <;> (intro h; try simp only [NM] at h)))
    rw [hi0]
    simp only
    clear hi0
    refine AWP.loop (ι := {k : Nat // k ≤ s.cons.length ∧ scan (consE s) (s.cons.drop k) k = scan (consE s) s.cons 0}) (fun k => ⟨98, [(1, .v (.one (.ptr 1 0))), (78, .v (.one (.sl 7 (s.cons.map eCon)))), (79, .v (oI s.cons.length)), (80, .v (oI k.1))], [(1, eSch s)], []⟩) (fun k => s.cons.length - k.1) ⟨0, Nat.zero_le _, rfl⟩ ?_ fun ⟨k, hkl, hi⟩ => ?_
    · refine St.le_mk ?_ ?_ ?_ <;> simp only [LE, EN, Nat.reduceEqDiff, reduceIte, Nat.reduceSub, eSch]
    rcases Nat.lt_or_ge k s.cons.length with hc | hc
    · have b2 := hf.cons
      have b3 := hf.tables
      have b4 : ∀ t ∈ s.tables, t.cols.length ≤ 140737488355328 := fun t ht => (hf.table t ht).1
      repeat' (first | ((first | with_reducible refine qV tyOk fun K hK => ?_ | (with_reducible first | refine qG ?_ | refine qH ?_ | refine qP ?_ | refine qGx ?_ | refine qHx ?_ | refine qPx ?_) | ((with_reducible first | refine qS ?_ ?_ | refine qT ?_ ?_ | refine qU ?_ ?_) <;> (intro h; try simp only [NM] at h)) | with_reducible refine yD tyOk mixed 6 (by kernel_rfl) fun K hK => ?_ | ((with_reducible refine CallJ.is ?_); (first | refine CallJ.pure (validateCon_sat s _ b3 b4) ?_ | refine CallJ.pure (containsCon_take s.cons k s.cons[k] b2) ?_ | ((first | refine CallJ.lent (validateCon_sat s _ b3 b4) ?_ ?_; focus (simp -dsimp (disch := (first | omega | (simp only [LN]; omega))) only [go_sem, ↓reduceIte, seval, List.map_take]; done) | refine CallJ.lent (containsCon_take s.cons k s.cons[k] b2) ?_ ?_; focus (simp -dsimp (disch := (first | omega | (simp only [LN]; omega))) only [go_sem, ↓reduceIte, seval, List.map_take]; done))))) | ((with_reducible refine CallH.is ?_); (first | refine CallH.intro (validateCon_sat s _ b3 b4) ?_ | refine CallH.intro (containsCon_take s.cons k s.cons[k] b2) ?_))) <;> simp -dsimp (disch := (first | omega | (simp only [LN]; omega))) only [go_sem, ↓reduceIte, seval, List.map_take]) | ((with_reducible refine hK _ ?_); clear hK K) | (with_reducible first | refine qA ?_ | refine qB ?_ | refine qC ?_ | refine qD ?_ | refine qE ?_ | refine qF ?_ | refine qL ?_ | refine qM ?_ | refine qN ?_ | refine qO ?_ | refine qQ ?_) | refine qR rfl ?_ | (with_reducible refine AI ?_) | ((with_reducible refine qW (T := TT) (b := ?_) ?_ ?_); rotate_left; exact rfl) | (with_reducible first | refine qX ?_ | refine qY ?_ | refine qZ ?_) | (with_reducible first | refine qI ?_ | refine qIx ?_ | fail) | ((with_reducible refine yS ?_ ?_) <;> (intro h; try simp only [NM] at h)))
      all_goals
        first
          | (have hs : (consE s) k s.cons[k] = none := by
               (simp (disch := omega) only [consE, getD_lt]; (repeat' split) <;> first | rfl | with_reducible assumption | omega | (exfalso; omega) | (simp_all; done) | (simp_all; omega))
             refine ⟨⟨k + 1, by omega, by rw [scan_step (by omega) hs, hi]⟩, by simp only; omega, ?_⟩
             refine St.le_mk ?_ ?_ ?_ <;> simp only [LE, EN, Nat.reduceEqDiff, reduceIte, Nat.reduceSub, eSch]
             done)
          | (simp -dsimp (disch := (first | omega | (simp only [LN]; omega))) only [retQ, Tryz.results16, resVals, cellRV, resOf, St.rest, St.freeze, RT, go_sem, ↓reduceIte, seval]
             rw [scan_leaf (by omega) ?_ hi]
             all_goals first | with_reducible rfl | ((simp (disch := omega) only [consE, getD_lt]; (repeat' split) <;> first | rfl | with_reducible assumption | omega | (exfalso; omega) | (simp_all; done) | (simp_all; omega)); done) | rfl
             done)
    rw [scan_end (by omega)] at hi
    have hi0 := hi.symm
    clear hi
    repeat' (first | ((first | with_reducible refine qV tyOk fun K hK => ?_ | (with_reducible first | refine qG ?_ | refine qH ?_ | refine qP ?_ | refine qGx ?_ | refine qHx ?_ | refine qPx ?_) | ((with_reducible first | refine qS ?_ ?_ | refine qT ?_ ?_ | refine qU ?_ ?_) <;> (intro h; try simp only [NM] at h)) | with_reducible refine yD tyOk mixed 6 (by kernel_rfl) fun K hK => ?_) <;> simp -dsimp (disch := (first | omega | (simp only [LN]; omega))) only [go_sem, ↓reduceIte, seval]) | ((with_reducible refine hK _ ?_); clear hK K) | (with_reducible first | refine qA ?_ | refine qB ?_ | refine qC ?_ | refine qD ?_ | refine qE ?_ | refine qF ?_ | refine qL ?_ | refine qM ?_ | refine qN ?_ | refine qO ?_ | refine qQ ?_) | refine qR rfl ?_ | (with_reducible refine AI ?_) | ((with_reducible refine qW (T := TT) (b := ?_) ?_ ?_); rotate_left; exact rfl) | (with_reducible first | refine qX ?_ | refine qY ?_ | refine qZ ?_) | (with_reducible first | refine qI ?_ | refine qIx ?_ | fail) | ((with_reducible refine yS ?_ ?_) <;> (intro h; try simp only [NM] at h)))
    rw [hi0]
    simp -dsimp (disch := (first | omega | (simp only [LN]; omega))) only [retQ, Tryz.results16, resVals, cellRV, resOf, St.rest, St.freeze, RT, go_sem, ↓reduceIte, seval]

def bId : ByteArray := ⟨#[105, 100]⟩
def bName : ByteArray := ⟨#[110, 97, 109, 101]⟩
def bPeople : ByteArray := ⟨#[112, 101, 111, 112, 108, 101]⟩
def peopleT : Tbl := ⟨bPeople, [⟨bId, 1, false⟩, ⟨bName, 3, true⟩], [0]⟩

theorem people_sat : Sat Tryz.prog 14 [] (.v (.agg (eTbl peopleT))) := by
  refine sat_of_body tyOk Tryz.func14 rfl (by kernel_rfl) ⟨Nat.le_of_ble_eq_true rfl, Nat.le_of_ble_eq_true rfl⟩ fun w0 m0 F0 => ?_
  simp only [Tryz.ntmps14, envOf, Nat.reduceAdd]
  repeat' (first | ((first | with_reducible refine qV tyOk fun K hK => ?_ | (with_reducible first | refine qG ?_ | refine qH ?_ | refine qP ?_ | refine qGx ?_ | refine qHx ?_ | refine qPx ?_) | ((with_reducible first | refine qS ?_ ?_ | refine qT ?_ ?_ | refine qU ?_ ?_) <;> (intro h; try simp only [NM] at h)) | with_reducible refine yD tyOk mixed 6 (by kernel_rfl) fun K hK => ?_) <;> simp -dsimp (disch := (first | omega | (simp only [LN]; omega))) only [go_sem, ↓reduceIte, seval]) | ((with_reducible refine hK _ ?_); clear hK K) | (with_reducible first | refine qA ?_ | refine qB ?_ | refine qC ?_ | refine qD ?_ | refine qE ?_ | refine qF ?_ | refine qL ?_ | refine qM ?_ | refine qN ?_ | refine qO ?_ | refine qQ ?_) | refine qR rfl ?_ | (with_reducible refine AI ?_) | ((with_reducible refine qW (T := TT) (b := ?_) ?_ ?_); rotate_left; exact rfl) | (with_reducible first | refine qX ?_ | refine qY ?_ | refine qZ ?_) | (with_reducible first | refine qI ?_ | refine qIx ?_ | fail) | ((with_reducible refine yS ?_ ?_) <;> (intro h; try simp only [NM] at h)))
  simp -dsimp (disch := (first | omega | (simp only [LN]; omega))) only [retQ, Tryz.results14, resVals, cellRV, resOf, St.rest, St.freeze, RT, go_sem, ↓reduceIte, seval]
  first | done | rfl
theorem integer_sat (n : Int) : Sat Tryz.prog 15 [oI n] (.v (.agg (eVal ⟨1, n, ByteArray.empty⟩))) := by
  refine sat_of_body tyOk Tryz.func15 rfl (by kernel_rfl) ⟨Nat.le_of_ble_eq_true rfl, Nat.le_of_ble_eq_true rfl⟩ fun w0 m0 F0 => ?_
  simp only [Tryz.ntmps15, envOf, Nat.reduceAdd]
  repeat' (first | ((first | with_reducible refine qV tyOk fun K hK => ?_ | (with_reducible first | refine qG ?_ | refine qH ?_ | refine qP ?_ | refine qGx ?_ | refine qHx ?_ | refine qPx ?_) | ((with_reducible first | refine qS ?_ ?_ | refine qT ?_ ?_ | refine qU ?_ ?_) <;> (intro h; try simp only [NM] at h)) | with_reducible refine yD tyOk mixed 6 (by kernel_rfl) fun K hK => ?_) <;> simp -dsimp (disch := (first | omega | (simp only [LN]; omega))) only [go_sem, ↓reduceIte, seval]) | ((with_reducible refine hK _ ?_); clear hK K) | (with_reducible first | refine qA ?_ | refine qB ?_ | refine qC ?_ | refine qD ?_ | refine qE ?_ | refine qF ?_ | refine qL ?_ | refine qM ?_ | refine qN ?_ | refine qO ?_ | refine qQ ?_) | refine qR rfl ?_ | (with_reducible refine AI ?_) | ((with_reducible refine qW (T := TT) (b := ?_) ?_ ?_); rotate_left; exact rfl) | (with_reducible first | refine qX ?_ | refine qY ?_ | refine qZ ?_) | (with_reducible first | refine qI ?_ | refine qIx ?_ | fail) | ((with_reducible refine yS ?_ ?_) <;> (intro h; try simp only [NM] at h)))
  simp -dsimp (disch := (first | omega | (simp only [LN]; omega))) only [retQ, Tryz.results15, resVals, cellRV, resOf, St.rest, St.freeze, RT, go_sem, ↓reduceIte, seval]

theorem bl_irrefl : ∀ a : List UInt8, Op.bytesLess a a = false
  | [] => rfl
  | x :: a => by simp [Op.bytesLess, bl_irrefl a]
theorem bl_cons (x y : UInt8) (a b : List UInt8) : Op.bytesLess (x :: a) (y :: b) = true ↔ x.toNat < y.toNat ∨ (x = y ∧ Op.bytesLess a b = true) := by
  simp [Op.bytesLess, UInt8.lt_iff_toNat_lt]
theorem bl_trans : ∀ {a b c : List UInt8}, Op.bytesLess a b = true → Op.bytesLess b c = true → Op.bytesLess a c = true
  | [], [], _, h, _ => by simp [Op.bytesLess] at h
  | _ :: _, [], _, h, _ => by simp [Op.bytesLess] at h
  | _, _ :: _, [], _, h => by simp [Op.bytesLess] at h
  | [], _ :: _, _ :: _, _, _ => by simp [Op.bytesLess]
  | x :: a, y :: b, z :: c, h1, h2 => by
    rw [bl_cons] at h1 h2 ⊢
    rcases h1 with h1 | ⟨rfl, h1⟩
    · rcases h2 with h2 | ⟨rfl, h2⟩
      · exact .inl (by omega)
      · exact .inl h1
    · rcases h2 with h2 | ⟨rfl, h2⟩
      · exact .inl h2
      · exact .inr ⟨rfl, bl_trans h1 h2⟩
theorem bl_total : ∀ {a b : List UInt8}, Op.bytesLess a b = false → a ≠ b → Op.bytesLess b a = true
  | [], [], _, h => absurd rfl h
  | [], _ :: _, h, _ => by simp [Op.bytesLess] at h
  | _ :: _, [], _, _ => by simp [Op.bytesLess]
  | x :: a, y :: b, h, hne => by
    have h' : ¬ (x.toNat < y.toNat ∨ (x = y ∧ Op.bytesLess a b = true)) := fun e => by rw [← bl_cons, h] at e; cases e
    rw [bl_cons]
    by_cases hxy : x = y
    · subst hxy
      refine .inr ⟨rfl, bl_total ?_ (fun e => hne (by rw [e]))⟩
      cases hb : Op.bytesLess a b with
      | false => rfl
      | true => exact absurd (.inr ⟨rfl, hb⟩) h'
    · refine .inl ?_
      have : x.toNat ≠ y.toNat := fun e => hxy (UInt8.toNat_inj.1 e)
      have : ¬ x.toNat < y.toNat := fun e => h' (.inl e)
      omega

theorem chain_lt {ns : List (List UInt8)} (h : ∀ k, ∀ h : k + 1 < ns.length, Op.bytesLess ns[k] ns[k + 1] = true) : ∀ d i, ∀ h : i + d + 1 < ns.length, Op.bytesLess ns[i] ns[i + d + 1] = true
  | 0, i, hi => h i hi
  | d + 1, i, hi => bl_trans (chain_lt h d i (by omega)) (h (i + d + 1) hi)

theorem idx_first {α : Type} {p : α → Bool} {l : List α} {k : Nat} (hk : k < l.length) (hp : p l[k] = true) (hb : ∀ i, ∀ h : i < k, p (l[i]'(by omega)) = false) : idx p l 0 = (k : Int) := by
  rcases idx_cases p l 0 with ⟨_, h⟩ | ⟨j, hj, h1, h2, h3⟩
  · rw [h _ (List.getElem_mem hk)] at hp
    cases hp
  · rcases Nat.lt_trichotomy j k with hlt | heq | hgt
    · rw [hb j hlt] at h2
      cases h2
    · rw [h1, heq]; simp
    · rw [h3 k hgt] at hp
      cases hp

structure OkSch (s : Sch) : Prop where
  tbl : ∀ t ∈ s.tables, OkTbl t
  lt : ∀ i j, ∀ h : i < j, ∀ hj : j < s.tables.length, Op.bytesLess s.tables[i].name.toList s.tables[j].name.toList = true
  n6 : s.tables.length ≤ 6
  n8 : s.fks.length ≤ 8
  m8 : s.cons.length ≤ 8

theorem okSch_of {s : Sch} (h : schE s = 0) : OkSch s := by
  unfold schE at h
  split at h
  · cases h
  rename_i h0
  cases hs : scan (tblsE s.tables) s.tables 0 with
  | some e =>
    rw [hs] at h
    simp only at h
    subst h
    exfalso
    have : ∀ (l : List Tbl) (k : Nat) (e : Int), scan (tblsE s.tables) l k = some e → e ≠ 0 := by
      intro l
      induction l with
      | nil => intro k e he; cases he
      | cons x l ih =>
        intro k e he
        unfold scan at he
        split at he
        · rename_i e' he'
          injection he with he
          subst he
          unfold tblsE at he'
          split at he'
          · rename_i hne
            injection he' with he'
            rw [← he']
            exact hne
          · split at he'
            · injection he' with he'; omega
            · cases he'
        · exact ih _ _ he
    exact this _ _ _ hs rfl
  | none =>
    have hk : ∀ k, ∀ h : k < s.tables.length, tblE s.tables[k] = 0 ∧ (0 < k → ¬ (Op.bytesLess s.tables[k].name.toList s.tables[k - 1].name.toList = true ∨ s.tables[k].name.toList = s.tables[k - 1].name.toList)) := by
      intro k hk
      have h1 := scan_none hs k hk
      rw [Nat.zero_add, tblsE] at h1
      split at h1
      · cases h1
      rename_i h2
      split at h1
      · cases h1
      rename_i h3
      refine ⟨by simpa using h2, fun h0 h4 => h3 ⟨by omega, ?_⟩⟩
      rw [show ((k : Int) - 1).toNat = k - 1 by omega, List.getD_eq_getElem?_getD, List.getElem?_eq_getElem (by omega)]
      exact h4
    have hstep : ∀ k, ∀ h : k + 1 < s.tables.length, Op.bytesLess s.tables[k].name.toList s.tables[k + 1].name.toList = true := by
      intro k h1
      have h2 := (hk (k + 1) h1).2 (by omega)
      simp only [not_or, Bool.not_eq_true, Nat.add_sub_cancel] at h2
      exact bl_total h2.1 h2.2
    refine ⟨fun t ht => ?_, fun i j hij hj => ?_, by omega, by omega, by omega⟩
    · obtain ⟨j, hj, rfl⟩ := List.mem_iff_getElem.1 ht
      exact okTbl_of (hk j hj).1
    · have h1 := chain_lt (ns := s.tables.map fun t => t.name.toList) (fun k h => by simpa using hstep k (by simpa using h)) (j - i - 1) i (by simp; omega)
      simp only [List.getElem_map] at h1
      have e : i + (j - i - 1) + 1 = j := by omega
      simpa only [e] using h1

theorem OkSch.at_self {s : Sch} (h : OkSch s) {k : Nat} (hk : k < s.tables.length) : tblAt s.tables s.tables[k].name = (k : Int) := by
  refine idx_first hk (by simp [sEq]) fun i hi => ?_
  have h1 := h.lt i k hi hk
  cases hb : sEq s.tables[i].name s.tables[k].name with
  | false => rfl
  | true =>
    have e : s.tables[i].name.toList = s.tables[k].name.toList := by simpa [sEq] using hb
    rw [e, bl_irrefl] at h1
    cases h1
theorem OkTbl.at_self {t : Tbl} (h : OkTbl t) {k : Nat} (hk : k < t.cols.length) : colAt t.cols t.cols[k].name = (k : Int) := by
  obtain ⟨_, h1, _⟩ := h.col k hk
  rcases idx_cases (fun c => sEq c.name t.cols[k].name) t.cols 0 with ⟨_, h2⟩ | ⟨j, hj, h2, h3, h4⟩
  · have := h2 _ (List.getElem_mem hk)
    simp [sEq] at this
  · have h2 : colAt t.cols t.cols[k].name = ((0 + j : Nat) : Int) := h2
    rw [h2] at h1 ⊢
    rw [mx0_nat] at h1
    rcases Nat.lt_trichotomy j k with hlt | heq | hgt
    · omega
    · omega
    · have := h4 k hgt
      simp [sEq] at this

def cellE (t : Tbl) (k : Nat) (v : Val) : Option Int :=
  if valE v ≠ 0 then some (valE v) else if v.kind = 0 ∧ (t.cols.getD k zCol).nullable = false then some 8 else if v.kind ≠ 0 ∧ v.kind ≠ (t.cols.getD k zCol).kind then some 7 else none
def rowE (t : Tbl) (r : Row) : Int :=
  if r.length ≠ t.cols.length then 3 else match scan (cellE t) r 0 with
    | some e => e
    | none => 0
set_option maxHeartbeats 8000000 in
theorem conformsRow_sat (t : Tbl) (r : Row) (h1 : r.length ≤ 140737488355328) (h2 : t.cols.length ≤ 140737488355328) : Sat Tryz.prog 41 [.agg (eTbl t), .one (eRow r)] (.v (oI (rowE t r))) := by
  refine sat_of_body tyOk Tryz.func41 rfl (by kernel_rfl) ⟨Nat.le_of_ble_eq_true rfl, Nat.le_of_ble_eq_true rfl⟩ fun w0 m0 F0 => ?_
  simp only [Tryz.ntmps41, envOf, Nat.reduceAdd]
  repeat' (first | ((first | with_reducible refine qV tyOk fun K hK => ?_ | (with_reducible first | refine qG ?_ | refine qH ?_ | refine qP ?_ | refine qGx ?_ | refine qHx ?_ | refine qPx ?_) | ((with_reducible first | refine qS ?_ ?_ | refine qT ?_ ?_ | refine qU ?_ ?_) <;> (intro h; try simp only [NM] at h)) | with_reducible refine yD tyOk mixed 6 (by kernel_rfl) fun K hK => ?_ | ((with_reducible refine CallJ.is ?_); (first | refine CallJ.pure (validate_sat _) ?_ | ((apply CallJ.lentI); (focus (simp -dsimp (disch := (first | omega | (simp only [LN]; omega))) only [go_sem, ↓reduceIte, seval]; rfl)); (focus (first | exact (validate_sat _)))))) | ((with_reducible refine CallH.is ?_); (first | refine CallH.intro (validate_sat _) ?_))) <;> simp -dsimp (disch := (first | omega | (simp only [LN]; omega))) only [go_sem, ↓reduceIte, seval]) | ((with_reducible refine hK _ ?_); clear hK K) | (with_reducible first | refine qA ?_ | refine qB ?_ | refine qC ?_ | refine qD ?_ | refine qE ?_ | refine qF ?_ | refine qL ?_ | refine qM ?_ | refine qN ?_ | refine qO ?_ | refine qQ ?_) | refine qR rfl ?_ | (with_reducible refine AI ?_) | ((with_reducible refine qW (T := TT) (b := ?_) ?_ ?_); rotate_left; exact rfl) | (with_reducible first | refine qX ?_ | refine qY ?_ | refine qZ ?_) | (with_reducible first | refine qI ?_ | refine qIx ?_ | fail) | ((with_reducible refine yS ?_ ?_) <;> (intro h; try simp only [NM] at h)))
  rotate_left
  · simp -dsimp (disch := (first | omega | (simp only [LN]; omega))) only [retQ, Tryz.results41, resVals, cellRV, resOf, St.rest, St.freeze, RT, go_sem, ↓reduceIte, seval]
    have : r.length ≠ t.cols.length := by omega
    simp [rowE, this]
  have hl : r.length = t.cols.length := by omega
  have spec : rowE t r = match scan (cellE t) r 0 with
    | some e => e
    | none => 0 := by simp [rowE, hl]
  rw [spec]
  refine AWP.loop (ι := {k : Nat // k ≤ r.length ∧ scan (cellE t) (r.drop k) k = scan (cellE t) r 0}) (fun k => ⟨53, [(2, .v (.one (.ptr 2 0))), (14, .v (.one (eRow r))), (15, .v (oI r.length)), (16, .v (oI k.1))], [(2, eTbl t)], []⟩) (fun k => r.length - k.1) ⟨0, Nat.zero_le _, rfl⟩ ?_ fun ⟨k, hkl, hi⟩ => ?_
  · refine St.le_mk ?_ ?_ ?_ <;> simp only [LE, EN, Nat.reduceEqDiff, reduceIte, Nat.reduceSub, eTbl]
  rcases Nat.lt_or_ge k r.length with hc | hc
  · repeat' (first | ((first | with_reducible refine qV tyOk fun K hK => ?_ | (with_reducible first | refine qG ?_ | refine qH ?_ | refine qP ?_ | refine qGx ?_ | refine qHx ?_ | refine qPx ?_) | ((with_reducible first | refine qS ?_ ?_ | refine qT ?_ ?_ | refine qU ?_ ?_) <;> (intro h; try simp only [NM] at h)) | with_reducible refine yD tyOk mixed 6 (by kernel_rfl) fun K hK => ?_ | ((with_reducible refine CallJ.is ?_); (first | refine CallJ.pure (validate_sat _) ?_ | ((apply CallJ.lentI); (focus (simp -dsimp (disch := (first | omega | (simp only [LN]; omega))) only [go_sem, ↓reduceIte, seval]; rfl)); (focus (first | exact (validate_sat _)))))) | ((with_reducible refine CallH.is ?_); (first | refine CallH.intro (validate_sat _) ?_))) <;> simp -dsimp (disch := (first | omega | (simp only [LN]; omega))) only [go_sem, ↓reduceIte, seval]) | ((with_reducible refine hK _ ?_); clear hK K) | (with_reducible first | refine qA ?_ | refine qB ?_ | refine qC ?_ | refine qD ?_ | refine qE ?_ | refine qF ?_ | refine qL ?_ | refine qM ?_ | refine qN ?_ | refine qO ?_ | refine qQ ?_) | refine qR rfl ?_ | (with_reducible refine AI ?_) | ((with_reducible refine qW (T := TT) (b := ?_) ?_ ?_); rotate_left; exact rfl) | (with_reducible first | refine qX ?_ | refine qY ?_ | refine qZ ?_) | (with_reducible first | refine qI ?_ | refine qIx ?_ | fail) | ((with_reducible refine yS ?_ ?_) <;> (intro h; try simp only [NM] at h)))
    all_goals
      first
        | (have hs : (cellE t) k r[k] = none := by
             (simp (disch := omega) only [cellE, getD_lt]; (repeat' split) <;> first | rfl | with_reducible assumption | omega | (exfalso; omega) | (simp_all; done) | (simp_all; omega))
           refine ⟨⟨k + 1, by omega, by rw [scan_step (by omega) hs, hi]⟩, by simp only; omega, ?_⟩
           refine St.le_mk ?_ ?_ ?_ <;> simp only [LE, EN, Nat.reduceEqDiff, reduceIte, Nat.reduceSub, eTbl]
           done)
        | (simp -dsimp (disch := (first | omega | (simp only [LN]; omega))) only [retQ, Tryz.results41, resVals, cellRV, resOf, St.rest, St.freeze, RT, go_sem, ↓reduceIte, seval]
           rw [scan_leaf (by omega) ?_ hi]
           all_goals first | with_reducible rfl | ((simp (disch := omega) only [cellE, getD_lt]; (repeat' split) <;> first | rfl | with_reducible assumption | omega | (exfalso; omega) | (simp_all; done) | (simp_all; omega)); done) | rfl
           done)
  · rw [scan_end (by omega)] at hi
    repeat' (first | ((first | with_reducible refine qV tyOk fun K hK => ?_ | (with_reducible first | refine qG ?_ | refine qH ?_ | refine qP ?_ | refine qGx ?_ | refine qHx ?_ | refine qPx ?_) | ((with_reducible first | refine qS ?_ ?_ | refine qT ?_ ?_ | refine qU ?_ ?_) <;> (intro h; try simp only [NM] at h)) | with_reducible refine yD tyOk mixed 6 (by kernel_rfl) fun K hK => ?_) <;> simp -dsimp (disch := (first | omega | (simp only [LN]; omega))) only [go_sem, ↓reduceIte, seval]) | ((with_reducible refine hK _ ?_); clear hK K) | (with_reducible first | refine qA ?_ | refine qB ?_ | refine qC ?_ | refine qD ?_ | refine qE ?_ | refine qF ?_ | refine qL ?_ | refine qM ?_ | refine qN ?_ | refine qO ?_ | refine qQ ?_) | refine qR rfl ?_ | (with_reducible refine AI ?_) | ((with_reducible refine qW (T := TT) (b := ?_) ?_ ?_); rotate_left; exact rfl) | (with_reducible first | refine qX ?_ | refine qY ?_ | refine qZ ?_) | (with_reducible first | refine qI ?_ | refine qIx ?_ | fail) | ((with_reducible refine yS ?_ ?_) <;> (intro h; try simp only [NM] at h)))
    simp -dsimp (disch := (first | omega | (simp only [LN]; omega))) only [retQ, Tryz.results41, resVals, cellRV, resOf, St.rest, St.freeze, RT, go_sem, ↓reduceIte, seval]
    rw [← hi]

def cmpCell (b : Row) (k : Nat) (x : Val) : Option Int := if k < b.length ∧ cmpV x (b.getD k zV) ≠ 0 then some (cmpV x (b.getD k zV)) else none
def cmpRows (a b : Row) : Int := match scan (cmpCell b) a 0 with
  | some e => e
  | none => cmpInts a.length b.length
theorem scan_all_none {α : Type} {f : Nat → α → Option Int} : ∀ {l : List α} {k : Nat}, (∀ j x, k ≤ j → f j x = none) → scan f l k = none
  | [], _, _ => rfl
  | x :: l, k, h => by
    rw [scan, h k x (Nat.le_refl _)]
    exact scan_all_none fun j y hj => h j y (by omega)

set_option maxHeartbeats 8000000 in
theorem compareRows_sat (a b : Row) (h1 : a.length ≤ 140737488355328) (h2 : b.length ≤ 140737488355328) : Sat Tryz.prog 42 [.one (eRow a), .one (eRow b)] (.v (oI (cmpRows a b))) := by
  refine sat_of_body tyOk Tryz.func42 rfl (by kernel_rfl) ⟨Nat.le_of_ble_eq_true rfl, Nat.le_of_ble_eq_true rfl⟩ fun w0 m0 F0 => ?_
  simp only [Tryz.ntmps42, envOf, Nat.reduceAdd]
  repeat' (first | ((first | with_reducible refine qV tyOk fun K hK => ?_ | (with_reducible first | refine qG ?_ | refine qH ?_ | refine qP ?_ | refine qGx ?_ | refine qHx ?_ | refine qPx ?_) | ((with_reducible first | refine qS ?_ ?_ | refine qT ?_ ?_ | refine qU ?_ ?_) <;> (intro h; try simp only [NM] at h)) | with_reducible refine yD tyOk mixed 6 (by kernel_rfl) fun K hK => ?_ | ((with_reducible refine CallJ.is ?_); (first | refine CallJ.pure (compare_sat _ _) ?_ | ((apply CallJ.lentI); (focus (simp -dsimp (disch := (first | omega | (simp only [LN]; omega))) only [go_sem, ↓reduceIte, seval]; rfl)); (focus (first | exact (compare_sat _ _)))))) | ((with_reducible refine CallH.is ?_); (first | refine CallH.intro (compare_sat _ _) ?_))) <;> simp -dsimp (disch := (first | omega | (simp only [LN]; omega))) only [go_sem, ↓reduceIte, seval]) | ((with_reducible refine hK _ ?_); clear hK K) | (with_reducible first | refine qA ?_ | refine qB ?_ | refine qC ?_ | refine qD ?_ | refine qE ?_ | refine qF ?_ | refine qL ?_ | refine qM ?_ | refine qN ?_ | refine qO ?_ | refine qQ ?_) | refine qR rfl ?_ | (with_reducible refine AI ?_) | ((with_reducible refine qW (T := TT) (b := ?_) ?_ ?_); rotate_left; exact rfl) | (with_reducible first | refine qX ?_ | refine qY ?_ | refine qZ ?_) | (with_reducible first | refine qI ?_ | refine qIx ?_ | fail) | ((with_reducible refine yS ?_ ?_) <;> (intro h; try simp only [NM] at h)))
  refine AWP.loop (ι := {k : Nat // k ≤ a.length ∧ k ≤ b.length ∧ scan (cmpCell b) (a.drop k) k = scan (cmpCell b) a 0}) (fun k => ⟨33, [(0, .v (.one (eRow a))), (1, .v (.one (eRow b))), (11, .v (oI (if (b.length : Int) < (a.length : Int) then (b.length : Int) else (a.length : Int)))), (12, .v (oI k.1))], [], []⟩) (fun k => a.length - k.1) ⟨0, Nat.zero_le _, Nat.zero_le _, rfl⟩ ?_ fun ⟨k, hkl, hkb, hi⟩ => ?_
  · refine St.le_mk ?_ ?_ ?_ <;> simp only [LE, EN, Nat.reduceEqDiff, reduceIte, Nat.reduceSub]
  by_cases hc : k < a.length ∧ k < b.length
  · obtain ⟨hc1, hc2⟩ := hc
    have hm : (k : Int) < (if (b.length : Int) < (a.length : Int) then (b.length : Int) else (a.length : Int)) := by split <;> omega
    repeat' (first | ((first | with_reducible refine qV tyOk fun K hK => ?_ | (with_reducible first | refine qG ?_ | refine qH ?_ | refine qP ?_ | refine qGx ?_ | refine qHx ?_ | refine qPx ?_) | ((with_reducible first | refine qS ?_ ?_ | refine qT ?_ ?_ | refine qU ?_ ?_) <;> (intro h; try simp only [NM] at h)) | with_reducible refine yD tyOk mixed 6 (by kernel_rfl) fun K hK => ?_ | ((with_reducible refine CallJ.is ?_); (first | refine CallJ.pure (compare_sat _ _) ?_ | ((apply CallJ.lentI); (focus (simp -dsimp (disch := (first | omega | (simp only [LN]; omega))) only [go_sem, ↓reduceIte, seval, hm]; rfl)); (focus (first | exact (compare_sat _ _)))))) | ((with_reducible refine CallH.is ?_); (first | refine CallH.intro (compare_sat _ _) ?_))) <;> simp -dsimp (disch := (first | omega | (simp only [LN]; omega))) only [go_sem, ↓reduceIte, seval, hm]) | ((with_reducible refine hK _ ?_); clear hK K) | (with_reducible first | refine qA ?_ | refine qB ?_ | refine qC ?_ | refine qD ?_ | refine qE ?_ | refine qF ?_ | refine qL ?_ | refine qM ?_ | refine qN ?_ | refine qO ?_ | refine qQ ?_) | refine qR rfl ?_ | (with_reducible refine AI ?_) | ((with_reducible refine qW (T := TT) (b := ?_) ?_ ?_); rotate_left; exact rfl) | (with_reducible first | refine qX ?_ | refine qY ?_ | refine qZ ?_) | (with_reducible first | refine qI ?_ | refine qIx ?_ | fail) | ((with_reducible refine yS ?_ ?_) <;> (intro h; try simp only [NM] at h)))
    all_goals first
      | (have hs : cmpCell b k a[k] = none := by
           (simp (disch := omega) only [cmpCell, getD_lt]; rw [if_neg]; omega)
         refine ⟨⟨k + 1, by omega, by omega, by rw [scan_step (by omega) hs, hi]⟩, by simp only; omega, ?_⟩
         refine St.le_mk ?_ ?_ ?_ <;> simp only [LE, EN, Nat.reduceEqDiff, reduceIte, Nat.reduceSub]
         done)
      | (have hs : cmpCell b k a[k] = some (cmpV a[k] b[k]) := by
           (simp (disch := omega) only [cmpCell, getD_lt]; rw [if_pos]; omega)
         simp -dsimp (disch := (first | omega | (simp only [LN]; omega))) only [retQ, Tryz.results42, resVals, cellRV, resOf, St.rest, St.freeze, RT, go_sem, ↓reduceIte, seval]
         rw [cmpRows, scan_leaf (by omega) hs hi]
         done)
  · have hm : ¬ (k : Int) < (if (b.length : Int) < (a.length : Int) then (b.length : Int) else (a.length : Int)) := by split <;> omega
    have hn : scan (cmpCell b) a 0 = none := by
      rw [← hi]
      rcases Nat.lt_or_ge k a.length with h | h
      · exact scan_all_none fun j x hj => if_neg (by omega)
      · rw [scan_end (by omega)]
    repeat' (first | ((first | with_reducible refine qV tyOk fun K hK => ?_ | (with_reducible first | refine qG ?_ | refine qH ?_ | refine qP ?_ | refine qGx ?_ | refine qHx ?_ | refine qPx ?_) | ((with_reducible first | refine qS ?_ ?_ | refine qT ?_ ?_ | refine qU ?_ ?_) <;> (intro h; try simp only [NM] at h)) | with_reducible refine yD tyOk mixed 6 (by kernel_rfl) fun K hK => ?_ | ((with_reducible refine CallJ.is ?_); (first | refine CallJ.pure (compareInts_sat _ _) ?_ | ((apply CallJ.lentI); (focus (simp -dsimp (disch := (first | omega | (simp only [LN]; omega))) only [go_sem, ↓reduceIte, seval, hm]; rfl)); (focus (first | exact (compareInts_sat _ _)))))) | ((with_reducible refine CallH.is ?_); (first | refine CallH.intro (compareInts_sat _ _) ?_))) <;> simp -dsimp (disch := (first | omega | (simp only [LN]; omega))) only [go_sem, ↓reduceIte, seval, hm]) | ((with_reducible refine hK _ ?_); clear hK K) | (with_reducible first | refine qA ?_ | refine qB ?_ | refine qC ?_ | refine qD ?_ | refine qE ?_ | refine qF ?_ | refine qL ?_ | refine qM ?_ | refine qN ?_ | refine qO ?_ | refine qQ ?_) | refine qR rfl ?_ | (with_reducible refine AI ?_) | ((with_reducible refine qW (T := TT) (b := ?_) ?_ ?_); rotate_left; exact rfl) | (with_reducible first | refine qX ?_ | refine qY ?_ | refine qZ ?_) | (with_reducible first | refine qI ?_ | refine qIx ?_ | fail) | ((with_reducible refine yS ?_ ?_) <;> (intro h; try simp only [NM] at h)))
    simp -dsimp (disch := (first | omega | (simp only [LN]; omega))) only [retQ, Tryz.results42, resVals, cellRV, resOf, St.rest, St.freeze, RT, go_sem, ↓reduceIte, seval]
    rw [cmpRows, hn]

set_option maxHeartbeats 4000000 in
theorem indexFuncRow_sat (l : List Row) (f : Nat) (cs : List L) (p : Row → Bool) (hlen : l.length ≤ 140737488355328) (hp : ∀ t ∈ l, Sat Tryz.prog f (.one (eRow t) :: cs.map .one) (.v (oB (p t)))) :
    Sat Tryz.prog 33 [.one (eRows l), .one (.clo f cs)] (.v (oI (idx p l 0))) := by
  refine sat_of_body tyOk Tryz.func33 rfl (by kernel_rfl) ⟨Nat.le_of_ble_eq_true rfl, Nat.le_of_ble_eq_true rfl⟩ fun w0 m0 F0 => ?_
  simp only [Tryz.ntmps33, envOf, Nat.reduceAdd]
  repeat' (first | ((first | with_reducible refine qV tyOk fun K hK => ?_ | (with_reducible first | refine qG ?_ | refine qH ?_ | refine qP ?_ | refine qGx ?_ | refine qHx ?_ | refine qPx ?_) | ((with_reducible first | refine qS ?_ ?_ | refine qT ?_ ?_ | refine qU ?_ ?_) <;> (intro h; try simp only [NM] at h)) | with_reducible refine yD tyOk mixed 6 (by kernel_rfl) fun K hK => ?_) <;> simp -dsimp (disch := (first | omega | (simp only [LN]; omega))) only [go_sem, ↓reduceIte, seval]) | ((with_reducible refine hK _ ?_); clear hK K) | (with_reducible first | refine qA ?_ | refine qB ?_ | refine qC ?_ | refine qD ?_ | refine qE ?_ | refine qF ?_ | refine qL ?_ | refine qM ?_ | refine qN ?_ | refine qO ?_ | refine qQ ?_) | refine qR rfl ?_ | (with_reducible refine AI ?_) | ((with_reducible refine qW (T := TT) (b := ?_) ?_ ?_); rotate_left; exact rfl) | (with_reducible first | refine qX ?_ | refine qY ?_ | refine qZ ?_) | (with_reducible first | refine qI ?_ | refine qIx ?_ | fail) | ((with_reducible refine yS ?_ ?_) <;> (intro h; try simp only [NM] at h)))
  refine AWP.loop (ι := {k : Nat // k ≤ l.length ∧ idx p (l.drop k) k = idx p l 0}) (fun k => ⟨19, [(0, .v (.one (eRows l))), (1, .v (.one (.clo f cs))), (7, .v (oI l.length)), (8, .v (oI k.1))], [], []⟩) (fun k => l.length - k.1) ⟨0, Nat.zero_le _, rfl⟩ ?_ fun ⟨k, hkl, hi⟩ => ?_
  · refine St.le_mk ?_ ?_ ?_ <;> simp only [LE, EN, Nat.reduceEqDiff, reduceIte, Nat.reduceSub]
  repeat' (first | ((first | with_reducible refine qV tyOk fun K hK => ?_ | (with_reducible first | refine qG ?_ | refine qH ?_ | refine qP ?_ | refine qGx ?_ | refine qHx ?_ | refine qPx ?_) | ((with_reducible first | refine qS ?_ ?_ | refine qT ?_ ?_ | refine qU ?_ ?_) <;> (intro h; try simp only [NM] at h)) | with_reducible refine yD tyOk mixed 6 (by kernel_rfl) fun K hK => ?_ | ((with_reducible refine CallJ.is ?_); (first | refine CallJ.pure (hp _ (List.getElem_mem (by omega))) ?_ | ((apply CallJ.lentI); (focus (simp -dsimp (disch := (first | omega | (simp only [LN]; omega))) only [go_sem, ↓reduceIte, seval]; rfl)); (focus (first | exact (hp _ (List.getElem_mem (by omega)))))))) | ((with_reducible refine CallH.is ?_); (first | refine CallH.intro (hp _ (List.getElem_mem (by omega))) ?_))) <;> simp -dsimp (disch := (first | omega | (simp only [LN]; omega))) only [go_sem, ↓reduceIte, seval]) | ((with_reducible refine hK _ ?_); clear hK K) | (with_reducible first | refine qA ?_ | refine qB ?_ | refine qC ?_ | refine qD ?_ | refine qE ?_ | refine qF ?_ | refine qL ?_ | refine qM ?_ | refine qN ?_ | refine qO ?_ | refine qQ ?_) | refine qR rfl ?_ | (with_reducible refine AI ?_) | ((with_reducible refine qW (T := TT) (b := ?_) ?_ ?_); rotate_left; exact rfl) | (with_reducible first | refine qX ?_ | refine qY ?_ | refine qZ ?_) | (with_reducible first | refine qI ?_ | refine qIx ?_ | fail) | ((with_reducible refine yS ?_ ?_) <;> (intro h; try simp only [NM] at h)))
  all_goals first 
    | (have hk : ¬ k < l.length := by omega
       simp -dsimp (disch := (first | omega | (simp only [LN]; omega))) only [retQ, Tryz.results33, resVals, cellRV, resOf, St.rest, St.freeze, RT, go_sem, ↓reduceIte, seval]
       rw [← hi, idx_end hk]
       done)
    | (
       simp -dsimp (disch := (first | omega | (simp only [LN]; omega))) only [retQ, Tryz.results33, resVals, cellRV, resOf, St.rest, St.freeze, RT, go_sem, ↓reduceIte, seval]
       rw [← hi, idx_hit _ ‹_›])
    | (refine ⟨⟨k + 1, by omega, by rw [idx_step _ ‹_›, hi]⟩, by simp only; omega, ?_⟩
       refine St.le_mk ?_ ?_ ?_ <;> simp only [LE, EN, Nat.reduceEqDiff, reduceIte, Nat.reduceSub]
       )


theorem containsRow_sat (l : List Row) (f : Nat) (cs : List L) (p : Row → Bool) (hlen : l.length ≤ 140737488355328) (hp : ∀ t ∈ l, Sat Tryz.prog f (.one (eRow t) :: cs.map .one) (.v (oB (p t)))) :
    Sat Tryz.prog 12 [.one (eRows l), .one (.clo f cs)] (.v (oB (decide (0 ≤ idx p l 0)))) := by
  refine sat_of_body tyOk Tryz.func12 rfl (by kernel_rfl) ⟨Nat.le_of_ble_eq_true rfl, Nat.le_of_ble_eq_true rfl⟩ fun w0 m0 F0 => ?_
  simp only [Tryz.ntmps12, envOf, Nat.reduceAdd]
  repeat' (first | ((first | with_reducible refine qV tyOk fun K hK => ?_ | (with_reducible first | refine qG ?_ | refine qH ?_ | refine qP ?_ | refine qGx ?_ | refine qHx ?_ | refine qPx ?_) | ((with_reducible first | refine qS ?_ ?_ | refine qT ?_ ?_ | refine qU ?_ ?_) <;> (intro h; try simp only [NM] at h)) | with_reducible refine yD tyOk mixed 6 (by kernel_rfl) fun K hK => ?_ | ((with_reducible refine CallJ.is ?_); (first | refine CallJ.pure (indexFuncRow_sat l _ _ _ hlen hp) ?_ | ((apply CallJ.lentI); (focus (simp -dsimp (disch := (first | omega | (simp only [LN]; omega))) only [go_sem, ↓reduceIte, seval]; rfl)); (focus (first | exact (indexFuncRow_sat l _ _ _ hlen hp)))))) | ((with_reducible refine CallH.is ?_); (first | refine CallH.intro (indexFuncRow_sat l _ _ _ hlen hp) ?_))) <;> simp -dsimp (disch := (first | omega | (simp only [LN]; omega))) only [go_sem, ↓reduceIte, seval]) | ((with_reducible refine hK _ ?_); clear hK K) | (with_reducible first | refine qA ?_ | refine qB ?_ | refine qC ?_ | refine qD ?_ | refine qE ?_ | refine qF ?_ | refine qL ?_ | refine qM ?_ | refine qN ?_ | refine qO ?_ | refine qQ ?_) | refine qR rfl ?_ | (with_reducible refine AI ?_) | ((with_reducible refine qW (T := TT) (b := ?_) ?_ ?_); rotate_left; exact rfl) | (with_reducible first | refine qX ?_ | refine qY ?_ | refine qZ ?_) | (with_reducible first | refine qI ?_ | refine qIx ?_ | fail) | ((with_reducible refine yS ?_ ?_) <;> (intro h; try simp only [NM] at h)))
  simp -dsimp (disch := (first | omega | (simp only [LN]; omega))) only [retQ, Tryz.results12, resVals, cellRV, resOf, St.rest, St.freeze, RT, go_sem, ↓reduceIte, seval]

set_option maxHeartbeats 8000000 in
theorem cloneRow_own (r : List Val) (h1 : r.length ≤ 1099511627776) : SatM Tryz.prog 47 [.one (eRow r)] [] [] (.v (.one (.ref 2 0 r.length))) [] [(2, ⟨3, r.map eVal, []⟩)] := by
  refine satM_of_body tyOk [] [2] Tryz.func47 rfl (by kernel_rfl) ⟨Nat.le_of_ble_eq_true rfl, Nat.le_of_ble_eq_true rfl⟩ fun w0 m0 F0 => ?_
  simp only [Tryz.ntmps47, envOf, Nat.reduceAdd]
  repeat' (first | ((first | with_reducible refine qV tyOk fun K hK => ?_ | (with_reducible first | refine qG ?_ | refine qH ?_ | refine qP ?_ | refine qGx ?_ | refine qHx ?_ | refine qPx ?_) | ((with_reducible first | refine qS ?_ ?_ | refine qT ?_ ?_ | refine qU ?_ ?_) <;> (intro h; try simp only [NM] at h)) | with_reducible refine yD tyOk mixed 6 (by kernel_rfl) fun K hK => ?_) <;> simp -dsimp (disch := (first | omega | (simp only [LN]; omega))) only [go_sem, ↓reduceIte, seval]) | ((with_reducible refine hK _ ?_); clear hK K) | (with_reducible first | refine qA ?_ | refine qB ?_ | refine qC ?_ | refine qD ?_ | refine qE ?_ | refine qF ?_ | refine qL ?_ | refine qM ?_ | refine qN ?_ | refine qO ?_ | refine qQ ?_) | refine qR rfl ?_ | (with_reducible refine AI ?_) | ((with_reducible refine qW (T := TT) (b := ?_) ?_ ?_); rotate_left; exact rfl) | (with_reducible first | refine qX ?_ | refine qY ?_ | refine qZ ?_) | (with_reducible first | refine qI ?_ | refine qIx ?_ | fail) | ((with_reducible refine yS ?_ ?_) <;> (intro h; try simp only [NM] at h)))
  intro b hb
  refine hK _ ?_
  clear hK K
  repeat' (first | ((first | with_reducible refine qV tyOk fun K hK => ?_ | (with_reducible first | refine qG ?_ | refine qH ?_ | refine qP ?_ | refine qGx ?_ | refine qHx ?_ | refine qPx ?_) | ((with_reducible first | refine qS ?_ ?_ | refine qT ?_ ?_ | refine qU ?_ ?_) <;> (intro h; try simp only [NM] at h)) | with_reducible refine yD tyOk mixed 6 (by kernel_rfl) fun K hK => ?_) <;> simp -dsimp (disch := (first | omega | (simp only [LN]; omega))) only [go_sem, ↓reduceIte, seval]) | ((with_reducible refine hK _ ?_); clear hK K) | (with_reducible first | refine qA ?_ | refine qB ?_ | refine qC ?_ | refine qD ?_ | refine qE ?_ | refine qF ?_ | refine qL ?_ | refine qM ?_ | refine qN ?_ | refine qO ?_ | refine qQ ?_) | refine qR rfl ?_ | (with_reducible refine AI ?_) | ((with_reducible refine qW (T := TT) (b := ?_) ?_ ?_); rotate_left; exact rfl) | (with_reducible first | refine qX ?_ | refine qY ?_ | refine qZ ?_) | (with_reducible first | refine qI ?_ | refine qIx ?_ | fail) | ((with_reducible refine yS ?_ ?_) <;> (intro h; try simp only [NM] at h)))
  all_goals simp -dsimp (disch := (first | omega | (simp only [LN]; omega))) only [retQ, Tryz.results47, resVals, cellRV, resOf, St.rest, St.freeze, RT, go_sem, ↓reduceIte, seval]
  have h2 : r = [] := by
    cases r with
    | nil => rfl
    | cons x r => exact absurd ((hb _ rfl (by simp)).symm.trans ‹b = true›) (by decide)
  subst h2
  exact ⟨rfl, rfl⟩
theorem cloneRow_sat (r : List Val) (h1 : r.length ≤ 1099511627776) : Sat Tryz.prog 47 [.one (eRow r)] (.v (.one (eRow r))) :=
  (cloneRow_own r h1).frz (by
    simp -dsimp (disch := (first | omega | (simp only [LN]; omega))) only [go_sem, ↓reduceIte, seval, topL_ref, St.rest, roots, dropL_nil, eRow]
    )

set_option maxHeartbeats 8000000 in
theorem relClone_own (l : List Row) (h1 : l.length ≤ 1099511627776) (h2 : ∀ r ∈ l, r.length ≤ 1099511627776) : SatM Tryz.prog 43 [.one (eRows l)] [] [] (.v (.one (.ref 2 0 l.length))) [] [(2, ⟨1, l.map eRow1, []⟩)] := by
  refine satM_of_body tyOk [] [2] Tryz.func43 rfl (by kernel_rfl) ⟨Nat.le_of_ble_eq_true rfl, Nat.le_of_ble_eq_true rfl⟩ fun w0 m0 F0 => ?_
  simp only [Tryz.ntmps43, envOf, Nat.reduceAdd]
  repeat' (first | ((first | with_reducible refine qV tyOk fun K hK => ?_ | (with_reducible first | refine qG ?_ | refine qH ?_ | refine qP ?_ | refine qGx ?_ | refine qHx ?_ | refine qPx ?_) | ((with_reducible first | refine qS ?_ ?_ | refine qT ?_ ?_ | refine qU ?_ ?_) <;> (intro h; try simp only [NM] at h)) | with_reducible refine yD tyOk mixed 6 (by kernel_rfl) fun K hK => ?_) <;> simp -dsimp (disch := (first | omega | (simp only [LN]; omega))) only [go_sem, ↓reduceIte, seval]) | ((with_reducible refine hK _ ?_); clear hK K) | (with_reducible first | refine qA ?_ | refine qB ?_ | refine qC ?_ | refine qD ?_ | refine qE ?_ | refine qF ?_ | refine qL ?_ | refine qM ?_ | refine qN ?_ | refine qO ?_ | refine qQ ?_) | refine qR rfl ?_ | (with_reducible refine AI ?_) | ((with_reducible refine qW (T := TT) (b := ?_) ?_ ?_); rotate_left; exact rfl) | (with_reducible first | refine qX ?_ | refine qY ?_ | refine qZ ?_) | (with_reducible first | refine qI ?_ | refine qIx ?_ | fail) | ((with_reducible refine yS ?_ ?_) <;> (intro h; try simp only [NM] at h)))
  refine AWP.loop (ι := {k : Nat // k ≤ l.length}) (fun k => ⟨19, [(3, .v (.one (.ref 3 0 k.1))), (6, .v (.one (eRows l))), (7, .v (oI l.length)), (8, .v (oI k.1))], [], [(3, ⟨1, (l.take k.1).map eRow1, []⟩)]⟩) (fun k => l.length - k.1) ⟨0, Nat.zero_le _⟩ ?_ fun ⟨k, hkl⟩ => ?_
  · refine St.le_mk ?_ ?_ ?_ <;> simp only [LE, EN, Nat.reduceEqDiff, reduceIte, Nat.reduceSub]
  have hlen : (l.take k).length = k := by simp; omega
  rcases Nat.lt_or_ge k l.length with hc | hc
  · have b1 := h2 l[k] (List.getElem_mem hc)
    repeat' (first | ((first | with_reducible refine qV tyOk fun K hK => ?_ | (with_reducible first | refine qG ?_ | refine qH ?_ | refine qP ?_ | refine qGx ?_ | refine qHx ?_ | refine qPx ?_) | ((with_reducible first | refine qS ?_ ?_ | refine qT ?_ ?_ | refine qU ?_ ?_) <;> (intro h; try simp only [NM] at h)) | with_reducible refine yD tyOk mixed 6 (by kernel_rfl) fun K hK => ?_ | ((with_reducible refine CallJ.is ?_); (first | refine CallJ.pure (cloneRow_sat _ b1) ?_ | ((apply CallJ.lentI); (focus (simp -dsimp (disch := (first | omega | (simp only [LN]; omega))) only [go_sem, ↓reduceIte, seval, hlen]; rfl)); (focus (first | exact (cloneRow_sat _ b1)))))) | ((with_reducible refine CallH.is ?_); (first | refine CallH.intro (cloneRow_sat _ b1) ?_))) <;> simp -dsimp (disch := (first | omega | (simp only [LN]; omega))) only [go_sem, ↓reduceIte, seval, hlen]) | ((with_reducible refine hK _ ?_); clear hK K) | (with_reducible first | refine qA ?_ | refine qB ?_ | refine qC ?_ | refine qD ?_ | refine qE ?_ | refine qF ?_ | refine qL ?_ | refine qM ?_ | refine qN ?_ | refine qO ?_ | refine qQ ?_) | refine qR rfl ?_ | (with_reducible refine AI ?_) | ((with_reducible refine qW (T := TT) (b := ?_) ?_ ?_); rotate_left; exact rfl) | (with_reducible first | refine qX ?_ | refine qY ?_ | refine qZ ?_) | (with_reducible first | refine qI ?_ | refine qIx ?_ | fail) | ((with_reducible refine yS ?_ ?_) <;> (intro h; try simp only [NM] at h)))
    refine ⟨⟨k + 1, by omega⟩, by simp only; omega, ?_⟩
    have e := take_snoc l k hc
    refine St.le_mk ?_ ?_ ?_ <;> simp only [LE, EN, Nat.reduceEqDiff, reduceIte, Nat.reduceSub, e, eRow1, eRow]
  · have hk : k = l.length := by omega
    subst hk
    repeat' (first | ((first | with_reducible refine qV tyOk fun K hK => ?_ | (with_reducible first | refine qG ?_ | refine qH ?_ | refine qP ?_ | refine qGx ?_ | refine qHx ?_ | refine qPx ?_) | ((with_reducible first | refine qS ?_ ?_ | refine qT ?_ ?_ | refine qU ?_ ?_) <;> (intro h; try simp only [NM] at h)) | with_reducible refine yD tyOk mixed 6 (by kernel_rfl) fun K hK => ?_) <;> simp -dsimp (disch := (first | omega | (simp only [LN]; omega))) only [go_sem, ↓reduceIte, seval]) | ((with_reducible refine hK _ ?_); clear hK K) | (with_reducible first | refine qA ?_ | refine qB ?_ | refine qC ?_ | refine qD ?_ | refine qE ?_ | refine qF ?_ | refine qL ?_ | refine qM ?_ | refine qN ?_ | refine qO ?_ | refine qQ ?_) | refine qR rfl ?_ | (with_reducible refine AI ?_) | ((with_reducible refine qW (T := TT) (b := ?_) ?_ ?_); rotate_left; exact rfl) | (with_reducible first | refine qX ?_ | refine qY ?_ | refine qZ ?_) | (with_reducible first | refine qI ?_ | refine qIx ?_ | fail) | ((with_reducible refine yS ?_ ?_) <;> (intro h; try simp only [NM] at h)))
    simp -dsimp (disch := (first | omega | (simp only [LN]; omega))) only [retQ, Tryz.results43, resVals, cellRV, resOf, St.rest, St.freeze, RT, go_sem, ↓reduceIte, seval]
theorem relClone_sat (l : List Row) (h1 : l.length ≤ 1099511627776) (h2 : ∀ r ∈ l, r.length ≤ 1099511627776) : Sat Tryz.prog 43 [.one (eRows l)] (.v (.one (eRows l))) :=
  (relClone_own l h1 h2).frz (by
    simp -dsimp (disch := (first | omega | (simp only [LN]; omega))) only [go_sem, ↓reduceIte, seval, topL_ref, St.rest, roots, dropL_nil, eRows]
    )

def atKey (t : Tbl) (key : Row) (r : Row) : Bool := decide (0 ≤ cmpRows (keyOf t.pk r) key)
def findPos (t : Tbl) (rows : List Row) (key : Row) : Int := idx (atKey t key) rows 0
def findI (t : Tbl) (rows : List Row) (key : Row) : Int := if findPos t rows key < 0 then rows.length else findPos t rows key
def findB (t : Tbl) (rows : List Row) (key : Row) : Bool := if findPos t rows key < 0 then false else cmpRows (keyOf t.pk (rows.getD (findPos t rows key).toNat [])) key == 0

set_option maxHeartbeats 8000000 in
theorem find_sat (t : Tbl) (rows : List Row) (key : Row) (h1 : t.pk.length ≤ 1099511627776) (h2 : rows.length ≤ 140737488355328) (h3 : key.length ≤ 140737488355328) :
    Sat Tryz.prog 48 [.agg (eTbl t), .one (eRows rows), .one (eRow key)] (.tup [oI (findI t rows key), oB (findB t rows key)]) := by
  refine sat_of_body tyOk Tryz.func48 rfl (by kernel_rfl) ⟨Nat.le_of_ble_eq_true rfl, Nat.le_of_ble_eq_true rfl⟩ fun w0 m0 F0 => ?_
  simp only [Tryz.ntmps48, envOf, Nat.reduceAdd]
  repeat' (first | ((first | with_reducible refine qV tyOk fun K hK => ?_ | (with_reducible first | refine qG ?_ | refine qH ?_ | refine qP ?_ | refine qGx ?_ | refine qHx ?_ | refine qPx ?_) | ((with_reducible first | refine qS ?_ ?_ | refine qT ?_ ?_ | refine qU ?_ ?_) <;> (intro h; try simp only [NM] at h)) | with_reducible refine yD tyOk mixed 6 (by kernel_rfl) fun K hK => ?_) <;> simp -dsimp (disch := (first | omega | (simp only [LN]; omega))) only [go_sem, ↓reduceIte, seval]) | ((with_reducible refine hK _ ?_); clear hK K) | (with_reducible first | refine qA ?_ | refine qB ?_ | refine qC ?_ | refine qD ?_ | refine qE ?_ | refine qF ?_ | refine qL ?_ | refine qM ?_ | refine qN ?_ | refine qO ?_ | refine qQ ?_) | refine qR rfl ?_ | (with_reducible refine AI ?_) | ((with_reducible refine qW (T := TT) (b := ?_) ?_ ?_); rotate_left; exact rfl) | (with_reducible first | refine qX ?_ | refine qY ?_ | refine qZ ?_) | (with_reducible first | refine qI ?_ | refine qIx ?_ | fail) | ((with_reducible refine yS ?_ ?_) <;> (intro h; try simp only [NM] at h)))
  refine AWP.loop (ι := {k : Nat // k ≤ rows.length ∧ idx (atKey t key) (rows.drop k) k = findPos t rows key}) (fun k => ⟨31, [(3, .v (.one (.ptr 3 0))), (1, .v (.one (eRows rows))), (2, .v (.one (eRow key))), (11, .v (.one (eRows rows))), (12, .v (oI rows.length)), (13, .v (oI k.1))], [(3, eTbl t)], []⟩) (fun k => rows.length - k.1) ⟨0, Nat.zero_le _, rfl⟩ ?_ fun ⟨k, hkl, hi⟩ => ?_
  · refine St.le_mk ?_ ?_ ?_ <;> simp only [LE, EN, Nat.reduceEqDiff, reduceIte, Nat.reduceSub, eTbl]
  rcases Nat.lt_or_ge k rows.length with hc | hc
  · have b1 : (keyOf t.pk rows[k]).length ≤ 140737488355328 := by rw [keyOf_length]; omega
    repeat' (first | ((first | with_reducible refine qV tyOk fun K hK => ?_ | (with_reducible first | refine qG ?_ | refine qH ?_ | refine qP ?_ | refine qGx ?_ | refine qHx ?_ | refine qPx ?_) | ((with_reducible first | refine qS ?_ ?_ | refine qT ?_ ?_ | refine qU ?_ ?_) <;> (intro h; try simp only [NM] at h)) | with_reducible refine yD tyOk mixed 6 (by kernel_rfl) fun K hK => ?_ | ((with_reducible refine CallJ.is ?_); (first | refine CallJ.pure (key_sat t rows[k] h1) ?_ | refine CallJ.pure (compareRows_sat (keyOf t.pk rows[k]) key b1 h3) ?_ | ((apply CallJ.lentI); (focus (simp -dsimp (disch := (first | omega | (simp only [LN]; omega))) only [go_sem, ↓reduceIte, seval]; rfl)); (focus (first | exact (key_sat t rows[k] h1) | exact (compareRows_sat (keyOf t.pk rows[k]) key b1 h3)))))) | ((with_reducible refine CallH.is ?_); (first | refine CallH.intro (key_sat t rows[k] h1) ?_ | refine CallH.intro (compareRows_sat (keyOf t.pk rows[k]) key b1 h3) ?_))) <;> simp -dsimp (disch := (first | omega | (simp only [LN]; omega))) only [go_sem, ↓reduceIte, seval]) | ((with_reducible refine hK _ ?_); clear hK K) | (with_reducible first | refine qA ?_ | refine qB ?_ | refine qC ?_ | refine qD ?_ | refine qE ?_ | refine qF ?_ | refine qL ?_ | refine qM ?_ | refine qN ?_ | refine qO ?_ | refine qQ ?_) | refine qR rfl ?_ | (with_reducible refine AI ?_) | ((with_reducible refine qW (T := TT) (b := ?_) ?_ ?_); rotate_left; exact rfl) | (with_reducible first | refine qX ?_ | refine qY ?_ | refine qZ ?_) | (with_reducible first | refine qI ?_ | refine qIx ?_ | fail) | ((with_reducible refine yS ?_ ?_) <;> (intro h; try simp only [NM] at h)))
    · have hp : atKey t key rows[k] = true := by simp only [atKey, decide_eq_true_eq]; omega
      have hq : findPos t rows key = (k : Int) := by rw [← hi, idx_hit hc hp]
      simp -dsimp (disch := (first | omega | (simp only [LN]; omega))) only [retQ, Tryz.results48, resVals, cellRV, resOf, St.rest, St.freeze, RT, go_sem, ↓reduceIte, seval]
      simp only [findI, findB, hq, Int.toNat_natCast, getD_lt _ hc]
      rw [if_neg (by omega), if_neg (by omega)]
    · have hp : atKey t key rows[k] = false := by simp only [atKey, decide_eq_false_iff_not]; omega
      refine ⟨⟨k + 1, by omega, by rw [idx_step hc hp, hi]⟩, by simp only; omega, ?_⟩
      refine St.le_mk ?_ ?_ ?_ <;> simp only [LE, EN, Nat.reduceEqDiff, reduceIte, Nat.reduceSub, eTbl]
  · rw [idx_end (by omega)] at hi
    repeat' (first | ((first | with_reducible refine qV tyOk fun K hK => ?_ | (with_reducible first | refine qG ?_ | refine qH ?_ | refine qP ?_ | refine qGx ?_ | refine qHx ?_ | refine qPx ?_) | ((with_reducible first | refine qS ?_ ?_ | refine qT ?_ ?_ | refine qU ?_ ?_) <;> (intro h; try simp only [NM] at h)) | with_reducible refine yD tyOk mixed 6 (by kernel_rfl) fun K hK => ?_) <;> simp -dsimp (disch := (first | omega | (simp only [LN]; omega))) only [go_sem, ↓reduceIte, seval]) | ((with_reducible refine hK _ ?_); clear hK K) | (with_reducible first | refine qA ?_ | refine qB ?_ | refine qC ?_ | refine qD ?_ | refine qE ?_ | refine qF ?_ | refine qL ?_ | refine qM ?_ | refine qN ?_ | refine qO ?_ | refine qQ ?_) | refine qR rfl ?_ | (with_reducible refine AI ?_) | ((with_reducible refine qW (T := TT) (b := ?_) ?_ ?_); rotate_left; exact rfl) | (with_reducible first | refine qX ?_ | refine qY ?_ | refine qZ ?_) | (with_reducible first | refine qI ?_ | refine qIx ?_ | fail) | ((with_reducible refine yS ?_ ?_) <;> (intro h; try simp only [NM] at h)))
    simp -dsimp (disch := (first | omega | (simp only [LN]; omega))) only [retQ, Tryz.results48, resVals, cellRV, resOf, St.rest, St.freeze, RT, go_sem, ↓reduceIte, seval]
    simp [findI, findB, ← hi]

structure Bounds (s : Sch) (i : Inst) : Prop where
  tables : s.tables.length ≤ 140737488355328
  table : ∀ t ∈ s.tables, t.cols.length ≤ 1099511627776 ∧ t.pk.length ≤ 1099511627776
  fk : ∀ f ∈ s.fks, f.cols.length ≤ 1099511627776
  rel : ∀ r ∈ i, r.rows.length ≤ 1099511627776 ∧ ∀ x ∈ r.rows, x.length ≤ 1099511627776
structure Bounds0 (s : Sch) (i : Inst) : Prop where
  tables : s.tables.length ≤ 140737488355328
  table : ∀ t ∈ s.tables, t.cols.length ≤ 1099511627776 ∧ t.pk.length ≤ 1099511627776
  fk : ∀ f ∈ s.fks, f.cols.length ≤ 1099511627776
  fks : s.fks.length ≤ 140737488355328
  cons : s.cons.length ≤ 140737488355328
  rel : ∀ r ∈ i, r.rows.length ≤ 140737488355328 ∧ ∀ x ∈ r.rows, x.length ≤ 140737488355328

def pairE (t : Tbl) (rows : List Row) (j : Nat) (x : Row) : Option Int :=
  if rowE t x ≠ 0 then some (rowE t x) else if j = 0 then none else
  if cmpRows (keyOf t.pk (rows.getD ((j : Int) - 1).toNat [])) (keyOf t.pk x) = 0 then some 9 else if 0 < cmpRows (keyOf t.pk (rows.getD ((j : Int) - 1).toNat [])) (keyOf t.pk x) then some 6 else none
def relE (s : Sch) (k : Nat) (r : Rel) : Option Int :=
  if sEq r.table (s.tables.getD k zTbl).name = false then some 3 else if 24 < r.rows.length then some 2 else scan (pairE (s.tables.getD k zTbl) r.rows) r.rows 0
def confE (s : Sch) (i : Inst) : Int :=
  if i.length ≠ s.tables.length then 3 else match scan (relE s) i 0 with
    | some e => e
    | none => 0
set_option maxHeartbeats 16000000 in
theorem conforms_sat (s : Sch) (i : Inst) (hB : Bounds0 s i) (hi : i.length ≤ 140737488355328) : Sat Tryz.prog 17 [.agg (eSch s), .one (eInst i)] (.v (oI (confE s i))) := by
  refine sat_of_body tyOk Tryz.func17 rfl (by kernel_rfl) ⟨Nat.le_of_ble_eq_true rfl, Nat.le_of_ble_eq_true rfl⟩ fun w0 m0 F0 => ?_
  simp only [Tryz.ntmps17, envOf, Nat.reduceAdd]
  repeat' (first | ((first | with_reducible refine qV tyOk fun K hK => ?_ | (with_reducible first | refine qG ?_ | refine qH ?_ | refine qP ?_ | refine qGx ?_ | refine qHx ?_ | refine qPx ?_) | ((with_reducible first | refine qS ?_ ?_ | refine qT ?_ ?_ | refine qU ?_ ?_) <;> (intro h; try simp only [NM] at h)) | with_reducible refine yD tyOk mixed 6 (by kernel_rfl) fun K hK => ?_) <;> simp -dsimp (disch := (first | omega | (simp only [LN]; omega))) only [go_sem, ↓reduceIte, seval]) | ((with_reducible refine hK _ ?_); clear hK K) | (with_reducible first | refine qA ?_ | refine qB ?_ | refine qC ?_ | refine qD ?_ | refine qE ?_ | refine qF ?_ | refine qL ?_ | refine qM ?_ | refine qN ?_ | refine qO ?_ | refine qQ ?_) | refine qR rfl ?_ | (with_reducible refine AI ?_) | ((with_reducible refine qW (T := TT) (b := ?_) ?_ ?_); rotate_left; exact rfl) | (with_reducible first | refine qX ?_ | refine qY ?_ | refine qZ ?_) | (with_reducible first | refine qI ?_ | refine qIx ?_ | fail) | ((with_reducible refine yS ?_ ?_) <;> (intro h; try simp only [NM] at h)))
  rotate_left
  · simp -dsimp (disch := (first | omega | (simp only [LN]; omega))) only [retQ, Tryz.results17, resVals, cellRV, resOf, St.rest, St.freeze, RT, go_sem, ↓reduceIte, seval]
    have : i.length ≠ s.tables.length := by omega
    simp [confE, this]
  have hl : i.length = s.tables.length := by omega
  have spec : confE s i = match scan (relE s) i 0 with
    | some e => e
    | none => 0 := by simp [confE, hl]
  rw [spec]
  refine AWP.loop (ι := {k : Nat // k ≤ i.length ∧ scan (relE s) (i.drop k) k = scan (relE s) i 0}) (fun k => ⟨75, [(2, .v (.one (.ptr 2 0))), (18, .v (.one (eInst i))), (19, .v (oI i.length)), (20, .v (oI k.1))], [(2, eSch s)], []⟩) (fun k => i.length - k.1) ⟨0, Nat.zero_le _, rfl⟩ ?_ fun ⟨k, hkl, hi⟩ => ?_
  · refine St.le_mk ?_ ?_ ?_ <;> simp only [LE, EN, Nat.reduceEqDiff, reduceIte, Nat.reduceSub, eSch]
  rcases Nat.lt_or_ge k i.length with hc | hc
  · have hcs : k < s.tables.length := by omega
    repeat' (first | ((first | with_reducible refine qV tyOk fun K hK => ?_ | (with_reducible first | refine qG ?_ | refine qH ?_ | refine qP ?_ | refine qGx ?_ | refine qHx ?_ | refine qPx ?_) | ((with_reducible first | refine qS ?_ ?_ | refine qT ?_ ?_ | refine qU ?_ ?_) <;> (intro h; try simp only [NM] at h)) | with_reducible refine yD tyOk mixed 6 (by kernel_rfl) fun K hK => ?_) <;> simp -dsimp (disch := (first | omega | (simp only [LN]; omega))) only [go_sem, ↓reduceIte, seval]) | ((with_reducible refine hK _ ?_); clear hK K) | (with_reducible first | refine qA ?_ | refine qB ?_ | refine qC ?_ | refine qD ?_ | refine qE ?_ | refine qF ?_ | refine qL ?_ | refine qM ?_ | refine qN ?_ | refine qO ?_ | refine qQ ?_) | refine qR rfl ?_ | (with_reducible refine AI ?_) | ((with_reducible refine qW (T := TT) (b := ?_) ?_ ?_); rotate_left; exact rfl) | (with_reducible first | refine qX ?_ | refine qY ?_ | refine qZ ?_) | (with_reducible first | refine qI ?_ | refine qIx ?_ | fail) | ((with_reducible refine yS ?_ ?_) <;> (intro h; try simp only [NM] at h)))
    rotate_left
    rotate_left
    · have hs : relE s k i[k] = some 3 := by
        simp (disch := omega) only [relE, getD_lt]
        rw [if_pos]
        simp_all [sEq]
      simp -dsimp (disch := (first | omega | (simp only [LN]; omega))) only [retQ, Tryz.results17, resVals, cellRV, resOf, St.rest, St.freeze, RT, go_sem, ↓reduceIte, seval]
      rw [scan_leaf (by omega) hs hi]
    · have hs : relE s k i[k] = some 2 := by
        simp (disch := omega) only [relE, getD_lt]
        rw [if_neg (by simp_all [sEq]), if_pos (by omega)]
      simp -dsimp (disch := (first | omega | (simp only [LN]; omega))) only [retQ, Tryz.results17, resVals, cellRV, resOf, St.rest, St.freeze, RT, go_sem, ↓reduceIte, seval]
      rw [scan_leaf (by omega) hs hi]
    have hrel : relE s k i[k] = scan (pairE s.tables[k] i[k].rows) i[k].rows 0 := by
      simp (disch := omega) only [relE, getD_lt]
      rw [if_neg (by simp_all [sEq]), if_neg (by omega)]
    obtain ⟨t1, t2⟩ := hB.table _ (List.getElem_mem hcs)
    obtain ⟨r1, r2⟩ := hB.rel _ (List.getElem_mem hc)
    refine AWP.loop (ι := {j : Nat // j ≤ i[k].rows.length ∧ scan (pairE s.tables[k] i[k].rows) (i[k].rows.drop j) j = scan (pairE s.tables[k] i[k].rows) i[k].rows 0}) (fun j => ⟨75, [(2, .v (.one (.ptr 2 0))), (18, .v (.one (eInst i))), (19, .v (oI i.length)), (20, .v (oI k)), (6, .v (.one (.ptr 6 0))), (7, .v (.one (.ptr 7 0))), (40, .v (.one (eRows i[k].rows))), (41, .v (oI i[k].rows.length)), (42, .v (oI j.1))], [(7, eTbl s.tables[k]), (6, eRel i[k]), (2, eSch s)], []⟩) (fun j => i[k].rows.length - j.1) ⟨0, Nat.zero_le _, rfl⟩ ?_ fun ⟨j, hjl, hj⟩ => ?_
    · refine St.le_mk ?_ ?_ ?_ <;> simp only [LE, EN, Nat.reduceEqDiff, reduceIte, Nat.reduceSub, eSch, eTbl, eRel]
    rcases Nat.lt_or_ge j i[k].rows.length with hcj | hcj
    · have x1 := r2 _ (List.getElem_mem hcj)
      rcases Nat.eq_zero_or_pos j with hj0 | hj0
      · repeat' (first | ((first | with_reducible refine qV tyOk fun K hK => ?_ | (with_reducible first | refine qG ?_ | refine qH ?_ | refine qP ?_ | refine qGx ?_ | refine qHx ?_ | refine qPx ?_) | ((with_reducible first | refine qS ?_ ?_ | refine qT ?_ ?_ | refine qU ?_ ?_) <;> (intro h; try simp only [NM] at h)) | with_reducible refine yD tyOk mixed 6 (by kernel_rfl) fun K hK => ?_ | ((with_reducible refine CallJ.is ?_); (first | refine CallJ.pure (conformsRow_sat s.tables[k] i[k].rows[j] (by omega) (by omega)) ?_ | ((apply CallJ.lentI); (focus (simp -dsimp (disch := (first | omega | (simp only [LN]; omega))) only [go_sem, ↓reduceIte, seval]; rfl)); (focus (first | exact (conformsRow_sat s.tables[k] i[k].rows[j] (by omega) (by omega))))))) | ((with_reducible refine CallH.is ?_); (first | refine CallH.intro (conformsRow_sat s.tables[k] i[k].rows[j] (by omega) (by omega)) ?_))) <;> simp -dsimp (disch := (first | omega | (simp only [LN]; omega))) only [go_sem, ↓reduceIte, seval]) | ((with_reducible refine hK _ ?_); clear hK K) | (with_reducible first | refine qA ?_ | refine qB ?_ | refine qC ?_ | refine qD ?_ | refine qE ?_ | refine qF ?_ | refine qL ?_ | refine qM ?_ | refine qN ?_ | refine qO ?_ | refine qQ ?_) | refine qR rfl ?_ | (with_reducible refine AI ?_) | ((with_reducible refine qW (T := TT) (b := ?_) ?_ ?_); rotate_left; exact rfl) | (with_reducible first | refine qX ?_ | refine qY ?_ | refine qZ ?_) | (with_reducible first | refine qI ?_ | refine qIx ?_ | fail) | ((with_reducible refine yS ?_ ?_) <;> (intro h; try simp only [NM] at h)))
        all_goals first
          | (have hs : pairE s.tables[k] i[k].rows j i[k].rows[j] = none := by
               (simp (disch := omega) only [pairE, getD_lt]; (repeat' split) <;> first | rfl | with_reducible assumption | omega | (exfalso; omega) | (simp_all; done) | (simp_all; omega))
             refine ⟨⟨j + 1, by omega, by rw [scan_step hcj hs, hj]⟩, by simp only; omega, ?_⟩
             refine St.le_mk ?_ ?_ ?_ <;> simp only [LE, EN, Nat.reduceEqDiff, reduceIte, Nat.reduceSub, eSch, eTbl, eRel]
             done)
          | (
             simp -dsimp (disch := (first | omega | (simp only [LN]; omega))) only [retQ, Tryz.results17, resVals, cellRV, resOf, St.rest, St.freeze, RT, go_sem, ↓reduceIte, seval]
             rw [scan_leaf hc (hrel.trans (scan_leaf hcj ?_ hj)) hi]
             all_goals first
               | with_reducible rfl
               | (
                  (simp (disch := omega) only [pairE, getD_lt]; (repeat' split) <;> first | rfl | with_reducible assumption | omega | (exfalso; omega) | (simp_all; done) | (simp_all; omega))
                  done)
               | rfl
             done)
      · have hjp : j - 1 < i[k].rows.length := by omega
        repeat' (first | ((first | with_reducible refine qV tyOk fun K hK => ?_ | (with_reducible first | refine qG ?_ | refine qH ?_ | refine qP ?_ | refine qGx ?_ | refine qHx ?_ | refine qPx ?_) | ((with_reducible first | refine qS ?_ ?_ | refine qT ?_ ?_ | refine qU ?_ ?_) <;> (intro h; try simp only [NM] at h)) | with_reducible refine yD tyOk mixed 6 (by kernel_rfl) fun K hK => ?_ | ((with_reducible refine CallJ.is ?_); (first | refine CallJ.pure (conformsRow_sat s.tables[k] i[k].rows[j] (by omega) (by omega)) ?_ | refine CallJ.pure (key_sat s.tables[k] _ t2) ?_ | refine CallJ.pure (compareRows_sat _ _ (by rw [keyOf_length]; omega) (by rw [keyOf_length]; omega)) ?_ | ((apply CallJ.lentI); (focus (simp -dsimp (disch := (first | omega | (simp only [LN]; omega))) only [go_sem, ↓reduceIte, seval]; rfl)); (focus (first | exact (conformsRow_sat s.tables[k] i[k].rows[j] (by omega) (by omega)) | exact (key_sat s.tables[k] _ t2) | exact (compareRows_sat _ _ (by rw [keyOf_length]; omega) (by rw [keyOf_length]; omega))))))) | ((with_reducible refine CallH.is ?_); (first | refine CallH.intro (conformsRow_sat s.tables[k] i[k].rows[j] (by omega) (by omega)) ?_ | refine CallH.intro (key_sat s.tables[k] _ t2) ?_ | refine CallH.intro (compareRows_sat _ _ (by rw [keyOf_length]; omega) (by rw [keyOf_length]; omega)) ?_))) <;> simp -dsimp (disch := (first | omega | (simp only [LN]; omega))) only [go_sem, ↓reduceIte, seval]) | ((with_reducible refine hK _ ?_); clear hK K) | (with_reducible first | refine qA ?_ | refine qB ?_ | refine qC ?_ | refine qD ?_ | refine qE ?_ | refine qF ?_ | refine qL ?_ | refine qM ?_ | refine qN ?_ | refine qO ?_ | refine qQ ?_) | refine qR rfl ?_ | (with_reducible refine AI ?_) | ((with_reducible refine qW (T := TT) (b := ?_) ?_ ?_); rotate_left; exact rfl) | (with_reducible first | refine qX ?_ | refine qY ?_ | refine qZ ?_) | (with_reducible first | refine qI ?_ | refine qIx ?_ | fail) | ((with_reducible refine yS ?_ ?_) <;> (intro h; try simp only [NM] at h)))
        all_goals first
          | (have hs : pairE s.tables[k] i[k].rows j i[k].rows[j] = none := by
               (simp (disch := omega) only [pairE, getD_lt]; (repeat' split) <;> first | rfl | with_reducible assumption | omega | (exfalso; omega) | (simp_all; done) | (simp_all; omega))
             refine ⟨⟨j + 1, by omega, by rw [scan_step hcj hs, hj]⟩, by simp only; omega, ?_⟩
             refine St.le_mk ?_ ?_ ?_ <;> simp only [LE, EN, Nat.reduceEqDiff, reduceIte, Nat.reduceSub, eSch, eTbl, eRel]
             done)
          | (
             simp -dsimp (disch := (first | omega | (simp only [LN]; omega))) only [retQ, Tryz.results17, resVals, cellRV, resOf, St.rest, St.freeze, RT, go_sem, ↓reduceIte, seval]
             rw [scan_leaf hc (hrel.trans (scan_leaf hcj ?_ hj)) hi]
             all_goals first
               | with_reducible rfl
               | (
                  (simp (disch := omega) only [pairE, getD_lt]; (repeat' split) <;> first | rfl | with_reducible assumption | omega | (exfalso; omega) | (simp_all; done) | (simp_all; omega))
                  done)
               | rfl
             done)
    · rw [scan_end (by omega)] at hj
      repeat' (first | ((first | with_reducible refine qV tyOk fun K hK => ?_ | (with_reducible first | refine qG ?_ | refine qH ?_ | refine qP ?_ | refine qGx ?_ | refine qHx ?_ | refine qPx ?_) | ((with_reducible first | refine qS ?_ ?_ | refine qT ?_ ?_ | refine qU ?_ ?_) <;> (intro h; try simp only [NM] at h)) | with_reducible refine yD tyOk mixed 6 (by kernel_rfl) fun K hK => ?_) <;> simp -dsimp (disch := (first | omega | (simp only [LN]; omega))) only [go_sem, ↓reduceIte, seval]) | ((with_reducible refine hK _ ?_); clear hK K) | (with_reducible first | refine qA ?_ | refine qB ?_ | refine qC ?_ | refine qD ?_ | refine qE ?_ | refine qF ?_ | refine qL ?_ | refine qM ?_ | refine qN ?_ | refine qO ?_ | refine qQ ?_) | refine qR rfl ?_ | (with_reducible refine AI ?_) | ((with_reducible refine qW (T := TT) (b := ?_) ?_ ?_); rotate_left; exact rfl) | (with_reducible first | refine qX ?_ | refine qY ?_ | refine qZ ?_) | (with_reducible first | refine qI ?_ | refine qIx ?_ | fail) | ((with_reducible refine yS ?_ ?_) <;> (intro h; try simp only [NM] at h)))
      have hs : relE s k i[k] = none := by rw [hrel, ← hj]
      refine ⟨⟨k + 1, by omega, by rw [scan_step hc hs, hi]⟩, by simp only; omega, ?_⟩
      refine St.le_mk ?_ ?_ ?_ <;> simp only [LE, EN, Nat.reduceEqDiff, reduceIte, Nat.reduceSub, eSch]
  · rw [scan_end (by omega)] at hi
    repeat' (first | ((first | with_reducible refine qV tyOk fun K hK => ?_ | (with_reducible first | refine qG ?_ | refine qH ?_ | refine qP ?_ | refine qGx ?_ | refine qHx ?_ | refine qPx ?_) | ((with_reducible first | refine qS ?_ ?_ | refine qT ?_ ?_ | refine qU ?_ ?_) <;> (intro h; try simp only [NM] at h)) | with_reducible refine yD tyOk mixed 6 (by kernel_rfl) fun K hK => ?_) <;> simp -dsimp (disch := (first | omega | (simp only [LN]; omega))) only [go_sem, ↓reduceIte, seval]) | ((with_reducible refine hK _ ?_); clear hK K) | (with_reducible first | refine qA ?_ | refine qB ?_ | refine qC ?_ | refine qD ?_ | refine qE ?_ | refine qF ?_ | refine qL ?_ | refine qM ?_ | refine qN ?_ | refine qO ?_ | refine qQ ?_) | refine qR rfl ?_ | (with_reducible refine AI ?_) | ((with_reducible refine qW (T := TT) (b := ?_) ?_ ?_); rotate_left; exact rfl) | (with_reducible first | refine qX ?_ | refine qY ?_ | refine qZ ?_) | (with_reducible first | refine qI ?_ | refine qIx ?_ | fail) | ((with_reducible refine yS ?_ ?_) <;> (intro h; try simp only [NM] at h)))
    simp -dsimp (disch := (first | omega | (simp only [LN]; omega))) only [retQ, Tryz.results17, resVals, cellRV, resOf, St.rest, St.freeze, RT, go_sem, ↓reduceIte, seval]
    rw [← hi]

theorem scan_ne {α : Type} {f : Nat → α → Option Int} (h : ∀ k x e, f k x = some e → e ≠ 0) : ∀ {l : List α} {k : Nat} {e : Int}, scan f l k = some e → e ≠ 0
  | [], k, e, he => by cases he
  | x :: l, k, e, he => by
    unfold scan at he
    split at he
    · rename_i e' he'
      injection he with he
      subst he
      exact h _ _ _ he'
    · exact scan_ne h he
theorem scan_all {α : Type} {f : Nat → α → Option Int} : ∀ {l : List α} {k : Nat}, (∀ j, ∀ h : j < l.length, f (k + j) l[j] = none) → scan f l k = none
  | [], _, _ => rfl
  | x :: l, k, h => by
    have h0 := h 0 (by simp)
    simp only [Nat.add_zero, List.getElem_cons_zero] at h0
    rw [scan, h0]
    exact scan_all fun j hj => by
      have := h (j + 1) (by simpa using hj)
      rw [show k + 1 + j = k + (j + 1) by omega]
      simpa using this
theorem scan_eq_none {α : Type} {f : Nat → α → Option Int} {l : List α} : scan f l 0 = none ↔ ∀ j, ∀ h : j < l.length, f j l[j] = none :=
  ⟨fun h j hj => by have := scan_none h j hj; rwa [Nat.zero_add] at this, fun h => scan_all fun j hj => by rw [Nat.zero_add]; exact h j hj⟩
def orE (x : Option Int) (y : Int) : Int := match x with | some e => e | none => y
theorem scan_zero {α : Type} {f : Nat → α → Option Int} {l : List α} {k : Nat} {y : Int} (h : ∀ k x e, f k x = some e → e ≠ 0) : orE (scan f l k) y = 0 ↔ scan f l k = none ∧ y = 0 := by
  cases hs : scan f l k with
  | none => simp [orE]
  | some e => simp [orE, scan_ne h hs]

theorem tblsE_ne (ts : List Tbl) : ∀ k x e, tblsE ts k x = some e → e ≠ 0 := by
  intro k x e h
  unfold tblsE at h
  split at h
  · rename_i hne; injection h with h; rw [← h]; exact hne
  · split at h
    · injection h with h; omega
    · cases h
theorem fksE_ne (s : Sch) : ∀ k x e, fksE s k x = some e → e ≠ 0 := by
  intro k x e h
  unfold fksE at h
  split at h
  · rename_i hne; injection h with h; rw [← h]; exact hne
  · split at h
    · injection h with h; omega
    · cases h
theorem consE_ne (s : Sch) : ∀ k x e, consE s k x = some e → e ≠ 0 := by
  intro k x e h
  unfold consE at h
  split at h
  · rename_i hne; injection h with h; rw [← h]; exact hne
  · split at h
    · injection h with h; omega
    · cases h
theorem schE_zero (s : Sch) : schE s = 0 ↔ (s.tables.length ≤ 6 ∧ s.fks.length ≤ 8 ∧ s.cons.length ≤ 8) ∧ (∀ j, ∀ h : j < s.tables.length, tblsE s.tables j s.tables[j] = none) ∧
    (∀ j, ∀ h : j < s.fks.length, fksE s j s.fks[j] = none) ∧ ∀ j, ∀ h : j < s.cons.length, consE s j s.cons[j] = none := by
  unfold schE
  split
  · simp only [false_iff, not_and, reduceCtorEq, show (2 : Int) ≠ 0 by decide]
    omega
  · change orE (scan (tblsE s.tables) s.tables 0) (orE (scan (fksE s) s.fks 0) (orE (scan (consE s) s.cons 0) 0)) = 0 ↔ _
    rw [scan_zero (tblsE_ne _), scan_zero (fksE_ne s), scan_zero (consE_ne s), scan_eq_none, scan_eq_none, scan_eq_none]
    constructor
    · rintro ⟨h1, h2, h3, _⟩; exact ⟨by omega, h1, h2, h3⟩
    · rintro ⟨_, h1, h2, h3⟩; exact ⟨h1, h2, h3, rfl⟩

theorem OkTbl.pk_ge {t : Tbl} (h : OkTbl t) : ∀ k, ∀ hk : k < t.pk.length, (k : Int) ≤ t.pk[k]
  | 0, hk => (h.key 0 hk).1
  | k + 1, hk => by
    have h1 := pk_ge h k (by omega)
    have h2 := (h.key (k + 1) hk).2.2.2 (by omega)
    simp only [Nat.add_sub_cancel] at h2
    omega
theorem OkTbl.pk6 {t : Tbl} (h : OkTbl t) : t.pk.length ≤ t.cols.length := by
  rcases Nat.eq_zero_or_pos t.pk.length with h0 | h0
  · omega
  · have h1 := h.pk_ge (t.pk.length - 1) (by omega)
    have h2 := (h.key (t.pk.length - 1) (by omega)).2.1
    omega

theorem fkE_zero {s : Sch} {f : FK} (h : fkE s f = 0) : ∃ i q, ∃ hi : i < s.tables.length, ∃ hq : q < s.tables.length, tblAt s.tables f.table = (i : Int) ∧ tblAt s.tables f.ref = (q : Int) ∧ f.cols.length = s.tables[q].pk.length ∧
    ∀ j, ∀ hj : j < f.cols.length, 0 ≤ f.cols[j] ∧ f.cols[j] < s.tables[i].cols.length := by
  unfold fkE at h
  split at h
  · cases h
  rename_i h0
  rcases idx_cases (fun t => sEq t.name f.table) s.tables 0 with ⟨e1, _⟩ | ⟨i, hi, e1, _⟩
  · have e1 : tblAt s.tables f.table = -1 := e1
    omega
  rcases idx_cases (fun t => sEq t.name f.ref) s.tables 0 with ⟨e2, _⟩ | ⟨q, hq, e2, _⟩
  · have e2 : tblAt s.tables f.ref = -1 := e2
    omega
  have e1 : tblAt s.tables f.table = (i : Int) := by unfold tblAt; simpa using e1
  have e2 : tblAt s.tables f.ref = (q : Int) := by unfold tblAt; simpa using e2
  simp only [e1, e2, Int.toNat_natCast, getD_lt _ hi, getD_lt _ hq, fkTE] at h
  split at h
  · cases h
  rename_i h1
  change orE (scan (fkColE s.tables[i] s.tables[q]) f.cols 0) 0 = 0 at h
  rw [scan_zero (fun k x e he => by
    unfold fkColE at he
    split at he
    · injection he with he; omega
    · split at he
      · injection he with he; omega
      · cases he), scan_eq_none] at h
  refine ⟨i, q, hi, hq, e1, e2, by omega, fun j hj => ?_⟩
  have := h.1 j hj
  unfold fkColE at this
  split at this
  · cases this
  · omega

structure Small (s : Sch) : Prop where
  tables : s.tables.length ≤ 6
  table : ∀ t ∈ s.tables, t.cols.length ≤ 6 ∧ t.pk.length ≤ 6
  fks : s.fks.length ≤ 8
  fk : ∀ f ∈ s.fks, f.cols.length ≤ 6
  cons : s.cons.length ≤ 8
theorem small_of {s : Sch} (h : schE s = 0) : Small s := by
  have ok := okSch_of h
  obtain ⟨h1, h2, h3, h4⟩ := (schE_zero s).1 h
  refine ⟨h1.1, fun t ht => ?_, h1.2.1, fun f hf => ?_, h1.2.2⟩
  · have o := ok.tbl t ht
    have := o.pk6
    have := o.cols6
    omega
  · obtain ⟨j, hj, rfl⟩ := List.mem_iff_getElem.1 hf
    have h5 := h3 j hj
    unfold fksE at h5
    split at h5
    · cases h5
    rename_i h6
    obtain ⟨i, q, hi, hq, _, _, h7, _⟩ := fkE_zero (s := s) (f := s.fks[j]) (by simpa using h6)
    have o := ok.tbl _ (List.getElem_mem hq)
    have := o.pk6
    have := o.cols6
    omega

theorem cellE_ne (t : Tbl) : ∀ k x e, cellE t k x = some e → e ≠ 0 := by
  intro k x e h
  unfold cellE at h
  split at h
  · rename_i hne; injection h with h; rw [← h]; exact hne
  · split at h
    · injection h with h; omega
    · split at h
      · injection h with h; omega
      · cases h
theorem rowE_zero (t : Tbl) (r : Row) : rowE t r = 0 ↔ r.length = t.cols.length ∧ ∀ j, ∀ h : j < r.length, cellE t j r[j] = none := by
  unfold rowE
  split
  · rename_i h
    simp [show (3 : Int) ≠ 0 by decide, h]
  · rename_i h
    change orE (scan (cellE t) r 0) 0 = 0 ↔ _
    rw [scan_zero (cellE_ne t), scan_eq_none]
    simp only [and_true]
    exact ⟨fun h1 => ⟨by omega, h1⟩, fun h1 => h1.2⟩
theorem pairE_ne (t : Tbl) (rows : List Row) : ∀ k x e, pairE t rows k x = some e → e ≠ 0 := by
  intro k x e h
  unfold pairE at h
  split at h
  · rename_i hne; injection h with h; rw [← h]; exact hne
  · split at h
    · cases h
    · split at h
      · injection h with h; omega
      · split at h
        · injection h with h; omega
        · cases h
theorem relE_ne (s : Sch) : ∀ k x e, relE s k x = some e → e ≠ 0 := by
  intro k x e h
  unfold relE at h
  split at h
  · injection h with h; omega
  · split at h
    · injection h with h; omega
    · exact scan_ne (pairE_ne _ _) h

structure OkRel (t : Tbl) (rows : List Row) : Prop where
  n24 : rows.length ≤ 24
  row : ∀ j, ∀ h : j < rows.length, rowE t rows[j] = 0
  ord : ∀ j, ∀ h : j + 1 < rows.length, cmpRows (keyOf t.pk rows[j]) (keyOf t.pk rows[j + 1]) < 0
theorem pairs_none (t : Tbl) (rows : List Row) : scan (pairE t rows) rows 0 = none ↔ (∀ j, ∀ h : j < rows.length, rowE t rows[j] = 0) ∧ ∀ j, ∀ h : j + 1 < rows.length, cmpRows (keyOf t.pk rows[j]) (keyOf t.pk rows[j + 1]) < 0 := by
  rw [scan_eq_none]
  constructor
  · intro h
    refine ⟨fun j hj => ?_, fun j hj => ?_⟩
    · have := h j hj
      unfold pairE at this
      split at this
      · cases this
      · rename_i h1; simpa using h1
    · have := h (j + 1) hj
      unfold pairE at this
      split at this
      · cases this
      split at this
      · omega
      rw [show ((j + 1 : Nat) : Int) - 1 = (j : Int) by omega, Int.toNat_natCast, getD_lt _ (by omega : j < rows.length)] at this
      split at this
      · cases this
      split at this
      · cases this
      · omega
  · rintro ⟨h1, h2⟩ j hj
    unfold pairE
    rw [if_neg (by simpa using h1 j hj)]
    cases j with
    | zero => rfl
    | succ j =>
      have := h2 j hj
      rw [if_neg (by omega), show ((j + 1 : Nat) : Int) - 1 = (j : Int) by omega, Int.toNat_natCast, getD_lt _ (by omega : j < rows.length), if_neg (by omega), if_neg (by omega)]
theorem confE_zero (s : Sch) (i : Inst) : confE s i = 0 ↔ i.length = s.tables.length ∧ ∀ k, ∀ h : k < i.length, sEq i[k].table (s.tables.getD k zTbl).name = true ∧ OkRel (s.tables.getD k zTbl) i[k].rows := by
  unfold confE
  split
  · rename_i h
    simp [show (3 : Int) ≠ 0 by decide, h]
  · rename_i h
    change orE (scan (relE s) i 0) 0 = 0 ↔ _
    rw [scan_zero (relE_ne s), scan_eq_none]
    simp only [and_true]
    constructor
    · intro h1
      refine ⟨by omega, fun k hk => ?_⟩
      have := h1 k hk
      unfold relE at this
      split at this
      · cases this
      split at this
      · cases this
      rename_i h2 h3
      obtain ⟨h4, h5⟩ := (pairs_none _ _).1 this
      exact ⟨by simpa using h2, by omega, h4, h5⟩
    · rintro ⟨_, h1⟩ k hk
      obtain ⟨h2, h3, h4, h5⟩ := h1 k hk
      unfold relE
      rw [if_neg (by rw [h2]; decide), if_neg (by omega)]
      exact (pairs_none _ _).2 ⟨h4, h5⟩

theorem bounds_of {s : Sch} {i : Inst} (hB : Bounds0 s i) (h : confE s i = 0) : Bounds s i := by
  obtain ⟨h1, h2⟩ := (confE_zero s i).1 h
  refine ⟨hB.tables, hB.table, hB.fk, fun r hr => ?_⟩
  obtain ⟨k, hk, rfl⟩ := List.mem_iff_getElem.1 hr
  obtain ⟨_, h3, h4, _⟩ := h2 k hk
  refine ⟨by omega, fun x hx => ?_⟩
  obtain ⟨j, hj, rfl⟩ := List.mem_iff_getElem.1 hx
  have h5 := ((rowE_zero _ _).1 (h4 j hj)).1
  rw [getD_lt _ (by omega : k < s.tables.length)] at h5
  have := (hB.table _ (List.getElem_mem (by omega : k < s.tables.length))).1
  omega
theorem Small.bounds0 {s : Sch} {i : Inst} (h : Small s) (hi : ∀ r ∈ i, r.rows.length ≤ 140737488355328 ∧ ∀ x ∈ r.rows, x.length ≤ 140737488355328) : Bounds0 s i :=
  ⟨by have := h.tables; omega, fun t ht => by have := h.table t ht; omega, fun f hf => by have := h.fk f hf; omega, by have := h.fks; omega, by have := h.cons; omega, hi⟩

set_option maxHeartbeats 8000000 in
theorem deleteRows_own (xs : List (List L)) (k : Nat) (hk : k < xs.length) (h1 : xs.length ≤ 1099511627776) (hno : noOwn xs) : SatM Tryz.prog 50 [.one (.ref 1000 0 xs.length), oI k, oI ((k : Int) + 1)] [] [(1000, ⟨1, xs, []⟩)] (.v (.one (.ref 6 0 (xs.length - 1)))) [] [(6, ⟨1, xs.take k ++ xs.drop (k + 1) ++ [[.sl 3 []]], []⟩)] := by
  have w1 : ((k : Int) + 1).toNat = k + 1 := by omega
  refine satM_of_body tyOk [] [6] Tryz.func50 rfl (by kernel_rfl) ⟨Nat.le_of_ble_eq_true rfl, Nat.le_of_ble_eq_true rfl⟩ fun w0 m0 F0 => ?_
  simp only [Tryz.ntmps50, envOf, Nat.reduceAdd]
  repeat' (first | ((first | with_reducible refine qV tyOk fun K hK => ?_ | (with_reducible first | refine qG ?_ | refine qH ?_ | refine qP ?_ | refine qGx ?_ | refine qHx ?_ | refine qPx ?_) | ((with_reducible first | refine qS ?_ ?_ | refine qT ?_ ?_ | refine qU ?_ ?_) <;> (intro h; try simp only [NM] at h))) <;> simp -dsimp (disch := (first | omega | (simp only [LN]; omega))) only [go_sem, ↓reduceIte, seval, w1]) | ((with_reducible refine hK _ ?_); clear hK K) | (with_reducible first | refine qA ?_ | refine qB ?_ | refine qC ?_ | refine qD ?_ | refine qE ?_ | refine qF ?_ | refine qL ?_ | refine qM ?_ | refine qN ?_ | refine qO ?_ | refine qQ ?_) | refine qR rfl ?_ | (with_reducible refine AI ?_) | ((with_reducible refine qW (T := TT) (b := ?_) ?_ ?_); rotate_left; exact rfl) | (with_reducible first | refine qX ?_ | refine qY ?_ | refine qZ ?_) | (with_reducible first | refine qI ?_ | refine qIx ?_ | fail) | ((with_reducible refine yS ?_ ?_) <;> (intro h; try simp only [NM] at h)))
  refine AWP.drawT tyOk mixed 6 8 (by kernel_rfl) rfl rfl fun K hK => ?_
  simp -dsimp (disch := (first | omega | (simp only [LN]; omega))) only [go_sem, ↓reduceIte, seval, w1]
  repeat' (first | ((first | with_reducible refine qV tyOk fun K hK => ?_ | (with_reducible first | refine qG ?_ | refine qH ?_ | refine qP ?_ | refine qGx ?_ | refine qHx ?_ | refine qPx ?_) | ((with_reducible first | refine qS ?_ ?_ | refine qT ?_ ?_ | refine qU ?_ ?_) <;> (intro h; try simp only [NM] at h))) <;> simp -dsimp (disch := (first | omega | (simp only [LN]; omega))) only [go_sem, ↓reduceIte, seval, w1]) | ((with_reducible refine hK _ ?_); clear hK K) | (with_reducible first | refine qA ?_ | refine qB ?_ | refine qC ?_ | refine qD ?_ | refine qE ?_ | refine qF ?_ | refine qL ?_ | refine qM ?_ | refine qN ?_ | refine qO ?_ | refine qQ ?_) | refine qR rfl ?_ | (with_reducible refine AI ?_) | ((with_reducible refine qW (T := TT) (b := ?_) ?_ ?_); rotate_left; exact rfl) | (with_reducible first | refine qX ?_ | refine qY ?_ | refine qZ ?_) | (with_reducible first | refine qI ?_ | refine qIx ?_ | fail) | ((with_reducible refine yS ?_ ?_) <;> (intro h; try simp only [NM] at h)))
  intro K hK
  simp -dsimp (disch := (first | omega | (simp only [LN]; omega))) only [go_sem, ↓reduceIte, seval, w1]
  repeat' (first | ((first | with_reducible refine qV tyOk fun K hK => ?_ | (with_reducible first | refine qG ?_ | refine qH ?_ | refine qP ?_ | refine qGx ?_ | refine qHx ?_ | refine qPx ?_) | ((with_reducible first | refine qS ?_ ?_ | refine qT ?_ ?_ | refine qU ?_ ?_) <;> (intro h; try simp only [NM] at h))) <;> simp -dsimp (disch := (first | omega | (simp only [LN]; omega))) only [go_sem, ↓reduceIte, seval, w1]) | ((with_reducible refine hK _ ?_); clear hK K) | (with_reducible first | refine qA ?_ | refine qB ?_ | refine qC ?_ | refine qD ?_ | refine qE ?_ | refine qF ?_ | refine qL ?_ | refine qM ?_ | refine qN ?_ | refine qO ?_ | refine qQ ?_) | refine qR rfl ?_ | (with_reducible refine AI ?_) | ((with_reducible refine qW (T := TT) (b := ?_) ?_ ?_); rotate_left; exact rfl) | (with_reducible first | refine qX ?_ | refine qY ?_ | refine qZ ?_) | (with_reducible first | refine qI ?_ | refine qIx ?_ | fail) | ((with_reducible refine yS ?_ ?_) <;> (intro h; try simp only [NM] at h)))
  have e1 : k - 0 + (xs.length - (k + 1)) = xs.length - 1 := by omega
  have e2 : xs.length - (xs.length - 1) = 1 := by omega
  have e3 : (xs.take (k - 0) ++ xs.drop (k + 1) ++ xs.drop (xs.length - 1)).take (xs.length - 1) = xs.take k ++ xs.drop (k + 1) := List.take_left' (by simp; omega)
  have e4 : (xs.take (k - 0) ++ xs.drop (k + 1) ++ xs.drop (xs.length - 1)).drop (xs.length - 1 + 1) = [] := List.drop_of_length_le (by simp; omega)
  simp only [e1, e2, e3, e4, List.replicate_succ, List.replicate_zero, List.append_nil]
  simp -dsimp (disch := (first | omega | (simp only [LN]; omega))) only [retQ, Tryz.results50, resVals, cellRV, resOf, St.rest, St.freeze, RT, go_sem, ↓reduceIte, seval]

theorem CallJ.apart {P : Program} {T : TypeId → Option TI} {ops : Array Oper} {l : List Oper} {K : St → Prop} {f : FuncId} {fn : Func} {s : St} {d : Option Tmp} {id lo n id' lo' n' : Nat} (t e : TypeId) (tR : TypeId) (sz : Nat) (r r' : RowC) (hf : P.funcs[f]? = some fn) (hname : (fn.name == "runtime.NumGoroutine") = false)
    (hb : fn.body.isNone = true) (hn : Extern.findNext fn = none) (he : Extern.find fn = some (Extern.SlicesOverlaps.overlaps #[t, t] #[tR])) (ht : P.underlying t = some (.slice e)) (hz : ∀ w, (sizeOf e).run P w = .ok sz w)
    (hne : id ≠ id') (hr : look s.row id = some r) (hr' : look s.row id' = some r') (hcl : ovOut r'.ov r'.xs.length) (hfit : lo' + n' ≤ r'.xs.length) (h0 : 0 < n') (hs0 : 0 < r'.sz)
    (hk : s.okD d ∧ VOps P T ops l (St.putO { s with row := sput id' ⟨r'.sz, r'.xs.take (lo' + n'), []⟩ s.row } d (.v (.one (.bool false)))) K) : CallJ P T ops d l s K (f, [.one (.ref id lo n), .one (.ref id' lo' n')]) :=
  ⟨_, CallMoves.apart hf hname hb hn he ht hz hk.1 hne hr hr' hcl hfit h0 hs0, hk.2⟩

set_option maxHeartbeats 16000000 in
theorem insertRow_own (xs : List (List L)) (q : List (List L)) (k : Nat) (hk : k ≤ xs.length) (h1 : xs.length ≤ 1099511627776) (hno : noOwn xs) :
    SatM Tryz.prog 49 [.one (.ref 1000 0 xs.length), oI k, .one (.ref 1001 0 1)] [] [(1000, ⟨1, xs, []⟩), (1001, ⟨1, [[.sl 3 q]], []⟩)] (.v (.one (.ref 6 0 (xs.length + 1)))) [] [(6, ⟨1, xs.take k ++ [[.sl 3 q]] ++ xs.drop k, []⟩)] := by
  have c1 : ((1 : Nat) : Int) = 1 := rfl
  have r3 : (xs.take k).length = k := by simp; omega
  have hnk : noOwn (xs.take k) := fun x hx => hno x (List.mem_of_mem_take hx)
  refine satM_of_body tyOk [] [6] Tryz.func49 rfl (by kernel_rfl) ⟨Nat.le_of_ble_eq_true rfl, Nat.le_of_ble_eq_true rfl⟩ fun w0 m0 F0 => ?_
  simp only [Tryz.ntmps49, envOf, Nat.reduceAdd]
  repeat' (first | ((first | with_reducible refine qV tyOk fun K hK => ?_ | (with_reducible first | refine qG ?_ | refine qH ?_ | refine qP ?_ | refine qGx ?_ | refine qHx ?_ | refine qPx ?_) | ((with_reducible first | refine qS ?_ ?_ | refine qT ?_ ?_ | refine qU ?_ ?_) <;> (intro h; try simp only [NM] at h))) <;> simp -dsimp (disch := (first | omega | (simp only [LN]; omega))) only [go_sem, ↓reduceIte, seval, c1]) | ((with_reducible refine hK _ ?_); clear hK K) | (with_reducible first | refine qA ?_ | refine qB ?_ | refine qC ?_ | refine qD ?_ | refine qE ?_ | refine qF ?_ | refine qL ?_ | refine qM ?_ | refine qN ?_ | refine qO ?_ | refine qQ ?_) | refine qR rfl ?_ | (with_reducible refine AI ?_) | ((with_reducible refine qW (T := TT) (b := ?_) ?_ ?_); rotate_left; exact rfl) | (with_reducible first | refine qX ?_ | refine qY ?_ | refine qZ ?_) | (with_reducible first | refine qI ?_ | refine qIx ?_ | fail) | ((with_reducible refine yS ?_ ?_) <;> (intro h; try simp only [NM] at h)))
  · have hkk : k = xs.length := by omega
    subst hkk
    simp -dsimp (disch := (first | omega | (simp only [LN]; omega))) only [retQ, Tryz.results49, resVals, cellRV, resOf, St.rest, St.freeze, RT, go_sem, ↓reduceIte, seval]
    simp
  intro p hp
  refine hK _ ?_
  clear hK K
  have hkl : k < xs.length := by omega
  have w1 : ((k : Int) + 1).toNat = k + 1 := by omega
  rcases Nat.eq_zero_or_pos p with h0 | h0
  · subst h0
    simp only [List.replicate_zero, List.append_nil, Nat.add_zero]
    repeat' (first | ((first | with_reducible refine qV tyOk fun K hK => ?_ | (with_reducible first | refine qG ?_ | refine qH ?_ | refine qP ?_ | refine qGx ?_ | refine qHx ?_ | refine qPx ?_) | ((with_reducible first | refine qS ?_ ?_ | refine qT ?_ ?_ | refine qU ?_ ?_) <;> (intro h; try simp only [NM] at h))) <;> simp -dsimp (disch := (first | omega | (simp only [LN]; omega))) only [go_sem, ↓reduceIte, seval, c1]) | ((with_reducible refine hK _ ?_); clear hK K) | (with_reducible first | refine qA ?_ | refine qB ?_ | refine qC ?_ | refine qD ?_ | refine qE ?_ | refine qF ?_ | refine qL ?_ | refine qM ?_ | refine qN ?_ | refine qO ?_ | refine qQ ?_) | refine qR rfl ?_ | (with_reducible refine AI ?_) | ((with_reducible refine qW (T := TT) (b := ?_) ?_ ?_); rotate_left; exact rfl) | (with_reducible first | refine qX ?_ | refine qY ?_ | refine qZ ?_) | (with_reducible first | refine qI ?_ | refine qIx ?_ | fail) | ((with_reducible refine yS ?_ ?_) <;> (intro h; try simp only [NM] at h)))
    have r2 : ((xs.length : Int) + 1 - (k : Int)).toNat = xs.length + 1 - k := by omega
    have r4 : k + (xs.length + 1 - k) = xs.length + 1 := by omega
    have r5 : min 1 (xs.length + 1 - k) = 1 := by omega
    have rA : (xs.take k ++ List.replicate (xs.length + 1 - k) [L.sl 3 []]).take k = xs.take k := List.take_left' r3
    have rB : (xs.take k ++ List.replicate (xs.length + 1 - k) [L.sl 3 []]).drop (k + 1) = List.replicate (xs.length - k) [L.sl 3 []] := by
      rw [List.drop_append, r3, List.drop_of_length_le (by omega), List.nil_append, List.drop_replicate]
      congr 1
      omega
    simp only [List.replicate_zero, List.append_nil, Nat.sub_zero, r2, r3, List.length_replicate, r4, r5, rA, rB]
    refine AWP.drawT tyOk mixed 8 8 (by kernel_rfl) rfl rfl fun K hK => ?_
    simp -dsimp (disch := (first | omega | (simp only [LN]; omega))) only [go_sem, ↓reduceIte, seval, c1, w1]
    repeat' (first | ((first | with_reducible refine qV tyOk fun K hK => ?_ | (with_reducible first | refine qG ?_ | refine qH ?_ | refine qP ?_ | refine qGx ?_ | refine qHx ?_ | refine qPx ?_) | ((with_reducible first | refine qS ?_ ?_ | refine qT ?_ ?_ | refine qU ?_ ?_) <;> (intro h; try simp only [NM] at h))) <;> simp -dsimp (disch := (first | omega | (simp only [LN]; omega))) only [go_sem, ↓reduceIte, seval, c1, w1]) | ((with_reducible refine hK _ ?_); clear hK K) | (with_reducible first | refine qA ?_ | refine qB ?_ | refine qC ?_ | refine qD ?_ | refine qE ?_ | refine qF ?_ | refine qL ?_ | refine qM ?_ | refine qN ?_ | refine qO ?_ | refine qQ ?_) | refine qR rfl ?_ | (with_reducible refine AI ?_) | ((with_reducible refine qW (T := TT) (b := ?_) ?_ ?_); rotate_left; exact rfl) | (with_reducible first | refine qX ?_ | refine qY ?_ | refine qZ ?_) | (with_reducible first | refine qI ?_ | refine qIx ?_ | fail) | ((with_reducible refine yS ?_ ?_) <;> (intro h; try simp only [NM] at h)))
    intro K hK
    simp -dsimp (disch := (first | omega | (simp only [LN]; omega))) only [go_sem, ↓reduceIte, seval, c1, w1]
    repeat' (first | ((first | with_reducible refine qV tyOk fun K hK => ?_ | (with_reducible first | refine qG ?_ | refine qH ?_ | refine qP ?_ | refine qGx ?_ | refine qHx ?_ | refine qPx ?_) | ((with_reducible first | refine qS ?_ ?_ | refine qT ?_ ?_ | refine qU ?_ ?_) <;> (intro h; try simp only [NM] at h))) <;> simp -dsimp (disch := (first | omega | (simp only [LN]; omega))) only [go_sem, ↓reduceIte, seval, c1, w1]) | ((with_reducible refine hK _ ?_); clear hK K) | (with_reducible first | refine qA ?_ | refine qB ?_ | refine qC ?_ | refine qD ?_ | refine qE ?_ | refine qF ?_ | refine qL ?_ | refine qM ?_ | refine qN ?_ | refine qO ?_ | refine qQ ?_) | refine qR rfl ?_ | (with_reducible refine AI ?_) | ((with_reducible refine qW (T := TT) (b := ?_) ?_ ?_); rotate_left; exact rfl) | (with_reducible first | refine qX ?_ | refine qY ?_ | refine qZ ?_) | (with_reducible first | refine qI ?_ | refine qIx ?_ | fail) | ((with_reducible refine yS ?_ ?_) <;> (intro h; try simp only [NM] at h)))
    have e1 : min (List.drop k xs).length (xs.length + 1 - (k + 1)) = xs.length - k := by rw [List.length_drop]; omega
    have e2 : List.take (k + 1) (List.take k xs ++ [[L.sl 3 q]] ++ List.replicate (xs.length - k) [L.sl 3 []]) = List.take k xs ++ [[L.sl 3 q]] := List.take_left' (by simp; omega)
    have e3 : List.drop (k + 1 + (xs.length - k)) (List.take k xs ++ [[L.sl 3 q]] ++ List.replicate (xs.length - k) [L.sl 3 []]) = [] := List.drop_of_length_le (by simp; omega)
    have e4 : min (List.drop k xs).length (xs.length - k) = xs.length - k := by rw [List.length_drop]; omega
    simp only [e1, e4, e2, e3, List.append_nil]
    simp -dsimp (disch := (first | omega | (simp only [LN]; omega))) only [retQ, Tryz.results49, resVals, cellRV, resOf, St.rest, St.freeze, RT, go_sem, ↓reduceIte, seval]
  repeat' (first | ((first | with_reducible refine qV tyOk fun K hK => ?_ | (with_reducible first | refine qG ?_ | refine qH ?_ | refine qP ?_ | refine qGx ?_ | refine qHx ?_ | refine qPx ?_) | ((with_reducible first | refine qS ?_ ?_ | refine qT ?_ ?_ | refine qU ?_ ?_) <;> (intro h; try simp only [NM] at h))) <;> simp -dsimp (disch := (first | omega | (simp only [LN]; omega))) only [go_sem, ↓reduceIte, seval, c1, w1]) | ((with_reducible refine hK _ ?_); clear hK K) | (with_reducible first | refine qA ?_ | refine qB ?_ | refine qC ?_ | refine qD ?_ | refine qE ?_ | refine qF ?_ | refine qL ?_ | refine qM ?_ | refine qN ?_ | refine qO ?_ | refine qQ ?_) | refine qR rfl ?_ | (with_reducible refine AI ?_) | ((with_reducible refine qW (T := TT) (b := ?_) ?_ ?_); rotate_left; exact rfl) | (with_reducible first | refine qX ?_ | refine qY ?_ | refine qZ ?_) | (with_reducible first | refine qI ?_ | refine qIx ?_ | fail) | ((with_reducible refine yS ?_ ?_) <;> (intro h; try simp only [NM] at h)))
  have s1 : ((xs.length : Int) + 1).toNat = xs.length + 1 := by omega
  simp only [s1, Nat.sub_zero]
  refine CallJ.apart 43 40 4 1 _ _ Tryz.func71 (by kernel_rfl) (by kernel_rfl) (by kernel_rfl) (by kernel_rfl) Tryz.underlying43 Tryz.sizeOf40 (by decide) rfl rfl ⟨by simp, trivial⟩ (by simp; omega) (by omega) Nat.zero_lt_one ?_
  have e0 : List.take (k + 1 + (xs.length - k)) (xs ++ List.replicate p [L.any]) = xs ++ [[L.any]] := by
    rw [show k + 1 + (xs.length - k) = xs.length + 1 by omega, List.take_append, List.take_of_length_le (by omega : xs.length ≤ xs.length + 1), show xs.length + 1 - xs.length = 1 by omega, List.take_replicate, show min 1 p = 1 by omega]
    rfl
  try simp only [e0]
  simp -dsimp (disch := (first | omega | (simp only [LN]; omega))) only [go_sem, ↓reduceIte, seval, c1, w1, e0]
  repeat' (first | ((first | with_reducible refine qV tyOk fun K hK => ?_ | (with_reducible first | refine qG ?_ | refine qH ?_ | refine qP ?_ | refine qGx ?_ | refine qHx ?_ | refine qPx ?_) | ((with_reducible first | refine qS ?_ ?_ | refine qT ?_ ?_ | refine qU ?_ ?_) <;> (intro h; try simp only [NM] at h))) <;> simp -dsimp (disch := (first | omega | (simp only [LN]; omega))) only [go_sem, ↓reduceIte, seval, c1, w1, e0]) | ((with_reducible refine hK _ ?_); clear hK K) | (with_reducible first | refine qA ?_ | refine qB ?_ | refine qC ?_ | refine qD ?_ | refine qE ?_ | refine qF ?_ | refine qL ?_ | refine qM ?_ | refine qN ?_ | refine qO ?_ | refine qQ ?_) | refine qR rfl ?_ | (with_reducible refine AI ?_) | ((with_reducible refine qW (T := TT) (b := ?_) ?_ ?_); rotate_left; exact rfl) | (with_reducible first | refine qX ?_ | refine qY ?_ | refine qZ ?_) | (with_reducible first | refine qI ?_ | refine qIx ?_ | fail) | ((with_reducible refine yS ?_ ?_) <;> (intro h; try simp only [NM] at h)))
  have hnx : noOwn (xs ++ [[L.any]]) := by
    intro x hx
    rcases List.mem_append.1 hx with hx | hx
    · exact hno x hx
    · simp only [List.mem_singleton] at hx
      subst hx
      intro l hl
      simp only [List.mem_singleton] at hl
      subst hl
      rfl
  refine AWP.drawT tyOk mixed 8 8 (by kernel_rfl) rfl rfl fun K hK => ?_
  simp -dsimp (disch := (first | omega | (simp only [LN]; omega))) only [go_sem, ↓reduceIte, seval, c1, w1, e0]
  repeat' (first | ((first | with_reducible refine qV tyOk fun K hK => ?_ | (with_reducible first | refine qG ?_ | refine qH ?_ | refine qP ?_ | refine qGx ?_ | refine qHx ?_ | refine qPx ?_) | ((with_reducible first | refine qS ?_ ?_ | refine qT ?_ ?_ | refine qU ?_ ?_) <;> (intro h; try simp only [NM] at h))) <;> simp -dsimp (disch := (first | omega | (simp only [LN]; omega))) only [go_sem, ↓reduceIte, seval, c1, w1, e0]) | ((with_reducible refine hK _ ?_); clear hK K) | (with_reducible first | refine qA ?_ | refine qB ?_ | refine qC ?_ | refine qD ?_ | refine qE ?_ | refine qF ?_ | refine qL ?_ | refine qM ?_ | refine qN ?_ | refine qO ?_ | refine qQ ?_) | refine qR rfl ?_ | (with_reducible refine AI ?_) | ((with_reducible refine qW (T := TT) (b := ?_) ?_ ?_); rotate_left; exact rfl) | (with_reducible first | refine qX ?_ | refine qY ?_ | refine qZ ?_) | (with_reducible first | refine qI ?_ | refine qIx ?_ | fail) | ((with_reducible refine yS ?_ ?_) <;> (intro h; try simp only [NM] at h)))
  intro K hK
  simp -dsimp (disch := (first | omega | (simp only [LN]; omega))) only [go_sem, ↓reduceIte, seval, c1, w1, e0]
  repeat' (first | ((first | with_reducible refine qV tyOk fun K hK => ?_ | (with_reducible first | refine qG ?_ | refine qH ?_ | refine qP ?_ | refine qGx ?_ | refine qHx ?_ | refine qPx ?_) | ((with_reducible first | refine qS ?_ ?_ | refine qT ?_ ?_ | refine qU ?_ ?_) <;> (intro h; try simp only [NM] at h))) <;> simp -dsimp (disch := (first | omega | (simp only [LN]; omega))) only [go_sem, ↓reduceIte, seval, c1, w1, e0]) | ((with_reducible refine hK _ ?_); clear hK K) | (with_reducible first | refine qA ?_ | refine qB ?_ | refine qC ?_ | refine qD ?_ | refine qE ?_ | refine qF ?_ | refine qL ?_ | refine qM ?_ | refine qN ?_ | refine qO ?_ | refine qQ ?_) | refine qR rfl ?_ | (with_reducible refine AI ?_) | ((with_reducible refine qW (T := TT) (b := ?_) ?_ ?_); rotate_left; exact rfl) | (with_reducible first | refine qX ?_ | refine qY ?_ | refine qZ ?_) | (with_reducible first | refine qI ?_ | refine qIx ?_ | fail) | ((with_reducible refine yS ?_ ?_) <;> (intro h; try simp only [NM] at h)))
  have hX : (xs ++ [[L.any]]).length = xs.length + 1 := by simp
  have d0 : List.drop k (xs ++ [[L.any]]) = List.drop k xs ++ [[L.any]] := List.drop_append_of_le_length (by omega)
  have d1 : min (List.drop k xs ++ [[L.any]]).length (xs.length + 1 - (k + 1)) = xs.length - k := by rw [List.length_append, List.length_drop]; omega
  have d2 : List.take (xs.length - k) (List.drop k xs ++ [[L.any]]) = List.drop k xs := List.take_left' (by simp)
  have d3 : List.drop (k + 1 + (xs.length - k)) (xs ++ [[L.any]]) = [] := List.drop_of_length_le (by omega)
  have d6 : (List.take (k + 1) (xs ++ [[L.any]])).length = k + 1 := by rw [List.length_take]; omega
  have d4 : List.take k (List.take (k + 1) (xs ++ [[L.any]]) ++ List.drop k xs) = List.take k xs := by
    rw [List.take_append_of_le_length (by omega), List.take_take, show min k (k + 1) = k by omega, List.take_append_of_le_length (by omega)]
  have d5 : List.drop (k + 1) (List.take (k + 1) (xs ++ [[L.any]]) ++ List.drop k xs) = List.drop k xs := List.drop_left' d6
  have d7 : min 1 (xs.length + 1 - k) = 1 := by omega
  have d8 : min (List.drop k xs ++ [[L.any]]).length (xs.length - k) = xs.length - k := by rw [List.length_append, List.length_drop]; omega
  simp only [d0, d1, d8, d2, d3, d4, d5, d7, List.append_nil]
  simp -dsimp (disch := (first | omega | (simp only [LN]; omega))) only [retQ, Tryz.results49, resVals, cellRV, resOf, St.rest, St.freeze, RT, go_sem, ↓reduceIte, seval]
end Go.Bw
