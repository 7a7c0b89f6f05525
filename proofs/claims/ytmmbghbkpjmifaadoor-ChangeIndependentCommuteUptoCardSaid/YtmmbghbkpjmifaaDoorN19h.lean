/-
  WHAT IS PROVED HERE, of this translation: compactE_ok, compactE_mem, compactE_length, conflicts_sat, instEqual1_sat, equalFuncRel_sat, instEqual_sat, cells_Change, ChgsOk.fits, instFits_of, applyE_zero, applyE_conf, ChgsFit.take, ChgsFit.drop, applyE_bad, applyE_fits, ChgsFit.append, sat_of_calls, args1, erep_int, itoa_sat, ERep.whf, VRep.whf, ARep.whf, XRep.whf, RCell.whf, CI.boxGrow, bytesAt_of, byT_own, byT_of, .., rowFits_of, rdb_struct5, rdb_IF, rdb_SF, rdb_intsF, rdb_colF, rdb_colsF, rdb_tblF, rdb_tblsF, rdb_fkF, rdb_fksF, rdb_conF, rdb_consF, rdb_schF, rdb_rowsF, rdb_relF, rdb_instF, rdb_chgF, rdb_chgsF, valFitsW, schFW, schFitsW, instFitsW, chgFW, gPow, tPow, gSyn, gRng, laidW_rel.
  A theorem that ends in sat says what the function it names returns, whatever the state it is called in; the bounds on its arguments stand ahead of it.
-/
import Derived.Lib.AppendIntMem
import Derived.Lib.ItoaLen
import Derived.Test.YtmmbghbkpjmifaaDoorRows
import Derived.Test.YtmmbghbkpjmifaaDoorTie
import Derived.Test.YtmmbghbkpjmifaaDoorCards
import Derived.Lib.LaidTab
import Derived.Stop.LaidErr
import Derived.Stop.Joined
import Derived.OpenShut
import Derived.LaidMore
import Derived.SevenTiedAt
import Derived.Deep.DeepHandedRow
import Derived.Lay
import Derived.WalkKit
import Derived.ProofKit
import Derived.Test.YtmmbghbkpjmifaaDoorN19g
set_option linter.unusedSimpArgs false
set_option linter.unusedVariables false

namespace Go.Bw
open Go.Proofs
attribute [local go_sem ↓] VOps_nil VOps_cons VOp_callJ VVal_callH VOps_guard GOn_tt GOn_ff GOn_tf GOn_ft GOn_not GOn_none HOn_none HOn_tt HOn_ff HOn_tf HOn_ft HOn_not VHead_nil VHead_cons VHead_guard VVal_move VVal_assign VVal_pickE pickK_true pickK_false VVal_not VVal_neg negK_int VVal_load loadK_fz loadK_ptr loadK_eptr VVal_fieldAddr VVal_field VVal_indexAddr idxK_sl idxK_ref VVal_index indexK_str VVal_extract VVal_binOp binK_one binK_agg VVal_build VVal_buildSlice VVal_makeFunc VVal_slice sliceK_str sliceK_sl sliceK_nil sliceK_ref VVal_slice3 VVal_nilCheck VVal_convert convKk_int convKk_str VVal_len VVal_max VVal_min VOp_assign assignK_int assignK_bool assignK_str assignK_clo assignK_sl assignK_nil assignK_ref assignK_agg assignK_fz assignK_ptr assignK_eptr assignK_any VOp_box VOp_alloc VOp_store storeK_ptr storeK_eptr VOp_buildSlice VOp_append appK_rr appK_rs appK_rn appK_ri appK_nr appK_ns appK_nn appK_ni appStd_eq VOp_copy copyK_ref VOp_clear clearK_ref VOp_cap VOp_eqNil VOp_move VOp_pick VOp_not VOp_neg VOp_load VOp_fieldAddr VOp_field VOp_indexAddr VOp_index VOp_extract VOp_binTmp VOp_binInt VOp_binStr VOp_binPtr VOp_build VOp_makeFunc VOp_slice VOp_nilCheck VOp_convert VOp_len VOp_max VOp_min mO_some mT_some pk_some pk_none look_cons del_cons
attribute [local go_sem] guardB gOf int_bne beq_true beq_false Bool.not_not gSlot pickK_true pickK_false negK_int loadK_fz loadK_ptr loadK_eptr idxK_sl idxK_ref indexK_str binK_one binK_agg sliceK_str sliceK_sl sliceK_nil sliceK_ref convKk_int convKk_str maxL minL assignK_int assignK_bool assignK_str assignK_clo assignK_sl assignK_nil assignK_ref assignK_agg assignK_fz assignK_ptr assignK_eptr assignK_any nilRow_eq takeRow_eq appended_eq storeK_ptr storeK_eptr store_mk appIn_eq appMk_eq marked_eq ovOut_nil ovOut_cons ovIn_nil ovIn_cons padRow_eq ysC capK_nil capK_ref ioSt_mk outB_nil outR_nil outB outR inB_nil inB_cons inR_nil inR_cons L.kl L.kl0 L.ids L.ids0 Option.getD_some evalO constA mO_some mT_some put_mk putO_some putO_none okD_some okD_none pk_some pk_none look_nil del_nil sput noBox_mk noRow_mk newBox_eq newRow0_eq St.killRow RowC.kill rowMap_mk rowOf ovAll ovAdd ovDel ovGet ovShift dstOf ysOf overlay_nil overlay_nil' overlay A.map V.map L.noPtr L.noPtr0 L.noRow L.noRow0 L.peek L.norm L.flat clos_int clos_bool clos_str clos_sl clos_nil clos_any clos_fz L.clos L.isFz L.kd moveL fieldOff eqCells eqCell eqOp oneOf boolOf intOfA tupOf vOf aggOf isPtrLike isSlice lenKind lenL nL elemTI loadV asV binL intBin intDivL shrL boolBin strBin strAdd ptrNil boundN partCells fillL placesOf setL chunks repL capsOf capL callOf argsOf frzV_int frzV_bool frzV_str frzV_sl frzV_nil frzV_fz frzV_any frzV_own frzV_clo frzV_ref frzV_eptr frzV_ptr frzRow_nil frzRow_ov frzRs_nil frzRs_cons frzCs_nil frzCs_cons frzO_some frzO_none frzN_int frzN_bool frzN_str frzN_sl frzN_nil frzN_any frzN_own List.map_cons List.map_nil List.cons_append List.nil_append List.append_nil List.length_cons List.length_nil List.length_map List.length_append List.headD_cons List.tail_cons List.getElem?_cons_zero List.getElem?_cons_succ List.drop_zero List.drop_succ_cons List.drop_nil List.take_succ_cons List.take_zero List.take_nil List.take_length List.filter_cons List.filter_nil List.elem_cons List.elem_nil List.all_cons List.all_nil Option.bind_some Option.map_some Option.some.injEq bne_self_eq_false beq_self_eq_true if_true if_false Bool.false_eq_true true_and and_true and_self Nat.zero_add Nat.add_zero Nat.zero_le Int.toNat_natCast Int.toNat_zero Option.isSome_some List.getElem?_toArray decide_true decide_false ge_iff_le gt_iff_lt Bool.not_true Bool.not_false Nat.le_refl Bool.and_true Bool.true_and Bool.and_false Bool.false_and eVal eRow eRow1 eRows eInt1 eInts eCol eCols eTbl eTbls eFK eFKs eCon eCons eSch eRel eInst eChg eChgs szOf getD_map_lt wrap_nat wrap_in List.take_of_length_le frz_eVal frz_eRow1 frz_eInt1 frz_eCol frz_eTbl frz_eFK frz_eCon frz_eRel frz_eChg noOwn_nil noOwn_cons noOwn_append L.isOwn noOwn_eVal noOwn_eRow1 noOwn_eInt1 noOwn_eCol noOwn_eTbl noOwn_eFK noOwn_eCon noOwn_eRel noOwn_eChg convK_2 convK_3 convK_5 convK_12 convK_21 convK_57 convK_155 convK_162 convK_166 TT_2 TT_3 TT_4 TT_5 TT_9 TT_12 TT_13 TT_21 TT_22 TT_23 TT_24 TT_25 TT_26 TT_27 TT_28 TT_38 TT_39 TT_40 TT_41 TT_42 TT_45 TT_46 TT_47 TT_48 TT_49 TT_50 TT_51 TT_52 TT_54 TT_55 TT_56 TT_57 TT_65 TT_66 TT_82 TT_83 TT_84 TT_100 TT_101 TT_118 TT_155 TT_162 TT_166 boolTy_4 eqK_46 eqK_50 eqK_52
attribute [local congr] VOps.congr VHead.congr VOp.congr VVal.congr pk.congr assignK.congr appK.congr appStd.congr copyK.congr clearK.congr storeK.congr loadK.congr idxK.congr sliceK.congr indexK.congr binK.congr convKk.congr
theorem compactE_ok {s : Sch} {cs : List Chg} (h : (compactE s cs).1 = 0) : schE s = 0 ∧ (∀ c ∈ cs, chgE s c = 0) ∧ (compactE s cs).2 = stableF (cmpChg s) (lastC s cs) := by
  unfold compactE at h ⊢
  by_cases h0 : schE s = 0
  case neg => simp only [ne_eq, h0, not_false_eq_true, if_true] at h
  by_cases h1 : vldE s cs = 0
  case neg => simp only [ne_eq, h0, not_true_eq_false, if_false, h1, not_false_eq_true, if_true] at h
  exact ⟨h0, (vldE_zero s cs).1 h1, by simp [h0, h1]⟩
theorem compactE_mem {s : Sch} {cs : List Chg} {c : Chg} (h : c ∈ (compactE s cs).2) : schE s = 0 ∧ c ∈ lastC s cs ∧ chgE s c = 0 := by
  have h' : (compactE s cs).1 = 0 := by
    unfold compactE at h ⊢
    by_cases h0 : schE s = 0
    case neg => simp [h0] at h
    by_cases h1 : vldE s cs = 0
    case neg => simp [h0, h1] at h
    simp [h0, h1]
  obtain ⟨h0, h1, h2⟩ := compactE_ok h'
  rw [h2] at h
  have h3 := (stableF_perm (cmpChg s) (lastC s cs)).subset h
  exact ⟨h0, h3, h1 c ((lastC_sub s cs).subset h3)⟩
theorem compactE_length (s : Sch) (cs : List Chg) : (compactE s cs).2.length ≤ cs.length := by
  unfold compactE
  split
  · simp
  split
  · simp
  · exact ((stableF_perm (cmpChg s) (lastC s cs)).length_eq ▸ (lastC_sub s cs).length_le)

def conflictsE (s : Sch) (a b : List Chg) : Int × Bool :=
  if (compactE s a).1 ≠ 0 then ((compactE s a).1, false) else if (compactE s b).1 ≠ 0 then ((compactE s b).1, false)
  else (0, (compactE s a).2.any fun c => (compactE s b).2.any (confl (tblOf s c.table) c))
set_option maxHeartbeats 16000000 in
theorem conflicts_sat (s : Sch) (a b : List Chg) (hf : s.Fits) (ha : ChgsFit a) (ha72 : a.length * 72 ≤ 140737488355328) (hb : ChgsFit b) (hb72 : b.length * 72 ≤ 140737488355328) :
    Sat Tryd.prog 25 [.agg (eSch s), .one (eChgs a), .one (eChgs b)] (.tup [oB (conflictsE s a b).2, oI (conflictsE s a b).1]) := by
  have ca := compact_sat s a hf ha ha72
  have cb := compact_sat s b hf hb hb72
  have la := compactE_length s a
  have lb := compactE_length s b
  obtain ⟨⟨ea, A⟩, hA⟩ : ∃ x, compactE s a = x := ⟨_, rfl⟩
  obtain ⟨⟨eb, B⟩, hB⟩ : ∃ x, compactE s b = x := ⟨_, rfl⟩
  have mA : ∀ c ∈ A, schE s = 0 ∧ chgE s c = 0 := fun c hc => by
    have := compactE_mem (s := s) (cs := a) (c := c) (by rw [hA]; exact hc)
    exact ⟨this.1, this.2.2⟩
  have mB : ∀ c ∈ B, chgE s c = 0 := fun c hc => (compactE_mem (s := s) (cs := b) (c := c) (by rw [hB]; exact hc)).2.2
  unfold conflictsE
  rw [hA] at ca la ⊢
  rw [hB] at cb lb ⊢
  simp only at ca cb la lb ⊢
  by_cases h1 : ea = 0
  case neg =>
    rw [if_pos h1]
    refine sat_of_body tyOk Tryd.func25 rfl (by kernel_rfl) ⟨Nat.le_of_ble_eq_true rfl, Nat.le_of_ble_eq_true rfl⟩ fun w0 m0 F0 => ?_
    simp only [Tryd.ntmps25, envOf, Nat.reduceAdd]
    repeat' (first | ((first | with_reducible refine qV tyOk fun K hK => ?_ | (with_reducible first | refine qG ?_ | refine qH ?_ | refine qP ?_ | refine qGx ?_ | refine qHx ?_ | refine qPx ?_) | ((with_reducible first | refine qS ?_ ?_ | refine qT ?_ ?_ | refine qU ?_ ?_) <;> (intro h; try simp only [NM] at h)) | ((with_reducible refine CallJ.is ?_); (first | refine CallJ.pure (ca) ?_ | ((apply CallJ.lentI); (focus (simp -dsimp (disch := (first | omega | (simp only [LN]; omega))) only [go_sem, ↓reduceIte, seval, h1]; rfl)); (focus (first | exact (ca)))))) | ((with_reducible refine CallH.is ?_); (first | refine CallH.intro (ca) ?_))) <;> simp -dsimp (disch := (first | omega | (simp only [LN]; omega))) only [go_sem, ↓reduceIte, seval, h1]) | ((with_reducible refine hK _ ?_); clear hK K) | (with_reducible first | refine qA ?_ | refine qB ?_ | refine qC ?_ | refine qD ?_ | refine qE ?_ | refine qF ?_ | refine qL ?_ | refine qM ?_ | refine qN ?_ | refine qO ?_ | refine qQ ?_) | refine qR rfl ?_ | (with_reducible refine AI ?_) | ((with_reducible refine qW (T := TT) (b := ?_) ?_ ?_); rotate_left; exact rfl) | (with_reducible first | refine qX ?_ | refine qY ?_ | refine qZ ?_) | (with_reducible first | refine qI ?_ | refine qIx ?_ | fail) | ((with_reducible refine yS ?_ ?_) <;> (intro h; try simp only [NM] at h)))
    all_goals simp -dsimp (disch := (first | omega | (simp only [LN]; omega))) only [retQ, Tryd.results25, resVals, cellRV, resOf, St.rest, St.freeze, RT, go_sem, ↓reduceIte, seval]
  rw [if_neg (by simpa using h1)]
  subst h1
  by_cases h2 : eb = 0
  case neg =>
    rw [if_pos h2]
    refine sat_of_body tyOk Tryd.func25 rfl (by kernel_rfl) ⟨Nat.le_of_ble_eq_true rfl, Nat.le_of_ble_eq_true rfl⟩ fun w0 m0 F0 => ?_
    simp only [Tryd.ntmps25, envOf, Nat.reduceAdd]
    repeat' (first | ((first | with_reducible refine qV tyOk fun K hK => ?_ | (with_reducible first | refine qG ?_ | refine qH ?_ | refine qP ?_ | refine qGx ?_ | refine qHx ?_ | refine qPx ?_) | ((with_reducible first | refine qS ?_ ?_ | refine qT ?_ ?_ | refine qU ?_ ?_) <;> (intro h; try simp only [NM] at h)) | ((with_reducible refine CallJ.is ?_); (first | refine CallJ.pure (ca) ?_ | refine CallJ.pure (cb) ?_ | ((apply CallJ.lentI); (focus (simp -dsimp (disch := (first | omega | (simp only [LN]; omega))) only [go_sem, ↓reduceIte, seval, h2]; rfl)); (focus (first | exact (ca) | exact (cb)))))) | ((with_reducible refine CallH.is ?_); (first | refine CallH.intro (ca) ?_ | refine CallH.intro (cb) ?_))) <;> simp -dsimp (disch := (first | omega | (simp only [LN]; omega))) only [go_sem, ↓reduceIte, seval, h2]) | ((with_reducible refine hK _ ?_); clear hK K) | (with_reducible first | refine qA ?_ | refine qB ?_ | refine qC ?_ | refine qD ?_ | refine qE ?_ | refine qF ?_ | refine qL ?_ | refine qM ?_ | refine qN ?_ | refine qO ?_ | refine qQ ?_) | refine qR rfl ?_ | (with_reducible refine AI ?_) | ((with_reducible refine qW (T := TT) (b := ?_) ?_ ?_); rotate_left; exact rfl) | (with_reducible first | refine qX ?_ | refine qY ?_ | refine qZ ?_) | (with_reducible first | refine qI ?_ | refine qIx ?_ | fail) | ((with_reducible refine yS ?_ ?_) <;> (intro h; try simp only [NM] at h)))
    all_goals simp -dsimp (disch := (first | omega | (simp only [LN]; omega))) only [retQ, Tryd.results25, resVals, cellRV, resOf, St.rest, St.freeze, RT, go_sem, ↓reduceIte, seval]
  rw [if_neg (by simpa using h2)]
  subst h2
  have l1 := ha.1
  have l2 := hb.1
  refine sat_of_body tyOk Tryd.func25 rfl (by kernel_rfl) ⟨Nat.le_of_ble_eq_true rfl, Nat.le_of_ble_eq_true rfl⟩ fun w0 m0 F0 => ?_
  simp only [Tryd.ntmps25, envOf, Nat.reduceAdd]
  repeat' (first | ((first | with_reducible refine qV tyOk fun K hK => ?_ | (with_reducible first | refine qG ?_ | refine qH ?_ | refine qP ?_ | refine qGx ?_ | refine qHx ?_ | refine qPx ?_) | ((with_reducible first | refine qS ?_ ?_ | refine qT ?_ ?_ | refine qU ?_ ?_) <;> (intro h; try simp only [NM] at h)) | ((with_reducible refine CallJ.is ?_); (first | refine CallJ.pure (ca) ?_ | refine CallJ.pure (cb) ?_ | ((apply CallJ.lentI); (focus (simp -dsimp (disch := (first | omega | (simp only [LN]; omega))) only [go_sem, ↓reduceIte, seval]; rfl)); (focus (first | exact (ca) | exact (cb)))))) | ((with_reducible refine CallH.is ?_); (first | refine CallH.intro (ca) ?_ | refine CallH.intro (cb) ?_))) <;> simp -dsimp (disch := (first | omega | (simp only [LN]; omega))) only [go_sem, ↓reduceIte, seval]) | ((with_reducible refine hK _ ?_); clear hK K) | (with_reducible first | refine qA ?_ | refine qB ?_ | refine qC ?_ | refine qD ?_ | refine qE ?_ | refine qF ?_ | refine qL ?_ | refine qM ?_ | refine qN ?_ | refine qO ?_ | refine qQ ?_) | refine qR rfl ?_ | (with_reducible refine AI ?_) | ((with_reducible refine qW (T := TT) (b := ?_) ?_ ?_); rotate_left; exact rfl) | (with_reducible first | refine qX ?_ | refine qY ?_ | refine qZ ?_) | (with_reducible first | refine qI ?_ | refine qIx ?_ | fail) | ((with_reducible refine yS ?_ ?_) <;> (intro h; try simp only [NM] at h)))
  refine AWP.loop (ι := {k : Nat // k ≤ A.length ∧ (A.drop k).any (fun c => B.any (confl (tblOf s c.table) c)) = A.any fun c => B.any (confl (tblOf s c.table) c)}) (fun k => ⟨56, [(3, .v (.one (.ptr 3 0))), (10, .v (.one (eChgs B))), (34, .v (.one (eChgs A))), (35, .v (oI A.length)), (36, .v (oI k.1))], [(3, eSch s)], []⟩) (fun k => A.length - k.1) ⟨0, Nat.zero_le _, rfl⟩ ?_ fun ⟨k, hkl, hi⟩ => ?_
  · refine St.le_mk ?_ ?_ ?_ <;> simp only [LE, EN, Nat.reduceEqDiff, reduceIte, Nat.reduceSub, eSch]
  simp only at hkl hi ⊢
  rcases Nat.lt_or_ge k A.length with hc | hc
  · obtain ⟨h0, ek⟩ := mA _ (List.getElem_mem hc)
    have sm := small_of h0
    have m1 := sm.tables
    have o := okChg_of ek
    obtain ⟨s1, s2⟩ := chg_small sm ek
    obtain ⟨j, hjj⟩ : ∃ j, tpos s A[k] = j := ⟨_, rfl⟩
    have hjl := o.lt
    have fs := findTable_sat s A[k].table (by omega)
    rw [o.pos, hjj, mx0_nat] at fs
    rw [hjj] at hjl
    have et : tblOf s A[k].table = s.tables[j] := by rw [o.tbl, hjj]; exact getD_lt _ hjl
    have hpk := (sm.table _ (List.getElem_mem hjl)).2
    have ct := containsChg_sat B 65 [.fz (eChg A[k]), .fz (eTbl s.tables[j])] (confl s.tables[j] A[k]) (by omega) fun d hd => by
      obtain ⟨q1, q2⟩ := chg_small sm (mB d hd)
      exact conflicts1_sat s.tables[j] A[k] d (by omega) (by omega) (by omega) (by omega) (by omega)
    rw [List.drop_eq_getElem_cons hc, List.any_cons, et] at hi
    by_cases hA : B.any (confl s.tables[j] A[k]) = true
    · rw [hA] at ct
      rw [hA, Bool.true_or] at hi
      rw [← hi]
      repeat' (first | ((first | with_reducible refine qV tyOk fun K hK => ?_ | (with_reducible first | refine qG ?_ | refine qH ?_ | refine qP ?_ | refine qGx ?_ | refine qHx ?_ | refine qPx ?_) | ((with_reducible first | refine qS ?_ ?_ | refine qT ?_ ?_ | refine qU ?_ ?_) <;> (intro h; try simp only [NM] at h)) | ((with_reducible refine CallJ.is ?_); (first | refine CallJ.pure (fs) ?_ | refine CallJ.pure (ct) ?_ | ((apply CallJ.lentI); (focus (simp -dsimp (disch := (first | omega | (simp only [LN]; omega))) only [go_sem, ↓reduceIte, seval]; rfl)); (focus (first | exact (fs) | exact (ct)))))) | ((with_reducible refine CallH.is ?_); (first | refine CallH.intro (fs) ?_ | refine CallH.intro (ct) ?_))) <;> simp -dsimp (disch := (first | omega | (simp only [LN]; omega))) only [go_sem, ↓reduceIte, seval]) | ((with_reducible refine hK _ ?_); clear hK K) | (with_reducible first | refine qA ?_ | refine qB ?_ | refine qC ?_ | refine qD ?_ | refine qE ?_ | refine qF ?_ | refine qL ?_ | refine qM ?_ | refine qN ?_ | refine qO ?_ | refine qQ ?_) | refine qR rfl ?_ | (with_reducible refine AI ?_) | ((with_reducible refine qW (T := TT) (b := ?_) ?_ ?_); rotate_left; exact rfl) | (with_reducible first | refine qX ?_ | refine qY ?_ | refine qZ ?_) | (with_reducible first | refine qI ?_ | refine qIx ?_ | fail) | ((with_reducible refine yS ?_ ?_) <;> (intro h; try simp only [NM] at h)))
      simp -dsimp (disch := (first | omega | (simp only [LN]; omega))) only [retQ, Tryd.results25, resVals, cellRV, resOf, St.rest, St.freeze, RT, go_sem, ↓reduceIte, seval]
    · have hA : B.any (confl s.tables[j] A[k]) = false := by simpa using hA
      rw [hA] at ct
      rw [hA, Bool.false_or] at hi
      repeat' (first | ((first | with_reducible refine qV tyOk fun K hK => ?_ | (with_reducible first | refine qG ?_ | refine qH ?_ | refine qP ?_ | refine qGx ?_ | refine qHx ?_ | refine qPx ?_) | ((with_reducible first | refine qS ?_ ?_ | refine qT ?_ ?_ | refine qU ?_ ?_) <;> (intro h; try simp only [NM] at h)) | ((with_reducible refine CallJ.is ?_); (first | refine CallJ.pure (fs) ?_ | refine CallJ.pure (ct) ?_ | ((apply CallJ.lentI); (focus (simp -dsimp (disch := (first | omega | (simp only [LN]; omega))) only [go_sem, ↓reduceIte, seval]; rfl)); (focus (first | exact (fs) | exact (ct)))))) | ((with_reducible refine CallH.is ?_); (first | refine CallH.intro (fs) ?_ | refine CallH.intro (ct) ?_))) <;> simp -dsimp (disch := (first | omega | (simp only [LN]; omega))) only [go_sem, ↓reduceIte, seval]) | ((with_reducible refine hK _ ?_); clear hK K) | (with_reducible first | refine qA ?_ | refine qB ?_ | refine qC ?_ | refine qD ?_ | refine qE ?_ | refine qF ?_ | refine qL ?_ | refine qM ?_ | refine qN ?_ | refine qO ?_ | refine qQ ?_) | refine qR rfl ?_ | (with_reducible refine AI ?_) | ((with_reducible refine qW (T := TT) (b := ?_) ?_ ?_); rotate_left; exact rfl) | (with_reducible first | refine qX ?_ | refine qY ?_ | refine qZ ?_) | (with_reducible first | refine qI ?_ | refine qIx ?_ | fail) | ((with_reducible refine yS ?_ ?_) <;> (intro h; try simp only [NM] at h)))
      refine ⟨⟨k + 1, by omega, hi⟩, by simp only; omega, ?_⟩
      refine St.le_mk ?_ ?_ ?_ <;> simp only [LE, EN, Nat.reduceEqDiff, reduceIte, Nat.reduceSub, eSch]
  · rw [List.drop_of_length_le hc, List.any_nil] at hi
    rw [← hi]
    repeat' (first | ((first | with_reducible refine qV tyOk fun K hK => ?_ | (with_reducible first | refine qG ?_ | refine qH ?_ | refine qP ?_ | refine qGx ?_ | refine qHx ?_ | refine qPx ?_) | ((with_reducible first | refine qS ?_ ?_ | refine qT ?_ ?_ | refine qU ?_ ?_) <;> (intro h; try simp only [NM] at h))) <;> simp -dsimp (disch := (first | omega | (simp only [LN]; omega))) only [go_sem, ↓reduceIte, seval]) | ((with_reducible refine hK _ ?_); clear hK K) | (with_reducible first | refine qA ?_ | refine qB ?_ | refine qC ?_ | refine qD ?_ | refine qE ?_ | refine qF ?_ | refine qL ?_ | refine qM ?_ | refine qN ?_ | refine qO ?_ | refine qQ ?_) | refine qR rfl ?_ | (with_reducible refine AI ?_) | ((with_reducible refine qW (T := TT) (b := ?_) ?_ ?_); rotate_left; exact rfl) | (with_reducible first | refine qX ?_ | refine qY ?_ | refine qZ ?_) | (with_reducible first | refine qI ?_ | refine qIx ?_ | fail) | ((with_reducible refine yS ?_ ?_) <;> (intro h; try simp only [NM] at h)))
    simp -dsimp (disch := (first | omega | (simp only [LN]; omega))) only [retQ, Tryd.results25, resVals, cellRV, resOf, St.rest, St.freeze, RT, go_sem, ↓reduceIte, seval]

theorem instEqual1_sat (a b : Rel) (h1 : a.rows.length ≤ 140737488355328) (h2 : b.rows.length ≤ 140737488355328) (h3 : ∀ r ∈ a.rows, r.length ≤ 140737488355328) (h4 : ∀ r ∈ b.rows, r.length ≤ 140737488355328) :
    Sat Tryd.prog 63 [.agg (eRel a), .agg (eRel b)] (.v (oB (decide (a = b)))) := by
  have sp : decide (a = b) = (sEq a.table b.table && decide (a.rows = b.rows)) := by
    rw [Bool.eq_iff_iff]
    simp only [Bool.and_eq_true, decide_eq_true_eq, sEq_iff]
    constructor
    · rintro rfl; exact ⟨rfl, rfl⟩
    · rintro ⟨h1, h2⟩; cases a; cases b; simp_all
  rw [sp]
  refine sat_of_body tyOk Tryd.func63 rfl (by kernel_rfl) ⟨Nat.le_of_ble_eq_true rfl, Nat.le_of_ble_eq_true rfl⟩ fun w0 m0 F0 => ?_
  simp only [Tryd.ntmps63, envOf, Nat.reduceAdd]
  repeat' (first | ((first | with_reducible refine qV tyOk fun K hK => ?_ | (with_reducible first | refine qG ?_ | refine qH ?_ | refine qP ?_ | refine qGx ?_ | refine qHx ?_ | refine qPx ?_) | ((with_reducible first | refine qS ?_ ?_ | refine qT ?_ ?_ | refine qU ?_ ?_) <;> (intro h; try simp only [NM] at h)) | with_reducible refine yD tyOk mixed 6 (by kernel_rfl) fun K hK => ?_ | ((with_reducible refine CallJ.is ?_); (first | refine CallJ.pure (relEqual_sat a.rows b.rows h1 h2 h3 h4) ?_ | ((apply CallJ.lentI); (focus (simp -dsimp (disch := (first | omega | (simp only [LN]; omega))) only [go_sem, ↓reduceIte, seval]; rfl)); (focus (first | exact (relEqual_sat a.rows b.rows h1 h2 h3 h4)))))) | ((with_reducible refine CallH.is ?_); (first | refine CallH.intro (relEqual_sat a.rows b.rows h1 h2 h3 h4) ?_))) <;> simp -dsimp (disch := (first | omega | (simp only [LN]; omega))) only [go_sem, ↓reduceIte, seval]) | ((with_reducible refine hK _ ?_); clear hK K) | (with_reducible first | refine qA ?_ | refine qB ?_ | refine qC ?_ | refine qD ?_ | refine qE ?_ | refine qF ?_ | refine qL ?_ | refine qM ?_ | refine qN ?_ | refine qO ?_ | refine qQ ?_) | refine qR rfl ?_ | (with_reducible refine AI ?_) | ((with_reducible refine qW (T := TT) (b := ?_) ?_ ?_); rotate_left; exact rfl) | (with_reducible first | refine qX ?_ | refine qY ?_ | refine qZ ?_) | (with_reducible first | refine qI ?_ | refine qIx ?_ | fail) | ((with_reducible refine yS ?_ ?_) <;> (intro h; try simp only [NM] at h)))
  all_goals simp -dsimp (disch := (first | omega | (simp only [LN]; omega))) only [retQ, Tryd.results63, resVals, cellRV, resOf, St.rest, St.freeze, RT, go_sem, ↓reduceIte, seval]
  all_goals simp_all [sEq]

set_option maxHeartbeats 8000000 in
theorem equalFuncRel_sat (a b : Inst) (ha : InstFits a) (hb' : InstFits b) :
    Sat Tryd.prog 62 [.one (eInst a), .one (eInst b), .one (.clo 63 [])] (.v (oB (decide (a = b)))) := by
  obtain ⟨h1, h3⟩ := ha
  obtain ⟨h2, h4⟩ := hb'
  refine sat_of_body tyOk Tryd.func62 rfl (by kernel_rfl) ⟨Nat.le_of_ble_eq_true rfl, Nat.le_of_ble_eq_true rfl⟩ fun w0 m0 F0 => ?_
  simp only [Tryd.ntmps62, envOf, Nat.reduceAdd]
  repeat' (first | ((first | with_reducible refine qV tyOk fun K hK => ?_ | (with_reducible first | refine qG ?_ | refine qH ?_ | refine qP ?_ | refine qGx ?_ | refine qHx ?_ | refine qPx ?_) | ((with_reducible first | refine qS ?_ ?_ | refine qT ?_ ?_ | refine qU ?_ ?_) <;> (intro h; try simp only [NM] at h)) | with_reducible refine yD tyOk mixed 6 (by kernel_rfl) fun K hK => ?_) <;> simp -dsimp (disch := (first | omega | (simp only [LN]; omega))) only [go_sem, ↓reduceIte, seval]) | ((with_reducible refine hK _ ?_); clear hK K) | (with_reducible first | refine qA ?_ | refine qB ?_ | refine qC ?_ | refine qD ?_ | refine qE ?_ | refine qF ?_ | refine qL ?_ | refine qM ?_ | refine qN ?_ | refine qO ?_ | refine qQ ?_) | refine qR rfl ?_ | (with_reducible refine AI ?_) | ((with_reducible refine qW (T := TT) (b := ?_) ?_ ?_); rotate_left; exact rfl) | (with_reducible first | refine qX ?_ | refine qY ?_ | refine qZ ?_) | (with_reducible first | refine qI ?_ | refine qIx ?_ | fail) | ((with_reducible refine yS ?_ ?_) <;> (intro h; try simp only [NM] at h)))
  rotate_left
  · simp -dsimp (disch := (first | omega | (simp only [LN]; omega))) only [retQ, Tryd.results62, resVals, cellRV, resOf, St.rest, St.freeze, RT, go_sem, ↓reduceIte, seval]
    have hn : ¬ a = b := fun e => by rw [e] at h; exact h rfl
    simp [hn]
  have hl : a.length = b.length := by omega
  refine AWP.loop (ι := {k : Nat // k ≤ a.length ∧ a.take k = b.take k}) (fun k => ⟨32, [(1, .v (.one (eInst b))), (2, .v (.one (.clo 63 []))), (15, .v (.one (eInst a))), (16, .v (oI a.length)), (17, .v (oI k.1))], [], []⟩) (fun k => a.length - k.1) ⟨0, Nat.zero_le _, rfl⟩ ?_ fun ⟨k, hkl, hi⟩ => ?_
  · refine St.le_mk ?_ ?_ ?_ <;> simp only [LE, EN, Nat.reduceEqDiff, reduceIte, Nat.reduceSub]
  rcases Nat.lt_or_ge k a.length with hc | hc
  · have hb : k < b.length := by omega
    obtain ⟨q1, q2⟩ := h3 a[k] (List.getElem_mem hc)
    obtain ⟨q3, q4⟩ := h4 b[k] (List.getElem_mem hb)
    repeat' (first | ((first | with_reducible refine qV tyOk fun K hK => ?_ | (with_reducible first | refine qG ?_ | refine qH ?_ | refine qP ?_ | refine qGx ?_ | refine qHx ?_ | refine qPx ?_) | ((with_reducible first | refine qS ?_ ?_ | refine qT ?_ ?_ | refine qU ?_ ?_) <;> (intro h; try simp only [NM] at h)) | with_reducible refine yD tyOk mixed 6 (by kernel_rfl) fun K hK => ?_ | ((with_reducible refine CallJ.is ?_); (first | refine CallJ.pure (instEqual1_sat a[k] b[k] q1 q3 q2 q4) ?_ | ((apply CallJ.lentI); (focus (simp -dsimp (disch := (first | omega | (simp only [LN]; omega))) only [go_sem, ↓reduceIte, seval]; rfl)); (focus (first | exact (instEqual1_sat a[k] b[k] q1 q3 q2 q4)))))) | ((with_reducible refine CallH.is ?_); (first | refine CallH.intro (instEqual1_sat a[k] b[k] q1 q3 q2 q4) ?_))) <;> simp -dsimp (disch := (first | omega | (simp only [LN]; omega))) only [go_sem, ↓reduceIte, seval]) | ((with_reducible refine hK _ ?_); clear hK K) | (with_reducible first | refine qA ?_ | refine qB ?_ | refine qC ?_ | refine qD ?_ | refine qE ?_ | refine qF ?_ | refine qL ?_ | refine qM ?_ | refine qN ?_ | refine qO ?_ | refine qQ ?_) | refine qR rfl ?_ | (with_reducible refine AI ?_) | ((with_reducible refine qW (T := TT) (b := ?_) ?_ ?_); rotate_left; exact rfl) | (with_reducible first | refine qX ?_ | refine qY ?_ | refine qZ ?_) | (with_reducible first | refine qI ?_ | refine qIx ?_ | fail) | ((with_reducible refine yS ?_ ?_) <;> (intro h; try simp only [NM] at h)))
    all_goals first
      | (refine ⟨⟨k + 1, by omega, take_eq_succ hc hb hi ‹_›⟩, by simp only; omega, ?_⟩
         refine St.le_mk ?_ ?_ ?_ <;> simp only [LE, EN, Nat.reduceEqDiff, reduceIte, Nat.reduceSub]
         done)
      | (have hn : ¬ a = b := fun e => ‹¬ _› (get_of_eq hc hb e)
         simp -dsimp (disch := (first | omega | (simp only [LN]; omega))) only [retQ, Tryd.results62, resVals, cellRV, resOf, St.rest, St.freeze, RT, go_sem, ↓reduceIte, seval]
         simp [hn])
  · have hk : a = b := by
      rw [List.take_of_length_le (by omega), List.take_of_length_le (by omega)] at hi
      exact hi
    repeat' (first | ((first | with_reducible refine qV tyOk fun K hK => ?_ | (with_reducible first | refine qG ?_ | refine qH ?_ | refine qP ?_ | refine qGx ?_ | refine qHx ?_ | refine qPx ?_) | ((with_reducible first | refine qS ?_ ?_ | refine qT ?_ ?_ | refine qU ?_ ?_) <;> (intro h; try simp only [NM] at h)) | with_reducible refine yD tyOk mixed 6 (by kernel_rfl) fun K hK => ?_) <;> simp -dsimp (disch := (first | omega | (simp only [LN]; omega))) only [go_sem, ↓reduceIte, seval]) | ((with_reducible refine hK _ ?_); clear hK K) | (with_reducible first | refine qA ?_ | refine qB ?_ | refine qC ?_ | refine qD ?_ | refine qE ?_ | refine qF ?_ | refine qL ?_ | refine qM ?_ | refine qN ?_ | refine qO ?_ | refine qQ ?_) | refine qR rfl ?_ | (with_reducible refine AI ?_) | ((with_reducible refine qW (T := TT) (b := ?_) ?_ ?_); rotate_left; exact rfl) | (with_reducible first | refine qX ?_ | refine qY ?_ | refine qZ ?_) | (with_reducible first | refine qI ?_ | refine qIx ?_ | fail) | ((with_reducible refine yS ?_ ?_) <;> (intro h; try simp only [NM] at h)))
    simp -dsimp (disch := (first | omega | (simp only [LN]; omega))) only [retQ, Tryd.results62, resVals, cellRV, resOf, St.rest, St.freeze, RT, go_sem, ↓reduceIte, seval]
    simp [hk]
theorem instEqual_sat (a b : Inst) (ha : InstFits a) (hb : InstFits b) : Sat Tryd.prog 23 [.one (eInst a), .one (eInst b)] (.v (oB (decide (a = b)))) := by
  refine sat_of_body tyOk Tryd.func23 rfl (by kernel_rfl) ⟨Nat.le_of_ble_eq_true rfl, Nat.le_of_ble_eq_true rfl⟩ fun w0 m0 F0 => ?_
  simp only [Tryd.ntmps23, envOf, Nat.reduceAdd]
  repeat' (first | ((first | with_reducible refine qV tyOk fun K hK => ?_ | (with_reducible first | refine qG ?_ | refine qH ?_ | refine qP ?_ | refine qGx ?_ | refine qHx ?_ | refine qPx ?_) | ((with_reducible first | refine qS ?_ ?_ | refine qT ?_ ?_ | refine qU ?_ ?_) <;> (intro h; try simp only [NM] at h)) | with_reducible refine yD tyOk mixed 6 (by kernel_rfl) fun K hK => ?_ | ((with_reducible refine CallJ.is ?_); (first | refine CallJ.pure (equalFuncRel_sat a b ha hb) ?_ | ((apply CallJ.lentI); (focus (simp -dsimp (disch := (first | omega | (simp only [LN]; omega))) only [go_sem, ↓reduceIte, seval]; rfl)); (focus (first | exact (equalFuncRel_sat a b ha hb)))))) | ((with_reducible refine CallH.is ?_); (first | refine CallH.intro (equalFuncRel_sat a b ha hb) ?_))) <;> simp -dsimp (disch := (first | omega | (simp only [LN]; omega))) only [go_sem, ↓reduceIte, seval]) | ((with_reducible refine hK _ ?_); clear hK K) | (with_reducible first | refine qA ?_ | refine qB ?_ | refine qC ?_ | refine qD ?_ | refine qE ?_ | refine qF ?_ | refine qL ?_ | refine qM ?_ | refine qN ?_ | refine qO ?_ | refine qQ ?_) | refine qR rfl ?_ | (with_reducible refine AI ?_) | ((with_reducible refine qW (T := TT) (b := ?_) ?_ ?_); rotate_left; exact rfl) | (with_reducible first | refine qX ?_ | refine qY ?_ | refine qZ ?_) | (with_reducible first | refine qI ?_ | refine qIx ?_ | fail) | ((with_reducible refine yS ?_ ?_) <;> (intro h; try simp only [NM] at h)))
  simp -dsimp (disch := (first | omega | (simp only [LN]; omega))) only [retQ, Tryd.results23, resVals, cellRV, resOf, St.rest, St.freeze, RT, go_sem, ↓reduceIte, seval]

section
variable {w : World}
theorem cells_Change : Tryd.prog.cellsOf 66 = 4 := by kernel_rfl
theorem ChgsOk.fits {l : List Chg} (h : ChgsOk l) : ChgsFit l := by
  obtain ⟨a1, a2⟩ := h
  rw [reachBytes_eq] at a1
  refine ⟨by omega, fun c hc => ?_⟩
  obtain ⟨_, _, ⟨b1, _⟩, ⟨b2, _⟩⟩ := a2 c hc
  rw [reachBytes_eq] at b1 b2
  omega
end

theorem instFits_of {s : Sch} {i : Inst} (hs : Small s) (h : confE s i = 0) : InstFits i := by
  obtain ⟨h1, _⟩ := (confE_zero s i).1 h
  have := hs.tables
  exact ⟨by omega, confFits hs h⟩
theorem applyE_zero {s : Sch} {i : Inst} {cs : List Chg} (h : (applyE s i cs).1 = 0) : schE s = 0 ∧ confE s i = 0 ∧ cs.length ≤ 24 ∧ applyE s i cs = applyL s i cs := by
  unfold applyE at h ⊢
  split at h
  · rename_i g; exact absurd h g
  rename_i g0
  split at h
  · rename_i g; exact absurd h g
  rename_i g1
  split at h
  · cases h
  rename_i g2
  exact ⟨by simpa using g0, by simpa using g1, by omega, by rw [if_neg g0, if_neg g1, if_neg g2]⟩
theorem applyE_conf {s : Sch} {i : Inst} {cs : List Chg} (h : (applyE s i cs).1 = 0) : confE s (applyE s i cs).2 = 0 := by
  obtain ⟨_, h2, _, h4⟩ := applyE_zero h
  rw [h4] at h ⊢
  exact applyL_conf h2 h

theorem ChgsFit.take {cs : List Chg} (h : ChgsFit cs) (n : Nat) : ChgsFit (cs.take n) := ⟨by have := h.1; rw [List.length_take]; omega, fun c hc => h.2 c (List.mem_of_mem_take hc)⟩
theorem ChgsFit.drop {cs : List Chg} (h : ChgsFit cs) (n : Nat) : ChgsFit (cs.drop n) := ⟨by have := h.1; rw [List.length_drop]; omega, fun c hc => h.2 c (List.mem_of_mem_drop hc)⟩

theorem applyE_bad {s : Sch} {i : Inst} {cs : List Chg} (h : (applyE s i cs).1 ≠ 0) : (applyE s i cs).2 = [] := by
  unfold applyE at h ⊢
  split
  · rfl
  rename_i g0
  split
  · rfl
  rename_i g1
  split
  · rfl
  rename_i g2
  rw [if_neg g0, if_neg g1, if_neg g2] at h
  exact applyL_bad h
theorem applyE_fits {s : Sch} {i : Inst} {cs : List Chg} : InstFits (applyE s i cs).2 := by
  by_cases h : (applyE s i cs).1 = 0
  · exact instFits_of (small_of (applyE_zero h).1) (applyE_conf h)
  · rw [applyE_bad h]
    exact ⟨by simp, fun r hr => by cases hr⟩
theorem ChgsFit.append {a b : List Chg} (ha : ChgsFit a) (hb : ChgsFit b) (h : a.length + b.length ≤ 24) : ChgsFit (a ++ b) :=
  ⟨by rw [List.length_append]; omega, fun c hc => (List.mem_append.1 hc).elim (ha.2 c) (hb.2 c)⟩

section
open Go.Proofs Go.RowKit

theorem sat_of_calls {P : Program} {f : FuncId} {fn : Func} {c : Code} {xs : List V} {args : List Value} {v : Value} {r : A} (hf : P.funcs[f]? = some fn) (hb : fn.body = some c) (hn : (fn.name == "runtime.NumGoroutine") = false)
    (ha : ∀ m ω vs, ArgsRep m ω vs xs → vs = args) (hr : ∀ m ω, ARep m ω v r)
    (h : ∀ w, LaidW P w → Calls P f args.toArray w fun e w' => e = .returned v ∧ Below w.heap.size w w') : Sat P f xs r := by
  refine ⟨fun m w vs ω hC hA => ?_⟩
  have e := ha _ _ _ hA
  subst e
  refine .inr ⟨?_, (h w (hC.good w (Keeps.refl _ _))).mono fun e w' ⟨he, hw⟩ => ⟨v, he, m, ω, hC.grow hw (Mem.le_refl m) (fun _ _ => rfl) (fun x u hx => (hw.cell (World.block_lt_of_cell? w x (hC.ok x u hx))).trans (hC.ok x u hx)), hr m ω⟩⟩
  simp only [callFunc, Sem.run_bind, program, Sem.run, Result.andThen_ok, hf]
  rw [hn, hb]
  simp
theorem args1 {m : Mem} {ω : Wh} {vs : List Value} {l : L} {u : Value} (hA : ArgsRep m ω vs [.one l]) (h : ∀ v, ERep m ω v l → v = u) : vs = [u] := by
  obtain ⟨h1, h2⟩ := hA
  obtain ⟨v, h3, h4⟩ := h2 0 (.one l) rfl
  match vs, h1, h3 with
  | [x], _, h3 =>
    simp only [List.getElem?_cons_zero, Option.some.injEq] at h3
    subst h3
    rw [h x h4]
theorem erep_int {m : Mem} {ω : Wh} {v : Value} {k : IntKind} {n : Int} (h : ERep m ω v (.int k n)) : v = .int k n := by
  have h : Rep m v (.int k n) := h
  cases h; rfl
def itoaB (n : Int) : ByteArray := ⟨(Lib.itoa n).toArray⟩
theorem itoa_sat (n : Int) (h0 : -9223372036854775808 ≤ n) (h1 : n ≤ 9223372036854775807) : Sat Tryd.prog 39 [.one (.int .i64 n)] (.v (.one (.str (itoaB n)))) :=
  sat_of_calls (args := [.int .i64 n]) (v := .string (itoaB n)) Tryd.func39 rfl (by kernel_rfl) (fun m ω vs hA => args1 hA fun v h => erep_int h) (fun m ω => Rep.str _) fun w hw =>
    (Tryd.strconv_Itoa n h0 h1 w (hw.pow (by kernel_rfl))).mono fun e w' ⟨he, k, os, hk⟩ => ⟨he, hk ▸ Lib.below_grow _ w (Nat.le_refl _) k os⟩
end

section
open Go.RowKit
section
variable {P : Program} {T : TypeId → Option TI} {w0 : World} {m0 : Mem} {F0 : Home} {s s' : St} {a : Act} {w w' : World} {m : Mem} {ω : Wh}

theorem ERep.whf {m : Mem} {ω : Wh} (f : Bool → Nat → Nat → Prop) {v : Value} {l : L} (h : ERep m ω v l) : ERep m { ω with f := f } v l := by
  cases l <;> exact h
theorem VRep.whf {m : Mem} {ω : Wh} (f : Bool → Nat → Nat → Prop) {v : Value} {x : V} (h : VRep m ω v x) : VRep m { ω with f := f } v x := by
  cases x with
  | one l => exact ERep.whf f h
  | agg ls => obtain ⟨cs, h1, h2, h3⟩ := h; exact ⟨cs, h1, h2, fun j l hl => let ⟨u, h4, h5⟩ := h3 j l hl; ⟨u, h4, h5.whf f⟩⟩
theorem ARep.whf {m : Mem} {ω : Wh} (f : Bool → Nat → Nat → Prop) {v : Value} {x : A} (h : ARep m ω v x) : ARep m { ω with f := f } v x := by
  cases x with
  | v x => exact VRep.whf f h
  | tup xs => obtain ⟨vs, h1, h2, h3⟩ := h; exact ⟨vs, h1, h2, fun j x hx => let ⟨u, h4, h5⟩ := h3 j x hx; ⟨u, h4, h5.whf f⟩⟩
theorem XRep.whf {m : Mem} {w : World} {ω : Wh} (f : Bool → Nat → Nat → Prop) {G : Nat → Prop} {v : Value} {l : L} (h : XRep m w ω G v l) : XRep m w { ω with f := f } G v l := by
  rcases h.cases with ⟨sz, xs, rfl, h⟩ | ⟨_, h⟩ | ⟨t, q, rfl, h⟩
  · exact h
  · exact (h.whf f).xrep
  · exact h
theorem RCell.whf {m : Mem} {w : World} {ω : Wh} (f : Bool → Nat → Nat → Prop) {G : Nat → Prop} {v : Value} {u : L} {o : Option L} (h : RCell m w ω G v u o) : RCell m w { ω with f := f } G v u o := by
  cases o with
  | none => exact h
  | some l => exact ERep.whf (ω := ω) f h
theorem CI.boxGrow (h : CI P w0 m0 F0 s a w m ω) {id : Nat} {ls0 ls : List L} (hb : look s.box id = some ls0)
    (hos : w'.os = w.os) (htp : w'.tape = w.tape) (hout : w'.output = w.output) (hsz : w.heap.size ≤ w'.heap.size) (hk : ∀ k, k < w.heap.size → ¬ ω.f false id k → w'.heap[k]? = w.heap[k]?)
    {cs : Array Value} {e : TypeId} (hh : w'.heap[ω.box id]? = some (.cells cs e (0, 0))) (hs : cs.size = ls.length) (G : Nat → Nat → Prop)
    (hG : ∀ j k, G j k → (ω.f false id k ∨ (w.heap.size ≤ k ∧ k < w'.heap.size)) ∧ k ≠ ω.box id) (hD : ∀ j j' k, G j k → G j' k → j = j')
    (hc : ∀ (j : Nat) (l : L), ls[j]? = some l → ∃ v, cs[j]? = some v ∧ XRep m w' ω (G j) v l) :
    ∃ ω', CI P w0 m0 F0 { s with box := sput id ls s.box } a w' m ω' ∧ ω'.box = ω.box ∧ ω'.row = ω.row := by
  obtain ⟨cs0, e0, g1, g2, g3, _⟩ := h.box id ls0 hb
  have hlive : s.live false id := by show (look s.box id).isSome; rw [hb]; rfl
  have hf := h.fresh false id hlive
  have hl' : ∀ κ i, ({ s with box := sput id ls s.box } : St).live κ i → s.live κ i := by
    intro κ i hl
    cases κ with
    | true => exact hl
    | false =>
      simp only [St.live] at hl ⊢
      rw [look_sput] at hl
      split at hl
      · rename_i e; subst e; rw [hb]; rfl
      · exact hl
  let f' : Bool → Nat → Nat → Prop := fun κ i k => ω.f κ i k ∨ (κ = false ∧ i = id ∧ w.heap.size ≤ k ∧ k < w'.heap.size)
  have hlt : ∀ κ i, s.live κ i → ∀ k, ω.f κ i k → k < w.heap.size := fun κ i hl k hk => (h.fresh κ i hl k hk).1
  have hf' : ∀ κ i, ¬ (κ = false ∧ i = id) → f' κ i = ω.f κ i := fun κ i hn => by
    funext k
    simp only [f', eq_iff_iff]
    exact ⟨fun h => h.elim (fun h => h) fun h => absurd ⟨h.1, h.2.1⟩ hn, fun h => .inl h⟩
  refine ⟨{ ω with f := f' }, ?_, rfl, rfl⟩
  refine { size := h.size, defers := h.defers, keeps := ⟨hos.trans h.keeps.os, htp.trans h.keeps.tape, hout.trans h.keeps.output, Nat.le_trans h.keeps.size hsz, fun k h1 h2 => ?_⟩, mle := h.mle, mold := h.mold, ok := fun x v hx => ?_, env := fun t x hx => (h.env t x hx).whf f', box := ?_, row := ?_, fresh := ?_, apart := ?_, home := ⟨h.home.big, fun i b hb' hi => h.home.box i b hb' (hl' false i hi), h.home.row⟩, good := h.good }
  · have hk1 : k < w.heap.size := Nat.lt_of_lt_of_le h1 h.keeps.size
    rw [hk k hk1 fun hw => by
      rcases (hf k hw).2.1 with h3 | h3
      · omega
      · exact h2 h3]
    exact h.keeps.block k h1 h2
  · have hx' := h.ok x v hx
    rw [World.cell?_of_block (hk x.block (World.block_lt_of_cell? w x hx') fun hw => (hf _ hw).2.2 x v hx rfl)]
    exact hx'
  · intro i l hi
    simp only at hi
    rw [look_sput] at hi
    split at hi
    · rename_i e'
      injection hi with hi
      subst hi; subst e'
      exact ⟨cs, e, hh, hs, .inl g3, G, fun j k hj => ⟨(hG j k hj).1.imp (fun q => q) fun q => ⟨rfl, rfl, q.1, q.2⟩, (hG j k hj).2⟩, hD, fun j l hj => let ⟨v, h1, h2⟩ := hc j l hj; ⟨v, h1, h2.whf f'⟩⟩
    · rename_i hne
      obtain ⟨cs1, e1, k1, k2, k3, G1, k4, k5, k6⟩ := h.box i l hi
      have hli : s.live false i := by show (look s.box i).isSome; rw [hi]; rfl
      have keep : ∀ k, ω.f false i k → w'.heap[k]? = w.heap[k]? := fun k hw => hk k (hlt _ _ hli k hw) fun hw' => hne (h.apart _ _ _ _ hli hlive k hw hw').2
      refine ⟨cs1, e1, (keep _ k3).trans k1, k2, .inl k3, G1, fun j k hj => ⟨.inl (k4 j k hj).1, (k4 j k hj).2⟩, k5, fun j u hj => ?_⟩
      obtain ⟨v, q1, q2⟩ := k6 j u hj
      exact ⟨v, q1, (q2.keep (Mem.le_refl m) fun k hw => keep k (k4 j k hw).1).whf f'⟩
  · intro i r hi
    have hli : s.live true i := by show (look s.row i).isSome; rw [hi]; rfl
    have keep : ∀ k, ω.f true i k → w'.heap[k]? = w.heap[k]? := fun k hw => hk k (hlt _ _ hli k hw) fun hw' => by cases (h.apart _ _ _ _ hli hlive k hw hw').1
    obtain ⟨q1, q2, q3⟩ := h.row i r hi
    refine ⟨q1, q2, ?_⟩
    revert q3
    show (match (ω.row i).blk with | Option.none => _ | some b => _) → (match (ω.row i).blk with | Option.none => _ | some b => _)
    cases hblk : (ω.row i).blk with
    | none => exact fun q3 => q3
    | some b =>
      intro q3
      obtain ⟨cs1, e1, k1, k2, k3, k4, k5, G1, k6, k7, k8⟩ := q3
      refine ⟨cs1, e1, (keep _ k5).trans k1, k2, k3, k4, .inl k5, G1, fun i' j k hj => ⟨.inl (k6 i' j k hj).1, (k6 i' j k hj).2⟩, k7, fun i' j u hj => ?_⟩
      obtain ⟨v, p1, p2⟩ := k8 i' j u hj
      exact ⟨v, p1, (p2.keep (Mem.le_refl m) fun k hw => keep k (k6 i' j k hw).1).whf f'⟩
  · intro κ i hl k hw
    rcases hw with hw | ⟨rfl, rfl, h1, h2⟩
    · obtain ⟨p1, p2, p3⟩ := h.fresh κ i (hl' κ i hl) k hw
      exact ⟨Nat.lt_of_lt_of_le p1 hsz, p2, p3⟩
    · refine ⟨h2, .inl (Nat.le_trans h.keeps.size h1), fun x v hx e => ?_⟩
      have := World.block_lt_of_cell? w x (h.ok x v hx)
      omega
  · intro κ i κ' i' hl hl2 k hw hw'
    have l1 := hl' κ i hl
    have l2 := hl' κ' i' hl2
    rcases hw with hw | ⟨rfl, rfl, h1, h2⟩ <;> rcases hw' with hw' | ⟨rfl, rfl, h3, h4⟩
    · exact h.apart κ i κ' i' l1 l2 k hw hw'
    · have := hlt _ _ l1 k hw; omega
    · have := hlt _ _ l2 k hw'; omega
    · exact ⟨rfl, rfl⟩
end
end

section
open Go.Proofs Go.RowKit Go.Shelf

abbrev tB : TypeId := 5
theorem bytesAt_of {w : World} {G : Nat → Prop} {v : Value} {t : TypeId} {l : List UInt8} (h : ByT w G v t l) : BytesAt w t v l.length (Lib.byteCells l) := by
  refine ⟨Lib.byteCells_length l, ?_⟩
  rcases h with ⟨rfl, rfl⟩ | ⟨g, cap, cur, _, h1, h2, h3, h4, h5, h6⟩
  · exact .inl ⟨rfl, rfl⟩
  · exact .inr ⟨g, cap, cur, h1, h2, h3, h4, h5, h6⟩
theorem byT_own {w : World} {G : Nat → Prop} {v : Value} {t : TypeId} {l : List UInt8} (h : ByT w G v t l) {k : Nat} (hk : v.ownBlock = some k) : G k := by
  rcases h with ⟨rfl, rfl⟩ | ⟨g, cap, cur, h0, rfl, _⟩
  · cases hk
  · simp only [Value.ownBlock, Option.some.injEq] at hk
    exact hk ▸ h0
theorem byT_of {w : World} {v : Value} {t : TypeId} {l : List UInt8} {n : Nat} (h : BytesAt w t v n (Lib.byteCells l)) : ByT w (fun k => v.ownBlock = some k) v t l := by
  have hn : l.length = n := (Lib.byteCells_length l).symm.trans h.1
  subst hn
  rcases h.2 with ⟨rfl, h0⟩ | ⟨g, cap, cur, rfl, h2, h3, h4, h5, h6⟩
  · exact .inl ⟨List.eq_nil_of_length_eq_zero h0, rfl⟩
  · exact .inr ⟨g, cap, cur, rfl, rfl, h2, h3, h4, h5, h6⟩
theorem erep_str' {m : Mem} {ω : Wh} {v : Value} {s : ByteArray} (h : ERep m ω v (.str s)) : v = .string s := by
  have h : Rep m v (.str s) := h
  cases h; rfl
theorem ws_call {P : Program} {f : FuncId} {fn : Func} {c : Code} {args : Array Value} {w : World} {R : Value → World → Prop} (hf : P.funcs[f]? = some fn) (hb : fn.body = some c) (hn : (fn.name == "runtime.NumGoroutine") = false)
    (h : Calls P f args w fun e w' => ∃ v, e = .returned v ∧ R v w') : CallsR P f args w R := by
  refine .inr ⟨?_, h⟩
  simp only [callFunc, Sem.run_bind, program, Sem.run, Result.andThen_ok, hf]
  rw [hn, hb]
  simp
theorem args2 {m : Mem} {ω : Wh} {vs : List Value} {x y : L} (hA : ArgsRep m ω vs [.one x, .one y]) : ∃ a b, vs = [a, b] ∧ ERep m ω a x ∧ ERep m ω b y := by
  obtain ⟨h1, h2⟩ := hA
  match vs, h1 with
  | [a, b], _ =>
    obtain ⟨a', ha, ha'⟩ := h2 0 _ rfl
    obtain ⟨b', hb, hb'⟩ := h2 1 _ rfl
    simp only [List.getElem?_cons_zero, List.getElem?_cons_succ, Option.some.injEq] at ha hb
    subst ha; subst hb
    exact ⟨_, _, rfl, ha', hb'⟩
theorem bld_box {m : Mem} {w : World} {ω : Wh} {id : Nat} {c : L} {t : TypeId} {l : List UInt8} (h : BoxRep m w ω id [c, .byt t l]) :
    ∃ p v e, w.heap[ω.box id]? = some (.cells #[p, v] e (0, 0)) ∧ ω.f false id (ω.box id) ∧ (∃ G0, XRep m w ω G0 p c) ∧ BytesAt w t v l.length (Lib.byteCells l) ∧ v.ownBlock ≠ some (ω.box id) ∧ ∀ k, v.ownBlock = some k → ω.f false id k := by
  obtain ⟨cs, e, h1, h2, h3, G, h4, h5, h6⟩ := h
  obtain ⟨p, hp, xp⟩ := h6 0 c rfl
  obtain ⟨v, hv, xv⟩ := h6 1 (.byt t l) rfl
  have hcs : cs = #[p, v] := by
    obtain ⟨L⟩ := cs
    match L, h2 with
    | [a, b], _ =>
      simp only [List.getElem?_toArray, List.getElem?_cons_zero, List.getElem?_cons_succ, Option.some.injEq] at hp hv
      rw [hp, hv]
  subst hcs
  have xv : ByT w (G 1) v t l := xv
  exact ⟨p, v, e, h1, h3, ⟨_, xp⟩, bytesAt_of xv, fun e' => (h4 1 _ (byT_own xv e')).2 rfl, fun k hk => (h4 1 k (byT_own xv hk)).1⟩
theorem bld_after {P : Program} {w0 : World} {m0 : Mem} {F0 : Home} {s : St} {a : Act} {w w' : World} {m : Mem} {ω : Wh} {id : Nat} {ls0 : List L} {t e : TypeId} {l : List UInt8} {n : Nat} {v v' : Value}
    (h : CI P w0 m0 F0 s a w m ω) (hb : look s.box id = some ls0) (hf : ω.f false id (ω.box id)) (ho : ∀ k, v.ownBlock = some k → ω.f false id k)
    (h1 : w'.heap[ω.box id]? = some (.cells #[.pointer (some ⟨ω.box id, 0, none⟩), v'] e (0, 0))) (h2 : BytesAt w' t v' n (Lib.byteCells l)) (h3 : v'.ownBlock ≠ some (ω.box id)) (h4 : Moved w w' v v') (h5 : KeptBut (fun k => k = ω.box id ∨ v.ownBlock = some k) w w') :
    ∃ ω', CI P w0 m0 F0 { s with box := sput id [.ptr id 0, .byt t l] s.box } a w' m ω' ∧ ω'.box = ω.box ∧ ω'.row = ω.row := by
  refine h.boxGrow hb h5.os h5.tape h5.output h5.size (fun k hk hn => h5.block k hk ?_) h1 rfl (fun j k => j = 1 ∧ v'.ownBlock = some k) (fun j k hj => ⟨?_, fun e' => h3 (e' ▸ hj.2)⟩) (fun j j' k hj hj' => hj.1.trans hj'.1.symm) fun j x hx => ?_
  · rintro (rfl | hk2)
    · exact hn hf
    · exact hn (ho k hk2)
  · rcases h4 with h4 | ⟨k', h6, h7, h8⟩
    · exact .inl (ho k (h4 ▸ hj.2))
    · rw [h6] at hj
      obtain ⟨_, hj⟩ := hj
      injection hj with hj
      subst hj
      exact .inr ⟨h7, h8⟩
  · match j, hx with
    | 0, hx =>
      simp only [List.getElem?_cons_zero, Option.some.injEq] at hx
      subst hx
      exact ⟨_, rfl, rfl⟩
    | 1, hx =>
      simp only [List.getElem?_cons_succ, List.getElem?_cons_zero, Option.some.injEq] at hx
      subst hx
      refine ⟨_, rfl, ?_⟩
      have q := byT_of h2
      show ByT w' (fun k => 1 = 1 ∧ v'.ownBlock = some k) v' t l
      refine q.imp (fun q => q) fun ⟨g, cap, cur, q1, q2⟩ => ⟨g, cap, cur, ⟨rfl, q1⟩, q2⟩
    | k + 2, hx => simp at hx
theorem strCells_bytes (s : ByteArray) : Lib.strCells s = Lib.byteCells s.data.toList := rfl
theorem byteCells_app (a b : List UInt8) : Lib.byteCells a ++ Lib.byteCells b = Lib.byteCells (a ++ b) := by simp [Lib.byteCells]
theorem arep_ws {m : Mem} {ω : Wh} (n : Int) : ARep m ω (.tuple #[.int .i64 n, .nilIface]) (.tup [.one (.int .i64 n), .one .any]) := by
  refine ⟨_, rfl, rfl, fun j x hx => ?_⟩
  match j, hx with
  | 0, hx =>
    simp only [List.getElem?_cons_zero, Option.some.injEq] at hx
    subst hx
    exact ⟨_, rfl, Rep.int _ _⟩
  | 1, hx =>
    simp only [List.getElem?_cons_succ, List.getElem?_cons_zero, Option.some.injEq] at hx
    subst hx
    exact ⟨_, rfl, Rep.any _ rfl⟩
  | k + 2, hx => simp at hx
theorem writeString_satM (l : List UInt8) (s : ByteArray) (hlen : l.length + s.size ≤ 140737488355328) :
    SatM Tryd.prog 38 [.one (.ptr 1000 0), .one (.str s)] [(1000, [.ptr 1000 0, .byt tB l])] [] (.tup [.one (.int .i64 s.size), .one .any]) [(1000, [.ptr 1000 0, .byt tB (l ++ s.data.toList)])] [] := by
  refine ⟨fun m w vs ω hC hA => ?_⟩
  obtain ⟨a, b, rfl, ha, hb⟩ := args2 hA
  have ha : a = .pointer (some ⟨ω.box 1000, 0, none⟩) := ha
  have hb : b = .string s := erep_str' hb
  subst ha; subst hb
  obtain ⟨p, v, e, h1, h2, ⟨G0, h3⟩, h4, h5, h6⟩ := bld_box (hC.box 1000 _ rfl)
  have h3 : p = .pointer (some ⟨ω.box 1000, 0, none⟩) := h3
  subst h3
  refine ws_call Tryd.func38 rfl (by kernel_rfl) ((Any.ws_used Tryd.bld166 Tryd.bldX (ω.box 1000) e v l.length (Lib.byteCells l) s w h1 h4 h5 hlen).mono fun en w' ⟨he, v', k1, k2, k3, k4, k5⟩ => ⟨_, he, ?_⟩)
  rw [strCells_bytes, byteCells_app] at k2
  obtain ⟨ω', q1, q2, q3⟩ := bld_after hC rfl h2 h6 k1 k2 k3 k4 k5
  exact ⟨m, ω', q1, arep_ws _⟩
theorem string_satM (l : List UInt8) (h0 : l ≠ []) : SatM Tryd.prog 40 [.one (.ptr 1000 0)] [(1000, [.ptr 1000 0, .byt tB l])] [] (.v (.one (.str ⟨l.toArray⟩))) [] [] := by
  refine ⟨fun m w vs ω hC hA => ?_⟩
  obtain rfl : vs = [.pointer (some ⟨ω.box 1000, 0, none⟩)] := args1 hA fun v h => h
  obtain ⟨p, v, e, h1, h2, ⟨G0, h3⟩, h4, h5, h6⟩ := bld_box (hC.box 1000 _ rfl)
  refine ws_call Tryd.func40 rfl (by kernel_rfl) ((Any.str_all Tryd.bld169 Tryd.bldX (ω.box 1000) e p v l w h1 h4 h0).mono fun en w' ⟨he, g, k1, k2⟩ => ⟨_, he, ?_⟩)
  have hlive : (roots [(1000, [L.ptr 1000 0, .byt tB l])] []).live false 1000 := rfl
  obtain ⟨f1, f2, f3⟩ := hC.fresh false 1000 hlive g (h6 g k1)
  have hW : CI Tryd.prog w m (handed [(1000, [L.ptr 1000 0, .byt tB l])] [] ω) (roots [] []) a0 w m ω := hC.weaken rfl (fun _ _ h => h) (fun i ls h => by cases h) (fun i ls h => by cases h)
  exact ⟨m, ω, hW.touch k2 f2 (fun κ id hl => by cases κ <;> cases hl) f3, Rep.str _⟩
end

section
open Go.Proofs Go.RowKit Go.Shelf

section
variable {P : Program} {T : TypeId → Option TI} {w0 : World} {m0 : Mem} {F0 : Home} {s s' : St} {a : Act} {w w' : World} {m : Mem} {ω : Wh}
def StepsX (P : Program) (Q : Exit → Act → World → Prop) : List Oper → Act → World → (Act → World → Prop) → Prop
  | [], a, w, K => K a w
  | o :: l, a, w, K => o.guard = none ∧ o.wp P a w (fun a' w' => StepsX P Q l a' w' K) Q
theorem StepsX_sound {ops : Array Oper} {Q : Exit → Act → World → Prop} : ∀ (l : List Oper) (k : Nat) (a : Act) (w : World), ops.toList.drop k = l → StepsX P Q l a w (Q .normal) → wpOps P ops Q (List.range' k l.length) a w
  | [], k, a, w, _, h => h
  | o :: l, k, a, w, hl, h => by
    have hk : ops[k]? = some o := by
      have : (ops.toList.drop k)[0]? = some o := by rw [hl]; rfl
      simpa [List.getElem?_drop] using this
    have hl' : ops.toList.drop (k + 1) = l := by
      have : (ops.toList.drop k).drop 1 = l := by rw [hl]; rfl
      simpa [List.drop_drop] using this
    obtain ⟨hg, h⟩ := h
    simp only [List.length_cons, List.range'_succ, wpOps, hk]
    have hw : Region.wanted o (yielded ops a.tmps) = true := by simp [Region.wanted, hg]
    rw [if_pos hw]
    exact .inl (Oper.wp_mono (fun a' w' h => StepsX_sound l (k + 1) a' w' hl' h) h)
theorem wp_regionX {id : Nat} {l : List Oper} {Q : Exit → Act → World → Prop} (h : StepsX P Q l a w (Q .normal)) : (Code.region id l.toArray false).wp P Q a w := by
  refine wp_region ?_
  have := StepsX_sound (ops := l.toArray) l 0 a w (by simp) h
  have hlen : l.length = l.toArray.size := by simp
  rwa [← List.range_eq_range', hlen] at this
theorem run_alloc {o : Oper} {e : TypeId} {inf : TypeInfo} {z : Value} (ho : o.op = .alloc e) (g1 : P.info? e = some inf) (g2 : inf.zero = some z) :
    (execOp a.eval o).run P w = .ok (.value (.pointer (some ⟨w.heap.size, 0, none⟩))) (w.alloc (.cells z.cells e (0, 0))) := by
  unfold execOp
  simp only [ho, Instr.alloc, zeroValue, typeInfo, program, newVar, newRow, newObj, Sem.run_bind, Sem.run, Result.andThen_ok, Sem.run_pure, g1, g2]
  rfl
theorem gives_callK {o : Oper} {c : Call} {f : FuncId} {xs : List V} {r : A} (ho : o.op = .call c) (h : CI P w0 m0 F0 s a w m ω) (hc : callOf T s c = some (f, xs)) (hS : Sat P f xs r) :
    Gives P o a w fun v w' => ∃ m', CI P w0 m0 F0 s a w' m' ω ∧ ARep m' ω v (r.map L.clos) ∧ ∀ k, k < w.heap.size → w'.heap[k]? = w.heap[k]? := by
  obtain ⟨vs, h1, h2⟩ := callOf_sound ho h hc
  refine (gives_of_callsR h1 (hS.call m w vs ω (CI.none h.goodN h.ok) h2)).mono fun v w' hp => ?_
  obtain ⟨m', ω', hC, hv⟩ := hp
  exact ⟨m', h.grow ⟨hC.keeps.os, hC.keeps.tape, hC.keeps.output, hC.keeps.size, fun k hk => hC.keeps.block k hk owned_none⟩ hC.mle (fun x hx => hC.mold x hx owned_none) hC.ok, hv.map fun v l hl => L.clos_e hl, fun k hk => hC.keeps.block k hk owned_none⟩
end

abbrev tBld : TypeId := 84
set_option maxHeartbeats 2000000 in
theorem bld_start {w0 : World} {m0 : Mem} {F0 : Home} {Q : Exit → St → Prop} {c : Code} {i1 i2 : Nat} {o1 o2 o3 o4 o5 : Oper} {e : ByteArray} {sz : Nat} {xs : List (List L)} (hl : xs.length ≤ 1048576)
    (h1 : o1.op = .alloc tBld ∧ o1.dst = some 3 ∧ o1.guard = none) (h2 : o2.op = .move (.tmp 0) ∧ o2.dst = some 6 ∧ o2.guard = none)
    (h3 : o3.op = .call { callee := .builtin .len, args := #[.tmp 6], argTypes := #[28] } ∧ o3.dst = some 7 ∧ o3.guard = none)
    (h4 : o4.op = .call { callee := .value (.func 39), args := #[.tmp 7], argTypes := #[3] } ∧ o4.dst = some 8 ∧ o4.guard = none)
    (h5 : o5.op = .call { callee := .value (.func 38), args := #[.tmp 3, .tmp 8], argTypes := #[tBld, 9] } ∧ o5.dst = some 9 ∧ o5.guard = none)
    (H : AWP Tryd.prog w0 m0 F0 c Q ⟨38, [(0, .v (.one (.sl sz xs))), (3, .v (.one (.ptr 3 0)))], [(3, [.ptr 3 0, .byt tB (Lib.itoa xs.length)])], []⟩) :
    AWP Tryd.prog w0 m0 F0 (.seq (.region i1 #[o1] false) (.seq (.region i2 #[o2, o3, o4, o5] false) c)) Q ⟨38, [(2, .v (.one (.str e))), (0, .v (.one (.sl sz xs)))], [], []⟩ := by
  intro a w ⟨m, ω, hC⟩
  refine wp_seq (wp_regionX (l := [o1]) ⟨h1.2.2, ?_⟩)
  -- the new builder
  have hT : tiOk Tryd.prog tBld _ = true := tyOk tBld _ rfl
  obtain ⟨inf, z, g1, g2, g3, _⟩ := (tiFacts hT).zero _ rfl
  have hz : z.cells = #[.pointer none, .slice none 0 0] := by
    have e1 : (Tryd.prog.info? tBld).map (·.zero) = some (some (.agg #[.pointer none, .slice none 0 0])) := by kernel_rfl
    rw [g1] at e1
    have e2 : some z = some (.agg #[.pointer none, .slice none 0 0]) := g2.symm.trans (Option.some.inj e1)
    rw [Option.some.inj e2]
    rfl
  have hrun := run_alloc (P := Tryd.prog) (a := a) (w := w) h1.1 g1 g2
  refine gives_of_run (R := fun v w' => v = .pointer (some ⟨w.heap.size, 0, none⟩) ∧ w' = w.alloc (.cells z.cells tBld (0, 0))) hrun ⟨rfl, rfl⟩ _ _ fun v w1 ⟨hv, hw1⟩ => ?_
  obtain ⟨ω1, hC1, hb1⟩ := hC.newBox 3 (by show 3 < 38; decide) z.cells tBld [.nilp, .nil 1] (by rw [hz]; rfl) fun j l hj => by
    rw [hz]
    match j, hj with
    | 0, hj => simp only [List.getElem?_cons_zero, Option.some.injEq] at hj; subst hj; exact ⟨_, rfl, Rep.nilp⟩
    | 1, hj => simp only [List.getElem?_cons_succ, List.getElem?_cons_zero, Option.some.injEq] at hj; subst hj; exact ⟨_, rfl, Rep.nil _⟩
    | k + 2, hj => simp at hj
  rw [← hw1] at hC1
  have hblk : w1.heap[ω1.box 3]? = some (.cells #[.pointer none, .slice none 0 0] tBld (0, 0)) := by
    rw [hw1, hb1, hz]
    exact heap_alloc_new w _
  clear hrun hw1
  have hC2' := hC1.put (d := 3) (v := v) (x := .v (.one (.ptr 3 0))) (by show 3 < 38; decide) (by rw [hv]; show _ = _; rw [hb1])
  have hC2 : CI Tryd.prog w0 m0 F0 ⟨38, [(3, .v (.one (.ptr 3 0))), (0, .v (.one (.sl sz xs)))], [(3, [.nilp, .nil 1])], []⟩ (a.put (some 3) v) w1 m ω1 := by
    exact hC2'.weaken rfl (allIn_look ⟨rfl, rfl, trivial⟩) (allIn_look ⟨rfl, trivial⟩) (fun t x ht => by cases ht)
  clear hC2' hC1
  rw [h1.2.1]
  refine wp_seq (wp_regionX (l := [o2, o3, o4, o5]) ⟨h2.2.2, ?_⟩)
  -- the row, its length
  obtain ⟨_, k2⟩ := givesA_move (P := Tryd.prog) (T := TT) (o := o2) h2.1 hC2 (y := .v (.one (.sl sz xs))) rfl
  obtain ⟨v2, m2, r2, hC3, a2⟩ := k2 (by simp [plainOp, h2.1])
  refine gives_of_run (R := fun v w' => v = v2 ∧ w' = w1) r2 ⟨rfl, rfl⟩ _ _ fun v' w' ⟨e1, e2⟩ => ?_
  rw [e1, e2]
  clear e1 e2
  rw [h2.2.1]
  have hC4 := hC3.put (d := 6) (by show 6 < 38; decide) a2
  refine ⟨h3.2.2, ?_⟩
  obtain ⟨_, k3⟩ := givesA_len (P := Tryd.prog) (T := TT) (o := o3) h3.1 (tyOk 28 _ rfl) hC4 (l := .sl sz xs) rfl rfl rfl
  obtain ⟨v3, m3, r3, hC5, a3⟩ := k3 (by simp [plainOp, h3.1])
  refine gives_of_run (R := fun v w' => v = v3 ∧ w' = w1) r3 ⟨rfl, rfl⟩ _ _ fun v' w' ⟨e1, e2⟩ => ?_
  rw [e1, e2]
  clear e1 e2
  rw [h3.2.1]
  have hC6 := hC5.put (d := 7) (by show 7 < 38; decide) a3
  -- the numeral
  refine ⟨h4.2.2, ?_⟩
  refine gives_callK (T := TT) h4.1 hC6 (f := 39) (xs := [.one (.int .i64 xs.length)]) rfl (itoa_sat xs.length (by omega) (by omega)) _ _ fun v4 w4 ⟨m4, hC7, a4, hk⟩ => ?_
  rw [h4.2.1]
  have hC8 := hC7.put (d := 8) (by show 8 < 38; decide) a4
  have hlt : ω1.box 3 < w1.heap.size := by
    rcases Nat.lt_or_ge (ω1.box 3) w1.heap.size with h' | h'
    · exact h'
    · rw [Array.getElem?_eq_none h'] at hblk; cases hblk
  have hblk4 := (hk _ hlt).trans hblk
  -- the first write
  refine ⟨h5.2.2, ?_⟩
  have hv4 : v4 = .string (itoaB xs.length) := erep_str' (ω := ω1) a4
  have hrun : ∀ aa : Act, aa.eval (.tmp 3) = .pointer (some ⟨ω1.box 3, 0, none⟩) → aa.eval (.tmp 8) = .string (itoaB xs.length) → (execOp aa.eval o5).run Tryd.prog w4 = (callFunc 38 #[.pointer (some ⟨ω1.box 3, 0, none⟩), .string (itoaB xs.length)]).run Tryd.prog w4 := by
    intro aa q1 q2
    have qf : aa.eval (.func 38) = .func (.func 38) #[] #[] := rfl
    unfold execOp
    simp only [h5.1, qf, resolve, Deferred.ofValue, Sem.run_bind, Sem.run_pure, Result.andThen_ok, invoke, List.map_toArray, List.map_cons, List.map_nil, q1, q2]
    congr 2
  have hsz : (itoaB xs.length).size = (Lib.itoa xs.length).length := by
    show (itoaB xs.length).data.size = _
    rw [← Array.length_toList]
    simp [itoaB]
  have hws := (Any.ws_fresh Tryd.bld166 Tryd.bldX (ω1.box 3) (.slice none 0 0) 0 [] (itoaB xs.length) w4 hblk4 ⟨rfl, .inl ⟨rfl, rfl⟩⟩ (by simp [Value.ownBlock]) (by rw [hsz]; have := Lib.itoa_length_le xs.length (by omega) (by omega); omega))
  have e0 : ([] : List Value) ++ Lib.strCells (itoaB xs.length) = Lib.byteCells (Lib.itoa xs.length) := by simp [strCells_bytes, itoaB]
  rw [e0] at hws
  have hcr := ws_call (R := fun v w' => v = .tuple #[.int .i64 (itoaB xs.length).size, .nilIface] ∧ ∃ v', w'.heap[ω1.box 3]? = some (.cells #[.pointer (some ⟨ω1.box 3, 0, none⟩), v'] tBld (0, 0)) ∧ BytesAt w' tB v' (0 + (itoaB xs.length).size) (Lib.byteCells (Lib.itoa xs.length)) ∧ v'.ownBlock ≠ some (ω1.box 3) ∧ Moved w4 w' (.slice none 0 0) v' ∧ KeptBut (fun k => k = ω1.box 3 ∨ (Value.slice none 0 0).ownBlock = some k) w4 w')
    Tryd.func38 rfl (by kernel_rfl) (hws.mono fun en w' ⟨he, h⟩ => ⟨_, he, rfl, h⟩)
  refine gives_of_callsR (hrun _ ?_ ?_) hcr _ _ fun v5 w5 ⟨hv5, v', k1, k2, k3, k4, k5⟩ => ?_
  · exact hC8.env 3 (.v (.one (.ptr 3 0))) rfl
  · exact erep_str' (ω := ω1) (hC8.env 8 (.v (.one (.str (itoaB xs.length)))) rfl)
  rw [h5.2.1]
  obtain ⟨_, _, _, _, hf3, _⟩ := hC8.box 3 [.nilp, .nil 1] rfl
  obtain ⟨ω', hC9, q2, q3⟩ := bld_after hC8 (id := 3) (ls0 := [.nilp, .nil 1]) rfl hf3 (fun k hk => by cases hk) k1 k2 k3 k4 k5
  have hC10 := hC9.put (d := 9) (by show 9 < 38; decide) (hv5 ▸ arep_ws (m := m4) (ω := ω') _)
  refine H _ _ (Conc.le ⟨m4, ω', hC10⟩ ⟨rfl, allIn_look ⟨rfl, rfl, trivial⟩, allIn_look ⟨rfl, trivial⟩, fun t x ht => by cases ht⟩)
end

def cellB (v : Val) : ByteArray := (((((⟨#[124]⟩ : ByteArray) ++ itoaB v.kind ++ ⟨#[44]⟩) ++ itoaB v.int ++ ⟨#[44]⟩) ++ itoaB (v.text.size : Int)) ++ ⟨#[44]⟩) ++ v.text
def encL (r : Row) (k : Nat) : List UInt8 := Lib.itoa r.length ++ ((r.take k).map fun v => (cellB v).data.toList).flatten
def encB (r : Row) : ByteArray := ⟨(encL r r.length).toArray⟩
structure ValFits (v : Val) : Prop where
  k0 : -9223372036854775808 ≤ v.kind
  k1 : v.kind ≤ 9223372036854775807
  i0 : -9223372036854775808 ≤ v.int
  i1 : v.int ≤ 9223372036854775807
  t : v.text.size ≤ 1048576
structure RowFits (r : Row) : Prop where
  n : r.length ≤ 1048576
  v : ∀ v ∈ r, ValFits v
theorem itoaB_size (n : Int) (h0 : -9223372036854775808 ≤ n) (h1 : n ≤ 9223372036854775807) : (itoaB n).size ≤ 21 := by
  have e : (itoaB n).size = (Lib.itoa n).length := by
    show (itoaB n).data.size = _
    rw [← Array.length_toList]
    simp [itoaB]
  rw [e]
  exact Lib.itoa_length_le n h0 h1
theorem cellB_size {v : Val} (h : ValFits v) : (cellB v).size ≤ 1048643 := by
  have h1 := itoaB_size v.kind h.k0 h.k1
  have h2 := itoaB_size v.int h.i0 h.i1
  have h3 := itoaB_size (v.text.size : Int) (by omega) (by have := h.t; omega)
  have h4 := h.t
  have b1 : (⟨#[124]⟩ : ByteArray).size = 1 := rfl
  have b2 : (⟨#[44]⟩ : ByteArray).size = 1 := rfl
  simp only [cellB, ByteArray.size_append, b1, b2]
  omega
theorem encL_zero (r : Row) : encL r 0 = Lib.itoa r.length := by simp [encL]
theorem encL_succ {r : Row} {k : Nat} (h : k < r.length) : encL r (k + 1) = encL r k ++ (cellB r[k]).data.toList := by
  rw [encL, take_snoc r k h, List.map_append, List.flatten_append, encL]
  simp only [List.map_cons, List.map_nil, List.flatten_cons, List.flatten_nil, List.append_nil, List.append_assoc]
theorem encL_le {r : Row} (h : RowFits r) : ∀ k, k ≤ r.length → (encL r k).length ≤ 21 + k * 1048643
  | 0, _ => by
    rw [encL_zero]
    have := Lib.itoa_length_le r.length (by omega) (by have := h.n; omega)
    omega
  | k + 1, hk => by
    rw [encL_succ (by omega), List.length_append]
    have h1 := encL_le h k (by omega)
    have h2 := cellB_size (h.v r[k] (List.getElem_mem _))
    have h3 : (cellB r[k]).data.toList.length = (cellB r[k]).size := Array.length_toList
    omega
theorem itoa_ne (n : Int) : Lib.itoa n ≠ [] := by
  unfold Lib.itoa
  split
  · simp
  · unfold Lib.decDigits
    split <;> simp
theorem encL_ne (r : Row) (k : Nat) : encL r k ≠ [] := by
  unfold encL
  intro h
  exact itoa_ne _ (List.append_eq_nil_iff.1 h).1
theorem okIds_ptr (σb σr : Ids) (i o : Nat) : okIds σb σr (.ptr i o) = (look σb i).isSome := rfl
theorem okIds_byt (σb σr : Ids) (t : TypeId) (l : List UInt8) : okIds σb σr (.byt t l) = true := rfl
set_option maxHeartbeats 8000000 in
theorem encode_sat (r : Row) (hr : RowFits r) : Sat Tryd.prog 14 [.one (eRow r)] (.v (.one (.str (encB r)))) := by
  have hn := hr.n
  refine sat_of_body tyOk Tryd.func14 rfl (by kernel_rfl) ⟨Nat.le_of_ble_eq_true rfl, Nat.le_of_ble_eq_true rfl⟩ fun w0 m0 F0 => ?_
  simp only [Tryd.ntmps14, envOf, Nat.reduceAdd]
  refine qA ?_
  refine qV tyOk fun K hK => ?_
  simp -dsimp (disch := (first | omega | (simp only [LN]; omega))) only [go_sem, ↓reduceIte, seval]
  refine hK _ (qB ?_)
  clear hK K
  refine bld_start (by simpa using hn) ⟨rfl, rfl, rfl⟩ ⟨rfl, rfl, rfl⟩ ⟨rfl, rfl, rfl⟩ ⟨rfl, rfl, rfl⟩ ⟨rfl, rfl, rfl⟩ ?_
  repeat' (first | ((first | with_reducible refine qV tyOk fun K hK => ?_ | (with_reducible first | refine qG ?_ | refine qH ?_ | refine qP ?_ | refine qGx ?_ | refine qHx ?_ | refine qPx ?_) | ((with_reducible first | refine qS ?_ ?_ | refine qT ?_ ?_ | refine qU ?_ ?_) <;> (intro h; try simp only [NM] at h))) <;> simp -dsimp (disch := (first | omega | (simp only [LN]; omega))) only [go_sem, ↓reduceIte, seval]) | ((with_reducible refine hK _ ?_); clear hK K) | (with_reducible first | refine qA ?_ | refine qB ?_ | refine qC ?_ | refine qD ?_ | refine qE ?_ | refine qF ?_ | refine qL ?_ | refine qM ?_ | refine qN ?_ | refine qO ?_ | refine qQ ?_) | refine qR rfl ?_ | (with_reducible refine AI ?_) | ((with_reducible refine qW (T := TT) (b := ?_) ?_ ?_); rotate_left; exact rfl) | (with_reducible first | refine qX ?_ | refine qY ?_ | refine qZ ?_) | (with_reducible first | refine qI ?_ | refine qIx ?_ | fail) | ((with_reducible refine yS ?_ ?_) <;> (intro h; try simp only [NM] at h)))
  refine AWP.loop (ι := {k : Nat // k ≤ r.length}) (fun k => ⟨38, [(3, .v (.one (.ptr 3 0))), (10, .v (.one (eRow r))), (11, .v (oI r.length)), (12, .v (oI k.1))], [(3, [.ptr 3 0, .byt tB (encL r k.1)])], []⟩) (fun k => r.length - k.1) ⟨0, Nat.zero_le _⟩ ?_ fun ⟨k, hkl⟩ => ?_
  · refine St.le_mk ?_ ?_ ?_ <;> simp only [LE, EN, Nat.reduceEqDiff, reduceIte, Nat.reduceSub, encL_zero]
  simp only
  rcases Nat.lt_or_ge k r.length with hc | hc
  · have hv := hr.v r[k] (List.getElem_mem _)
    have hs := cellB_size hv
    have hL := encL_le hr k hkl
    have ws := writeString_satM (encL r k) (cellB r[k]) (by omega)
    have es := encL_succ hc
    have i1 := itoa_sat r[k].kind hv.k0 hv.k1
    have i2 := itoa_sat r[k].int hv.i0 hv.i1
    have i3 := itoa_sat (r[k].text.size : Int) (by omega) (by have := hv.t; omega)
    have z1 := itoaB_size r[k].kind hv.k0 hv.k1
    have z2 := itoaB_size r[k].int hv.i0 hv.i1
    have z3 := itoaB_size (r[k].text.size : Int) (by omega) (by have := hv.t; omega)
    have z4 := hv.t
    have b1 : (⟨#[124]⟩ : ByteArray).size = 1 := rfl
    have b2 : (⟨#[44]⟩ : ByteArray).size = 1 := rfl
    unfold cellB at ws
    repeat' (first | ((first | ((fail_if_success (refine AWP.isRegion 6 ?_)); (with_reducible refine qV tyOk fun K hK => ?_)) | (with_reducible first | refine qG ?_ | refine qH ?_ | refine qP ?_ | refine qGx ?_ | refine qHx ?_ | refine qPx ?_) | ((with_reducible first | refine qS ?_ ?_ | refine qT ?_ ?_ | refine qU ?_ ?_) <;> (intro h; try simp only [NM] at h))) <;> simp -dsimp (disch := (first | omega | (simp only [LN]; omega))) only [go_sem, ↓reduceIte, seval]) | ((with_reducible refine hK _ ?_); clear hK K) | (with_reducible first | refine qA ?_ | refine qB ?_ | refine qC ?_ | refine qD ?_ | refine qE ?_ | refine qF ?_ | refine qL ?_ | refine qM ?_ | refine qN ?_ | refine qO ?_ | refine qQ ?_) | refine qR rfl ?_ | (with_reducible refine AI ?_) | ((with_reducible refine qW (T := TT) (b := ?_) ?_ ?_); rotate_left; exact rfl) | (with_reducible first | refine qX ?_ | refine qY ?_ | refine qZ ?_) | (with_reducible first | refine qI ?_ | refine qIx ?_ | fail) | ((with_reducible refine yS ?_ ?_) <;> (intro h; try simp only [NM] at h)))
    refine AWP.drawX tyOk mixed [(0, 2), (5, 2), (10, 3), (16, 2)] [(2, [(3, 2)], [(5, 2), (10, 3), (16, 2)]), (7, [(8, 2)], [(3, 2), (10, 3), (16, 2)]), (13, [(14, 2), (18, 1)], [(3, 2), (8, 2), (16, 2)]), (19, [], [])] [2, 7, 13, 19] 8 (by decide) (by kernel_rfl) (by kernel_rfl) (by kernel_rfl) (by kernel_rfl) fun K hK => ?_
    simp only [segx_nil, segx_cons, segs, List.drop_succ_cons, List.drop_zero, List.take_succ_cons, List.take_zero, List.getElem?_cons_zero, List.getElem?_cons_succ, List.cons_append, List.nil_append, List.append_nil] at hK ⊢
    simp -dsimp (disch := (first | omega | (simp only [LN]; omega))) only [go_sem, ↓reduceIte, seval, ByteArray.size_append, b1, b2]
    repeat' (first | ((first | with_reducible refine qV tyOk fun K hK => ?_ | (with_reducible first | refine qG ?_ | refine qH ?_ | refine qP ?_ | refine qGx ?_ | refine qHx ?_ | refine qPx ?_) | ((with_reducible first | refine qS ?_ ?_ | refine qT ?_ ?_ | refine qU ?_ ?_) <;> (intro h; try simp only [NM] at h)) | ((with_reducible refine CallJ.is ?_); refine CallJ.io [(1000, 3)] [] [(1000, 3)] [] [] [] [3, 3] [] (ws) rfl ⟨rfl, rfl, rfl, rfl⟩ ?_ ?_ ?_; (focus (simp -dsimp (disch := (first | omega | (simp only [LN]; omega))) only [go_sem, ↓reduceIte, seval, ByteArray.size_append, b1, b2, okIds_ptr, okIds_byt, dropL_nil, dropL_nil', dropL_cons]; done)); (focus (simp -dsimp (disch := (first | omega | (simp only [LN]; omega))) only [go_sem, ↓reduceIte, seval, ByteArray.size_append, b1, b2, okIds_ptr, okIds_byt, dropL_nil, dropL_nil', dropL_cons]; done))) | ((with_reducible refine CallJ.is ?_); (first | refine CallJ.pure (i1) ?_ | refine CallJ.pure (i2) ?_ | refine CallJ.pure (i3) ?_ | ((apply CallJ.lentI); (focus (simp -dsimp (disch := (first | omega | (simp only [LN]; omega))) only [go_sem, ↓reduceIte, seval, ByteArray.size_append, b1, b2, okIds_ptr, okIds_byt, dropL_nil, dropL_nil', dropL_cons]; rfl)); (focus (first | exact (i1) | exact (i2) | exact (i3)))))) | ((with_reducible refine CallH.is ?_); (first | refine CallH.intro (i1) ?_ | refine CallH.intro (i2) ?_ | refine CallH.intro (i3) ?_))) <;> simp -dsimp (disch := (first | omega | (simp only [LN]; omega))) only [go_sem, ↓reduceIte, seval, ByteArray.size_append, b1, b2, okIds_ptr, okIds_byt, dropL_nil, dropL_nil', dropL_cons]) | ((with_reducible refine hK _ ?_); clear hK K) | (with_reducible first | refine qA ?_ | refine qB ?_ | refine qC ?_ | refine qD ?_ | refine qE ?_ | refine qF ?_ | refine qL ?_ | refine qM ?_ | refine qN ?_ | refine qO ?_ | refine qQ ?_) | refine qR rfl ?_ | ((with_reducible refine VCy.intro fun K0 hK0 => ?_)) | ((with_reducible refine VCy.fin ?_); (refine hK0 _ ?_); clear hK0 K0) | (with_reducible first | refine VCy.quiet ?_ | refine VCy.none ?_) | ((with_reducible first | refine VCy.some fun K hK => ?_ | refine VCy.step fun K hK => ?_); simp -dsimp (disch := (first | omega | (simp only [LN]; omega))) only [go_sem, ↓reduceIte, seval, ByteArray.size_append, b1, b2, okIds_ptr, okIds_byt, dropL_nil, dropL_nil', dropL_cons]) | ((with_reducible refine VCy.keep ?_ ?_); focus ((simp -dsimp (disch := (first | omega | (simp only [LN]; omega))) only [go_sem, ↓reduceIte, seval, Stable_cons, Stable_nil, sameA_some, sameA_none, ByteArray.size_append, b1, b2, okIds_ptr, okIds_byt, dropL_nil, dropL_nil', dropL_cons]); first | done | with_reducible assumption | omega | (repeat' with_reducible refine And.intro ?_ ?_) <;> first | with_reducible rfl | with_reducible assumption | omega)) | (with_reducible refine AI ?_) | ((with_reducible refine qW (T := TT) (b := ?_) ?_ ?_); rotate_left; exact rfl) | (with_reducible first | refine qX ?_ | refine qY ?_ | refine qZ ?_) | (with_reducible first | refine qI ?_ | refine qIx ?_ | fail) | ((with_reducible refine yS ?_ ?_) <;> (intro h; try simp only [NM] at h)))
    refine ⟨⟨k + 1, by omega⟩, by simp only; omega, ?_⟩
    have ef : cellB r[k] = (((((⟨#[124]⟩ : ByteArray) ++ itoaB r[k].kind ++ ⟨#[44]⟩) ++ itoaB r[k].int ++ ⟨#[44]⟩) ++ itoaB (r[k].text.size : Int)) ++ ⟨#[44]⟩) ++ r[k].text := rfl
    rw [← ef]
    refine St.le_mk ?_ ?_ ?_ <;> simp only [LE, EN, Nat.reduceEqDiff, reduceIte, Nat.reduceSub, es]
  · have hk : k = r.length := by omega
    subst hk
    repeat' (first | ((first | with_reducible refine qV tyOk fun K hK => ?_ | (with_reducible first | refine qG ?_ | refine qH ?_ | refine qP ?_ | refine qGx ?_ | refine qHx ?_ | refine qPx ?_) | ((with_reducible first | refine qS ?_ ?_ | refine qT ?_ ?_ | refine qU ?_ ?_) <;> (intro h; try simp only [NM] at h)) | ((with_reducible refine CallJ.is ?_); refine CallJ.io [(1000, 3)] [] [] [] [3] [] [3] [] (string_satM (encL r r.length) (encL_ne r r.length)) rfl ⟨rfl, rfl, rfl, rfl⟩ ?_ ?_ ?_; (focus (simp -dsimp (disch := (first | omega | (simp only [LN]; omega))) only [go_sem, ↓reduceIte, seval, okIds_ptr, okIds_byt, dropL_nil, dropL_nil', dropL_cons]; done)); (focus (simp -dsimp (disch := (first | omega | (simp only [LN]; omega))) only [go_sem, ↓reduceIte, seval, okIds_ptr, okIds_byt, dropL_nil, dropL_nil', dropL_cons]; done)))) <;> simp -dsimp (disch := (first | omega | (simp only [LN]; omega))) only [go_sem, ↓reduceIte, seval, okIds_ptr, okIds_byt, dropL_nil, dropL_nil', dropL_cons]) | ((with_reducible refine hK _ ?_); clear hK K) | (with_reducible first | refine qA ?_ | refine qB ?_ | refine qC ?_ | refine qD ?_ | refine qE ?_ | refine qF ?_ | refine qL ?_ | refine qM ?_ | refine qN ?_ | refine qO ?_ | refine qQ ?_) | refine qR rfl ?_ | (with_reducible refine AI ?_) | ((with_reducible refine qW (T := TT) (b := ?_) ?_ ?_); rotate_left; exact rfl) | (with_reducible first | refine qX ?_ | refine qY ?_ | refine qZ ?_) | (with_reducible first | refine qI ?_ | refine qIx ?_ | fail) | ((with_reducible refine yS ?_ ?_) <;> (intro h; try simp only [NM] at h)))
    simp -dsimp (disch := (first | omega | (simp only [LN]; omega))) only [retQ, Tryd.results14, resVals, cellRV, resOf, St.rest, St.freeze, RT, go_sem, ↓reduceIte, seval]
    rfl

theorem keyCell_fits {r : Row} (h : RowFits r) (c : Int) : ValFits (keyCell r c) := by
  have hz : ValFits zV := ⟨by decide, by decide, by decide, by decide, by decide⟩
  unfold keyCell
  split
  · rename_i hc
    rw [List.getD_eq_getElem?_getD]
    cases hg : r[c.toNat]? with
    | none => exact hz
    | some v => exact h.v v (List.mem_of_getElem? hg)
  · exact hz
theorem keyOf_fits {pk : List Int} {r : Row} (h : RowFits r) (hp : pk.length ≤ 1048576) : RowFits (keyOf pk r) := by
  refine ⟨by rw [keyOf_length]; exact hp, fun v hv => ?_⟩
  unfold keyOf at hv
  obtain ⟨c, _, rfl⟩ := List.mem_map.1 hv
  exact keyCell_fits h c

def SameK (s : Sch) (c d : Chg) : Prop := d.table = c.table ∧ tgt (tblOf s c.table) d = tgt (tblOf s c.table) c
theorem SameK.symm {s : Sch} {c d : Chg} (h : SameK s c d) : SameK s d c := by
  obtain ⟨h1, h2⟩ := h
  exact ⟨h1.symm, by rw [h1, h2]⟩
theorem sameK_iff (s : Sch) (c d : Chg) : sameK (tblOf s c.table) c d = true ↔ SameK s c d := by
  simp [sameK, SameK, sEq_iff]
def Confl (s : Sch) (c d : Chg) : Prop := SameK s c d ∧ (d.kind ≠ c.kind ∨ d.row ≠ c.row)
theorem confl_iff (s : Sch) (c d : Chg) : confl (tblOf s c.table) c d = true ↔ Confl s c d := by
  unfold confl Confl
  rw [Bool.and_eq_true, sameK_iff]
  simp
theorem Confl.symm {s : Sch} {c d : Chg} (h : Confl s c d) : Confl s d c := ⟨h.1.symm, h.2.imp Ne.symm Ne.symm⟩
theorem anyConfl_iff (s : Sch) (A B : List Chg) : (A.any fun c => B.any (confl (tblOf s c.table) c)) = true ↔ ∃ c ∈ A, ∃ d ∈ B, Confl s c d := by
  simp only [List.any_eq_true, confl_iff]

def hits (s : Sch) (j : Nat) (k : Row) (c : Chg) : Prop := tpos s c = j ∧ tgt (tblOf s c.table) c = k
instance (s : Sch) (j : Nat) (k : Row) (c : Chg) : Decidable (hits s j k c) := by unfold hits; infer_instance
def lookC (s : Sch) (j : Nat) (k : Row) : List Chg → Option Chg
  | [] => none
  | c :: l => match lookC s j k l with
    | some d => some d
    | none => if hits s j k c then some c else none
def eff (c : Chg) : Option Row := if c.kind = 1 then some c.row else none
def getI (s : Sch) (i : Inst) (j : Nat) (k : Row) : Option Row := getR (s.tables.getD j zTbl) (i.getD j zRel).rows k

theorem lookC_some {s : Sch} {j : Nat} {k : Row} {c : Chg} : ∀ {l : List Chg}, lookC s j k l = some c → c ∈ l ∧ hits s j k c
  | [], h => by cases h
  | x :: l, h => by
    rw [lookC] at h
    split at h
    · rename_i d hd
      injection h with h
      subst h
      obtain ⟨h1, h2⟩ := lookC_some hd
      exact ⟨List.mem_cons_of_mem _ h1, h2⟩
    · split at h
      · rename_i hx
        injection h with h
        subst h
        exact ⟨List.mem_cons_self .., hx⟩
      · cases h
theorem lookC_none {s : Sch} {j : Nat} {k : Row} : ∀ {l : List Chg}, lookC s j k l = none ↔ ∀ c ∈ l, ¬ hits s j k c
  | [] => by simp [lookC]
  | x :: l => by
    have ih := lookC_none (s := s) (j := j) (k := k) (l := l)
    rw [lookC]
    split
    · rename_i d hd
      obtain ⟨h1, h2⟩ := lookC_some hd
      exact ⟨fun h => (by cases h), fun h => absurd h2 (h d (List.mem_cons_of_mem _ h1))⟩
    · rename_i hd
      split
      · rename_i hx
        exact ⟨fun h => (by cases h), fun h => absurd hx (h x (List.mem_cons_self ..))⟩
      · rename_i hx
        refine ⟨fun _ c hc => ?_, fun _ => rfl⟩
        rcases List.mem_cons.1 hc with rfl | hc
        · exact hx
        · exact ih.1 hd c hc
theorem chg_table {s : Sch} {c : Chg} (h : chgE s c = 0) : c.table = (s.tables.getD (tpos s c) zTbl).name := by
  have o := okChg_of h
  have e := o.pos
  rcases idx_cases (fun t => sEq t.name c.table) s.tables 0 with ⟨e1, _⟩ | ⟨j, hj, e1, e2, _⟩
  · have e1 : tblAt s.tables c.table = -1 := e1
    omega
  · have e1 : tblAt s.tables c.table = (j : Int) := by unfold tblAt; simpa using e1
    have ej : j = tpos s c := by omega
    subst ej
    have : s.tables.getD (tpos s c) zTbl = s.tables[tpos s c] := getD_lt _ hj
    rw [this]
    exact (sEq_iff.1 e2).symm
theorem hits_same {s : Sch} {j : Nat} {k : Row} {c d : Chg} (hc : chgE s c = 0) (hd : chgE s d = 0) (h1 : hits s j k c) (h2 : hits s j k d) : SameK s c d := by
  have e : d.table = c.table := by rw [chg_table hc, chg_table hd, h1.1, h2.1]
  refine ⟨e, ?_⟩
  have := h2.2
  rw [e] at this
  rw [this, h1.2]
theorem applyC_getI {s : Sch} {i : Inst} {c : Chg} (h : confE s i = 0) (hc : (applyC s i c).1 = 0) (j : Nat) (k : Row) : getI s (applyC s i c).2 j k = if hits s j k c then eff c else getI s i j k := by
  have hl := ((confE_zero s i).1 h).1
  unfold applyC at hc ⊢
  split at hc
  · rename_i g; exact absurd hc g
  rename_i g
  have o := okChg_of (by simpa using g : chgE s c = 0)
  have ht : tpos s c < i.length := by rw [hl]; exact o.lt
  have hr := conf_rel h ht
  have hsr := ((okRel_iff _ _).1 hr).2.2
  have key : ∀ rows', (∀ k', getR (s.tables.getD (tpos s c) zTbl) rows' k' = if tgt (tblOf s c.table) c = k' then eff c else getR (s.tables.getD (tpos s c) zTbl) (i.getD (tpos s c) zRel).rows k') →
      getI s (setRows i (tpos s c) rows') j k = if hits s j k c then eff c else getI s i j k := by
    intro rows' h'
    unfold getI
    rw [setRows_getD ht]
    by_cases e : tpos s c = j
    · subst e
      rw [if_pos rfl]
      show getR _ rows' k = _
      rw [h']
      by_cases e2 : tgt (tblOf s c.table) c = k
      · rw [if_pos e2, if_pos ⟨rfl, e2⟩]
      · rw [if_neg e2, if_neg (fun q => e2 q.2)]
    · rw [if_neg e, if_neg (fun q => e q.1)]
  split at hc
  · rename_i g1
    split at hc
    · cases hc
    · rename_i g2
      rw [if_neg g, if_pos g1, if_neg g2]
      refine key _ fun k' => ?_
      rw [o.tbl, getR_upsertR]
      simp only [tgt, eff, if_pos g1]
  · rename_i g1
    split at hc
    · rename_i g2
      rw [if_neg g, if_neg g1, if_pos g2]
      refine key _ fun k' => ?_
      rw [o.tbl, getR_deleteR k' hsr]
      simp only [tgt, eff, if_neg g1]
    · cases hc
theorem applyL_getI {s : Sch} (j : Nat) (k : Row) : ∀ {cs : List Chg} {i : Inst}, confE s i = 0 → (applyL s i cs).1 = 0 → getI s (applyL s i cs).2 j k = match lookC s j k cs with | some c => eff c | none => getI s i j k
  | [], i, h, hc => rfl
  | c :: cs, i, h, hc => by
    rw [lookC]
    unfold applyL at hc ⊢
    split at hc
    · rename_i g; exact absurd hc g
    · rename_i g
      have g : (applyC s i c).1 = 0 := by simpa using g
      rw [if_neg (by simpa using g), applyL_getI j k (applyC_conf h g) hc, applyC_getI h g]
      cases lookC s j k cs with
      | some d => rfl
      | none =>
        simp only
        split <;> rfl
theorem inst_ext {s : Sch} {a b : Inst} (ha : confE s a = 0) (hb : confE s b = 0) (h : ∀ j k, getI s a j k = getI s b j k) : a = b := by
  obtain ⟨la, ca⟩ := (confE_zero s a).1 ha
  obtain ⟨lb, cb⟩ := (confE_zero s b).1 hb
  refine List.ext_getElem (by rw [la, lb]) fun j h1 h2 => ?_
  have ra := ((okRel_iff _ _).1 (conf_rel ha h1)).2.2
  have rb := ((okRel_iff _ _).1 (conf_rel hb h2)).2.2
  have e := getR_ext ra rb fun k => h j k
  have ea : a.getD j zRel = a[j] := getD_lt _ h1
  have eb : b.getD j zRel = b[j] := getD_lt _ h2
  rw [ea, eb] at e
  have na := sEq_iff.1 (ca j h1).1
  have nb := sEq_iff.1 (cb j h2).1
  have e2 : a[j].table = b[j].table := by rw [na, nb]
  cases hx : a[j] with | mk t r => cases hy : b[j] with | mk t' r' =>
  rw [hx, hy] at e e2
  simp only at e e2
  rw [e, e2]
theorem applyL_chg {s : Sch} : ∀ {cs : List Chg} {i : Inst}, (applyL s i cs).1 = 0 → ∀ c ∈ cs, chgE s c = 0
  | [], _, _, c, hc => by cases hc
  | x :: cs, i, h, c, hc => by
    unfold applyL at h
    split at h
    · rename_i g; exact absurd h g
    · rename_i g
      rcases List.mem_cons.1 hc with rfl | hc
      · have g : (applyC s i c).1 = 0 := by simpa using g
        unfold applyC at g
        split at g
        · rename_i q; exact absurd g q
        · rename_i q; simpa using q
      · exact applyL_chg h c hc
theorem applyE_okU {s : Sch} {i : Inst} {cs : List Chg} (h : (applyE s i cs).1 = 0) : schE s = 0 ∧ confE s i = 0 ∧ cs.length ≤ 24 ∧ (applyL s i cs).1 = 0 ∧ applyE s i cs = applyL s i cs := by
  unfold applyE at h ⊢
  split at h
  · rename_i g; exact absurd h g
  rename_i g1
  split at h
  · rename_i g; exact absurd h g
  rename_i g2
  split at h
  · cases h
  rename_i g3
  rw [if_neg g1, if_neg g2, if_neg g3]
  exact ⟨by simpa using g1, by simpa using g2, by omega, h, rfl⟩
theorem applyE_of {s : Sch} {i : Inst} {cs : List Chg} (h1 : schE s = 0) (h2 : confE s i = 0) (h3 : cs.length ≤ 24) : applyE s i cs = applyL s i cs := by
  unfold applyE
  rw [if_neg (by simpa using h1), if_neg (by simpa using h2), if_neg (by omega)]

section
def zC0 : Chg := ⟨0, ByteArray.empty, [], []⟩
def G (ds : List Chg) (k : Nat) : Chg := ds.getD k zC0
structure Keep (ds ds' : List Chg) (a b : Nat) : Prop where
  len : ds'.length = ds.length
  out : ∀ k, k < a ∨ b ≤ k → G ds' k = G ds k
  inn : ∀ k, a ≤ k → k < b → ∃ k', a ≤ k' ∧ k' < b ∧ G ds' k = G ds k'
theorem Keep.refl (ds : List Chg) (a b : Nat) : Keep ds ds a b := ⟨rfl, fun _ _ => rfl, fun k h1 h2 => ⟨k, h1, h2, rfl⟩⟩
theorem Keep.trans {x y z : List Chg} {a b : Nat} (h1 : Keep x y a b) (h2 : Keep y z a b) : Keep x z a b :=
  ⟨h2.len.trans h1.len, fun k h => (h2.out k h).trans (h1.out k h), fun k ha hb => by
    obtain ⟨k', p, q, e⟩ := h2.inn k ha hb
    obtain ⟨k'', p', q', e'⟩ := h1.inn k' p q
    exact ⟨k'', p', q', e.trans e'⟩⟩
theorem Keep.mono {x y : List Chg} {a b a' b' : Nat} (h : Keep x y a b) (ha : a' ≤ a) (hb : b ≤ b') : Keep x y a' b' :=
  ⟨h.len, fun k hk => h.out k (by omega), fun k h1 h2 => by
    by_cases hk : a ≤ k ∧ k < b
    · obtain ⟨k', p, q, e⟩ := h.inn k hk.1 hk.2
      exact ⟨k', by omega, by omega, e⟩
    · exact ⟨k, h1, h2, h.out k (by omega)⟩⟩

section
variable (c : Chg → Chg → Int)
structure OrdC : Prop where
  asym : ∀ x y, c x y < 0 → ¬ c y x < 0
  trans : ∀ x y z, ¬ c y x < 0 → ¬ c z y < 0 → ¬ c z x < 0
def Srt (ds : List Chg) (a b : Nat) : Prop := ∀ i j, a ≤ i → i < j → j < b → ¬ c (G ds j) (G ds i) < 0
variable {c}
theorem Srt.same {ds ds' : List Chg} {a b : Nat} (h : Srt c ds a b) (e : ∀ k, a ≤ k → k < b → G ds' k = G ds k) : Srt c ds' a b := fun i j h1 h2 h3 => by
  rw [e i h1 (by omega), e j (by omega) h3]
  exact h i j h1 h2 h3
theorem OrdC.irr (o : OrdC c) (x : Chg) : ¬ c x x < 0 := fun h => o.asym x x h h
theorem Srt.le (o : OrdC c) {ds : List Chg} {a b i j : Nat} (h : Srt c ds a b) (h1 : a ≤ i) (h2 : i ≤ j) (h3 : j < b) : ¬ c (G ds j) (G ds i) < 0 := by
  rcases Nat.lt_or_eq_of_le h2 with h2 | rfl
  · exact h i j h1 h2 h3
  · exact o.irr _

theorem Srt.sub {ds : List Chg} {a b a' b' : Nat} (h : Srt c ds a b) (ha : a ≤ a') (hb : b' ≤ b) : Srt c ds a' b' := fun i j h1 h2 h3 => h i j (by omega) h2 (by omega)
end
end

theorem applyC_agree {s : Sch} {p q : Inst} {c : Chg} (hp : confE s p = 0) (hq : confE s q = 0) (h : getI s p (tpos s c) (tgt (tblOf s c.table) c) = getI s q (tpos s c) (tgt (tblOf s c.table) c)) (hc : (applyC s p c).1 = 0) : (applyC s q c).1 = 0 ∨ (applyC s q c).1 = 2 := by
  have lp := ((confE_zero s p).1 hp).1
  have lq := ((confE_zero s q).1 hq).1
  unfold applyC at hc ⊢
  split at hc
  · rename_i g; exact absurd hc g
  rename_i g
  rw [if_neg g]
  have o := okChg_of (by simpa using g : chgE s c = 0)
  have rp := ((okRel_iff _ _).1 (conf_rel hp (k := tpos s c) (by rw [lp]; exact o.lt))).2.2
  have rq := ((okRel_iff _ _).1 (conf_rel hq (k := tpos s c) (by rw [lq]; exact o.lt))).2.2
  split
  · split
    · exact .inr rfl
    · exact .inl rfl
  · rename_i g1
    rw [if_neg g1] at hc
    split at hc
    · rename_i g2
      have e : findB (tblOf s c.table) (q.getD (tpos s c) zRel).rows c.key = true := by
        rw [o.tbl, findB_getR rq]
        rw [o.tbl, findB_getR rp] at g2
        unfold getI at h
        simp only [tgt, if_neg g1] at h
        rw [← h]
        exact g2
      rw [if_pos e]
      exact .inl rfl
    · cases hc
theorem applyL_agree {s : Sch} : ∀ {l : List Chg} {p q : Inst}, confE s p = 0 → confE s q = 0 → (∀ d ∈ l, getI s p (tpos s d) (tgt (tblOf s d.table) d) = getI s q (tpos s d) (tgt (tblOf s d.table) d)) → (applyL s p l).1 = 0 → (applyL s q l).1 = 0 ∨ (applyL s q l).1 = 2
  | [], _, _, _, _, _, _ => .inl rfl
  | c :: l, p, q, hp, hq, h, hc => by
    unfold applyL at hc ⊢
    split at hc
    · rename_i g; exact absurd hc g
    rename_i g
    have g : (applyC s p c).1 = 0 := by simpa using g
    rcases applyC_agree hp hq (h c (List.mem_cons_self ..)) g with g2 | g2
    · rw [if_neg (by simpa using g2)]
      refine applyL_agree (applyC_conf hp g) (applyC_conf hq g2) (fun d hd => ?_) hc
      rw [applyC_getI hp g, applyC_getI hq g2, h d (List.mem_cons_of_mem _ hd)]
    · rw [if_pos (by omega)]
      exact .inr g2
def Indep (s : Sch) (a b : List Chg) : Prop := ∀ c ∈ a, ∀ d ∈ b, ¬ SameK s c d
theorem Indep.symm {s : Sch} {a b : List Chg} (h : Indep s a b) : Indep s b a := fun c hc d hd g => h d hd c hc g.symm
theorem indep_look {s : Sch} {a b : List Chg} (h : Indep s a b) (ha : ∀ c ∈ a, chgE s c = 0) {d : Chg} (hd : d ∈ b) (hb : chgE s d = 0) : lookC s (tpos s d) (tgt (tblOf s d.table) d) a = none :=
  lookC_none.2 fun c hc hh => h c hc d hd (hits_same (ha c hc) hb hh ⟨rfl, rfl⟩)
theorem indep_step {s : Sch} {i : Inst} {a b : List Chg} (h : Indep s a b) (hc : confE s i = 0) (ha : (applyL s i a).1 = 0) (hb : (applyL s i b).1 = 0) : (applyL s (applyL s i a).2 b).1 = 0 ∨ (applyL s (applyL s i a).2 b).1 = 2 := by
  refine applyL_agree hc (applyL_conf hc ha) (fun d hd => ?_) hb
  rw [applyL_getI _ _ hc ha, indep_look h (applyL_chg ha) hd (applyL_chg hb d hd)]
theorem indep_law {s : Sch} {i : Inst} {a b : List Chg} (h : Indep s a b) (ha : (applyE s i a).1 = 0) (hb : (applyE s i b).1 = 0) :
    conflictsE s a b = (0, false) ∧ ((applyE s (applyE s i a).2 b).1 = 2 ∨ (applyE s (applyE s i b).2 a).1 = 2 ∨
      ((applyE s (applyE s i a).2 b).1 = 0 ∧ (applyE s (applyE s i b).2 a).1 = 0 ∧ (applyE s (applyE s i a).2 b).2 = (applyE s (applyE s i b).2 a).2)) := by
  obtain ⟨a1, a2, a3, a4, a5⟩ := applyE_okU ha
  obtain ⟨b1, b2, b3, b4, b5⟩ := applyE_okU hb
  have va := applyL_chg a4
  have vb := applyL_chg b4
  constructor
  · have ea : (compactE s a).1 = 0 := by
      unfold compactE
      rw [if_neg (by simpa using a1), if_neg (by simpa using (vldE_zero s a).2 va)]
    have eb : (compactE s b).1 = 0 := by
      unfold compactE
      rw [if_neg (by simpa using a1), if_neg (by simpa using (vldE_zero s b).2 vb)]
    unfold conflictsE
    rw [if_neg (by simpa using ea), if_neg (by simpa using eb)]
    congr 1
    rw [Bool.eq_false_iff]
    intro hh
    obtain ⟨c, hc, d, hd, hk⟩ := (anyConfl_iff s _ _).1 hh
    exact h c ((lastC_sub s a).subset (compactE_mem hc).2.1) d ((lastC_sub s b).subset (compactE_mem hd).2.1) hk.1
  · rw [a5, b5]
    have cx := applyL_conf a2 a4
    have cy := applyL_conf a2 b4
    rw [applyE_of a1 cx b3, applyE_of a1 cy a3]
    rcases indep_step h a2 a4 b4 with g | g
    · rcases indep_step h.symm a2 b4 a4 with q | q
      · refine .inr (.inr ⟨g, q, inst_ext (applyL_conf cx g) (applyL_conf cy q) fun j k => ?_⟩)
        rw [applyL_getI j k cx g, applyL_getI j k cy q, applyL_getI j k a2 a4, applyL_getI j k a2 b4]
        cases hx : lookC s j k a with
        | none =>
          cases hy : lookC s j k b <;> rfl
        | some c =>
          cases hy : lookC s j k b with
          | none => rfl
          | some d =>
            obtain ⟨c1, c2⟩ := lookC_some hx
            obtain ⟨d1, d2⟩ := lookC_some hy
            exact absurd (hits_same (va c c1) (vb d d1) c2 d2) (h c c1 d d1)
      · exact .inr (.inl q)
    · exact .inl g

def IntB (n : Int) : Prop := -9223372036854775808 ≤ n ∧ n ≤ 9223372036854775807
structure FkF (f : FK) : Prop where
  table : f.table.size ≤ 1048576
  ref : f.ref.size ≤ 1048576
  n : f.cols.length ≤ 1048576
  cols : ∀ c ∈ f.cols, IntB c
structure ColF (c : Col) : Prop where
  name : c.name.size ≤ 1048576
  kind : IntB c.kind
structure TblF (t : Tbl) : Prop where
  name : t.name.size ≤ 1048576
  n : t.cols.length ≤ 1048576
  cols : ∀ c ∈ t.cols, ColF c
  pn : t.pk.length ≤ 1048576
  pk : ∀ c ∈ t.pk, IntB c

structure ConF (c : Con) : Prop where
  table : c.table.size ≤ 1048576
  op : c.op.size ≤ 1048576
  left : IntB c.left
  right : IntB c.right
  value : ValFits c.value
structure SchF (s : Sch) : Prop where
  nt : s.tables.length ≤ 1048576
  tables : ∀ t ∈ s.tables, TblF t
  nf : s.fks.length ≤ 1048576
  fks : ∀ f ∈ s.fks, FkF f
  nc : s.cons.length ≤ 1048576
  cons : ∀ c ∈ s.cons, ConF c
theorem ConF.row {c : Con} (h : ConF c) : RowFits [c.value] := ⟨by simp, fun v hv => by rw [List.mem_singleton.1 hv]; exact h.value⟩
structure ChgF (c : Chg) : Prop where
  key : RowFits c.key
  row : RowFits c.row

def affK (s : Sch) (c : Chg) : Row := match refT s c.table with | some t => tgt t c | none => c.key
def meets (s : Sch) (c d : Chg) : Bool := (c.table.toList == d.table.toList) && ((encB (affK s c)).toList == (encB (affK s d)).toList)
theorem affK_fits {s : Sch} {c : Chg} (hs : SchF s) (hc : ChgF c) : RowFits (affK s c) := by
  unfold affK
  cases ht : refT s c.table with
  | some t =>
    simp only
    unfold tgt
    split
    · exact keyOf_fits hc.row (hs.tables t (List.mem_of_find?_eq_some ht)).pn
    · exact hc.key
  | none => exact hc.key
theorem affK_ok {s : Sch} {c : Chg} (h : chgE s c = 0) : affK s c = tgt (tblOf s c.table) c := by
  have o := okChg_of h
  have hn := chg_table h
  have ht : s.tables.getD (tpos s c) zTbl = s.tables[tpos s c]'o.lt := getD_lt _ o.lt
  rcases idx_cases (fun t => sEq t.name c.table) s.tables 0 with ⟨e1, _⟩ | ⟨j, hj, e1, e2, e3⟩
  · have e1 : tblAt s.tables c.table = -1 := e1
    have := o.pos
    omega
  · have e1 : tblAt s.tables c.table = (j : Int) := by unfold tblAt; simpa using e1
    have ej : j = tpos s c := by have := o.pos; omega
    subst ej
    have hr : refT s c.table = some (tblOf s c.table) := by
      rw [o.tbl, ht]
      unfold refT
      rw [List.find?_eq_some_iff_getElem]
      exact ⟨e2, tpos s c, hj, rfl, fun i hi => by simpa using e3 i hi⟩
    unfold affK
    rw [hr]
theorem meets_same {s : Sch} {c d : Chg} (hc : chgE s c = 0) (hd : chgE s d = 0) (h : SameK s c d) : meets s c d = true := by
  unfold meets
  rw [affK_ok hc, affK_ok hd, h.1, h.2]
  simp
theorem take_all {α : Type} {p : α → Prop} {l : List α} {k : Nat} (hk : k < l.length) (h : ∀ x ∈ l.take k, p x) (hx : p l[k]) : ∀ x ∈ l.take (k + 1), p x := by
  rw [take_snoc l k hk]
  intro x h'
  rcases List.mem_append.1 h' with q | q
  · exact h x q
  · rw [List.mem_singleton.1 q]; exact hx

set_option maxHeartbeats 16000000 in
theorem changeIndependentCommute_sat (s : Sch) (i : Inst) (a b : List Chg) (hs : SchF s) (hf : s.Fits) (hi : InstFits i) (ha1 : a.length ≤ 1048576) (ha : ∀ c ∈ a, ChgF c) (hb1 : b.length ≤ 1048576) (hb : ∀ c ∈ b, ChgF c) :
    Sat Tryd.prog 7 [.agg (eSch s), .one (eInst i), .one (eChgs a), .one (eChgs b)] (.v (oB true)) := by
  have nt := hs.nt
  have fits : ∀ {l : List Chg}, l.length ≤ 1048576 → (∀ c ∈ l, ChgF c) → ChgsFit l := fun h1 h2 => ⟨by omega, fun c hc => by
    have q1 := (h2 c hc).key.n
    have q2 := (h2 c hc).row.n
    omega⟩
  have aff : ∀ c, ChgF c → Sat Tryd.prog 24 [.agg (eSch s), .agg (eChg c)] (.v (.one (eRow (affK s c)))) := fun c hc =>
    affected_sat s c (by omega) (fun t ht => by have := (hs.tables t ht).pn; omega) (by have := hc.row.n; omega)
  have s1 := apply_sat s i a hf hi (fits ha1 ha)
  have s2 := apply_sat s i b hf hi (fits hb1 hb)
  have s3 := apply_sat s (applyE s i a).2 b hf applyE_fits (fits hb1 hb)
  have s4 := apply_sat s (applyE s i b).2 a hf applyE_fits (fits ha1 ha)
  have s5 := conflicts_sat s a b hf (fits ha1 ha) (by omega) (fits hb1 hb) (by omega)
  have s6 := instEqual_sat (applyE s (applyE s i a).2 b).2 (applyE s (applyE s i b).2 a).2 applyE_fits applyE_fits
  refine sat_of_body tyOk Tryd.func7 rfl (by kernel_rfl) ⟨Nat.le_of_ble_eq_true rfl, Nat.le_of_ble_eq_true rfl⟩ fun w0 m0 F0 => ?_
  simp only [Tryd.ntmps7, envOf, Nat.reduceAdd]
  repeat' (first | ((first | with_reducible refine qV tyOk fun K hK => ?_ | (with_reducible first | refine qG ?_ | refine qH ?_ | refine qP ?_ | refine qGx ?_ | refine qHx ?_ | refine qPx ?_) | ((with_reducible first | refine qS ?_ ?_ | refine qT ?_ ?_ | refine qU ?_ ?_) <;> (intro h; try simp only [NM] at h)) | ((with_reducible refine CallJ.is ?_); (first | refine CallJ.pure (changesWork_sat) ?_ | ((apply CallJ.lentI); (focus (simp -dsimp (disch := (first | omega | (simp only [LN]; omega))) only [go_sem, ↓reduceIte, seval]; rfl)); (focus (first | exact (changesWork_sat)))))) | ((with_reducible refine CallH.is ?_); (first | refine CallH.intro (changesWork_sat) ?_))) <;> simp -dsimp (disch := (first | omega | (simp only [LN]; omega))) only [go_sem, ↓reduceIte, seval]) | ((with_reducible refine hK _ ?_); clear hK K) | (with_reducible first | refine qA ?_ | refine qB ?_ | refine qC ?_ | refine qD ?_ | refine qE ?_ | refine qF ?_ | refine qL ?_ | refine qM ?_ | refine qN ?_ | refine qO ?_ | refine qQ ?_) | refine qR rfl ?_ | (with_reducible refine AI ?_) | ((with_reducible refine qW (T := TT) (b := ?_) ?_ ?_); rotate_left; exact rfl) | (with_reducible first | refine qX ?_ | refine qY ?_ | refine qZ ?_) | (with_reducible first | refine qI ?_ | refine qIx ?_ | fail) | ((with_reducible refine yS ?_ ?_) <;> (intro h; try simp only [NM] at h)))
  refine AWP.loop (ι := {k : Nat // k ≤ a.length ∧ ∀ c ∈ a.take k, ∀ d ∈ b, meets s c d = false}) (fun k => ⟨123, [(1, .v (.one (eInst i))), (2, .v (.one (eChgs a))), (3, .v (.one (eChgs b))), (4, .v (.one (.ptr 4 0))), (25, .v (.one (eChgs a))), (26, .v (oI a.length)), (27, .v (oI k.1))], [(4, eSch s)], []⟩) (fun k => a.length - k.1) ⟨0, Nat.zero_le _, by simp⟩ ?_ fun ⟨k, hkl, hk⟩ => ?_
  · refine St.le_mk ?_ ?_ ?_ <;> simp only [LE, EN, Nat.reduceEqDiff, reduceIte, Nat.reduceSub, eSch]
  simp only at hkl hk ⊢
  rcases Nat.lt_or_ge k a.length with hc | hc
  · have fa := ha a[k] (List.getElem_mem _)
    have ea := encode_sat (affK s a[k]) (affK_fits hs fa)
    repeat' (first | ((first | with_reducible refine qV tyOk fun K hK => ?_ | (with_reducible first | refine qG ?_ | refine qH ?_ | refine qP ?_ | refine qGx ?_ | refine qHx ?_ | refine qPx ?_) | ((with_reducible first | refine qS ?_ ?_ | refine qT ?_ ?_ | refine qU ?_ ?_) <;> (intro h; try simp only [NM] at h))) <;> simp -dsimp (disch := (first | omega | (simp only [LN]; omega))) only [go_sem, ↓reduceIte, seval]) | ((with_reducible refine hK _ ?_); clear hK K) | (with_reducible first | refine qA ?_ | refine qB ?_ | refine qC ?_ | refine qD ?_ | refine qE ?_ | refine qF ?_ | refine qL ?_ | refine qM ?_ | refine qN ?_ | refine qO ?_ | refine qQ ?_) | refine qR rfl ?_ | (with_reducible refine AI ?_) | ((with_reducible refine qW (T := TT) (b := ?_) ?_ ?_); rotate_left; exact rfl) | (with_reducible first | refine qX ?_ | refine qY ?_ | refine qZ ?_) | (with_reducible first | refine qI ?_ | refine qIx ?_ | fail) | ((with_reducible refine yS ?_ ?_) <;> (intro h; try simp only [NM] at h)))
    refine AWP.loop (ι := {j : Nat // j ≤ b.length ∧ ∀ d ∈ b.take j, meets s a[k] d = false}) (fun j => ⟨123, [(1, .v (.one (eInst i))), (2, .v (.one (eChgs a))), (3, .v (.one (eChgs b))), (4, .v (.one (.ptr 4 0))), (25, .v (.one (eChgs a))), (26, .v (oI a.length)), (27, .v (oI k)), (10, .v (.one (.ptr 10 0))), (31, .v (.one (eChgs b))), (32, .v (oI b.length)), (33, .v (oI j.1))], [(10, eChg a[k]), (4, eSch s)], []⟩) (fun j => b.length - j.1) ⟨0, Nat.zero_le _, by simp⟩ ?_ fun ⟨j, hjl, hj⟩ => ?_
    · refine St.le_mk ?_ ?_ ?_ <;> simp only [LE, EN, Nat.reduceEqDiff, reduceIte, Nat.reduceSub, eSch, eChg]
    simp only at hjl hj ⊢
    rcases Nat.lt_or_ge j b.length with hcj | hcj
    · have fb := hb b[j] (List.getElem_mem _)
      have eb := encode_sat (affK s b[j]) (affK_fits hs fb)
      cases h1 : a[k].table.toList == b[j].table.toList with
      | false =>
        repeat' (first | ((first | with_reducible refine qV tyOk fun K hK => ?_ | (with_reducible first | refine qG ?_ | refine qH ?_ | refine qP ?_ | refine qGx ?_ | refine qHx ?_ | refine qPx ?_) | ((with_reducible first | refine qS ?_ ?_ | refine qT ?_ ?_ | refine qU ?_ ?_) <;> (intro h; try simp only [NM] at h)) | with_reducible refine yD tyOk mixed 6 (by kernel_rfl) fun K hK => ?_ | ((with_reducible refine CallJ.is ?_); (first | refine CallJ.pure (aff a[k] fa) ?_ | refine CallJ.pure (aff b[j] fb) ?_ | refine CallJ.pure (ea) ?_ | refine CallJ.pure (eb) ?_ | ((apply CallJ.lentI); (focus (simp -dsimp (disch := (first | omega | (simp only [LN]; omega))) only [go_sem, ↓reduceIte, seval, h1]; rfl)); (focus (first | exact (aff a[k] fa) | exact (aff b[j] fb) | exact (ea) | exact (eb)))))) | ((with_reducible refine CallH.is ?_); (first | refine CallH.intro (aff a[k] fa) ?_ | refine CallH.intro (aff b[j] fb) ?_ | refine CallH.intro (ea) ?_ | refine CallH.intro (eb) ?_))) <;> simp -dsimp (disch := (first | omega | (simp only [LN]; omega))) only [go_sem, ↓reduceIte, seval, h1]) | ((with_reducible refine hK _ ?_); clear hK K) | (with_reducible first | refine qA ?_ | refine qB ?_ | refine qC ?_ | refine qD ?_ | refine qE ?_ | refine qF ?_ | refine qL ?_ | refine qM ?_ | refine qN ?_ | refine qO ?_ | refine qQ ?_) | refine qR rfl ?_ | (with_reducible refine AI ?_) | ((with_reducible refine qW (T := TT) (b := ?_) ?_ ?_); rotate_left; exact rfl) | (with_reducible first | refine qX ?_ | refine qY ?_ | refine qZ ?_) | (with_reducible first | refine qI ?_ | refine qIx ?_ | fail) | ((with_reducible refine yS ?_ ?_) <;> (intro h; try simp only [NM] at h)))
        refine ⟨⟨j + 1, by omega, take_all hcj hj (by simp [meets, h1])⟩, by simp only; omega, ?_⟩
        refine St.le_mk ?_ ?_ ?_ <;> simp only [LE, EN, Nat.reduceEqDiff, reduceIte, Nat.reduceSub, eSch, eChg]
      | true =>
        cases h2 : (encB (affK s a[k])).toList == (encB (affK s b[j])).toList with
        | true =>
          repeat' (first | ((first | with_reducible refine qV tyOk fun K hK => ?_ | (with_reducible first | refine qG ?_ | refine qH ?_ | refine qP ?_ | refine qGx ?_ | refine qHx ?_ | refine qPx ?_) | ((with_reducible first | refine qS ?_ ?_ | refine qT ?_ ?_ | refine qU ?_ ?_) <;> (intro h; try simp only [NM] at h)) | with_reducible refine yD tyOk mixed 6 (by kernel_rfl) fun K hK => ?_ | ((with_reducible refine CallJ.is ?_); (first | refine CallJ.pure (aff a[k] fa) ?_ | refine CallJ.pure (aff b[j] fb) ?_ | refine CallJ.pure (ea) ?_ | refine CallJ.pure (eb) ?_ | ((apply CallJ.lentI); (focus (simp -dsimp (disch := (first | omega | (simp only [LN]; omega))) only [go_sem, ↓reduceIte, seval, h1, h2]; rfl)); (focus (first | exact (aff a[k] fa) | exact (aff b[j] fb) | exact (ea) | exact (eb)))))) | ((with_reducible refine CallH.is ?_); (first | refine CallH.intro (aff a[k] fa) ?_ | refine CallH.intro (aff b[j] fb) ?_ | refine CallH.intro (ea) ?_ | refine CallH.intro (eb) ?_))) <;> simp -dsimp (disch := (first | omega | (simp only [LN]; omega))) only [go_sem, ↓reduceIte, seval, h1, h2]) | ((with_reducible refine hK _ ?_); clear hK K) | (with_reducible first | refine qA ?_ | refine qB ?_ | refine qC ?_ | refine qD ?_ | refine qE ?_ | refine qF ?_ | refine qL ?_ | refine qM ?_ | refine qN ?_ | refine qO ?_ | refine qQ ?_) | refine qR rfl ?_ | (with_reducible refine AI ?_) | ((with_reducible refine qW (T := TT) (b := ?_) ?_ ?_); rotate_left; exact rfl) | (with_reducible first | refine qX ?_ | refine qY ?_ | refine qZ ?_) | (with_reducible first | refine qI ?_ | refine qIx ?_ | fail) | ((with_reducible refine yS ?_ ?_) <;> (intro h; try simp only [NM] at h)))
          simp -dsimp (disch := (first | omega | (simp only [LN]; omega))) only [retQ, Tryd.results7, resVals, cellRV, resOf, St.rest, St.freeze, RT, go_sem, ↓reduceIte, seval]
        | false =>
          repeat' (first | ((first | with_reducible refine qV tyOk fun K hK => ?_ | (with_reducible first | refine qG ?_ | refine qH ?_ | refine qP ?_ | refine qGx ?_ | refine qHx ?_ | refine qPx ?_) | ((with_reducible first | refine qS ?_ ?_ | refine qT ?_ ?_ | refine qU ?_ ?_) <;> (intro h; try simp only [NM] at h)) | with_reducible refine yD tyOk mixed 6 (by kernel_rfl) fun K hK => ?_ | ((with_reducible refine CallJ.is ?_); (first | refine CallJ.pure (aff a[k] fa) ?_ | refine CallJ.pure (aff b[j] fb) ?_ | refine CallJ.pure (ea) ?_ | refine CallJ.pure (eb) ?_ | ((apply CallJ.lentI); (focus (simp -dsimp (disch := (first | omega | (simp only [LN]; omega))) only [go_sem, ↓reduceIte, seval, h1, h2]; rfl)); (focus (first | exact (aff a[k] fa) | exact (aff b[j] fb) | exact (ea) | exact (eb)))))) | ((with_reducible refine CallH.is ?_); (first | refine CallH.intro (aff a[k] fa) ?_ | refine CallH.intro (aff b[j] fb) ?_ | refine CallH.intro (ea) ?_ | refine CallH.intro (eb) ?_))) <;> simp -dsimp (disch := (first | omega | (simp only [LN]; omega))) only [go_sem, ↓reduceIte, seval, h1, h2]) | ((with_reducible refine hK _ ?_); clear hK K) | (with_reducible first | refine qA ?_ | refine qB ?_ | refine qC ?_ | refine qD ?_ | refine qE ?_ | refine qF ?_ | refine qL ?_ | refine qM ?_ | refine qN ?_ | refine qO ?_ | refine qQ ?_) | refine qR rfl ?_ | (with_reducible refine AI ?_) | ((with_reducible refine qW (T := TT) (b := ?_) ?_ ?_); rotate_left; exact rfl) | (with_reducible first | refine qX ?_ | refine qY ?_ | refine qZ ?_) | (with_reducible first | refine qI ?_ | refine qIx ?_ | fail) | ((with_reducible refine yS ?_ ?_) <;> (intro h; try simp only [NM] at h)))
          refine ⟨⟨j + 1, by omega, take_all hcj hj (by simp [meets, h1, h2])⟩, by simp only; omega, ?_⟩
          refine St.le_mk ?_ ?_ ?_ <;> simp only [LE, EN, Nat.reduceEqDiff, reduceIte, Nat.reduceSub, eSch, eChg]
    · have hj : ∀ d ∈ b, meets s a[k] d = false := by rwa [List.take_of_length_le hcj] at hj
      repeat' (first | ((first | with_reducible refine qV tyOk fun K hK => ?_ | (with_reducible first | refine qG ?_ | refine qH ?_ | refine qP ?_ | refine qGx ?_ | refine qHx ?_ | refine qPx ?_) | ((with_reducible first | refine qS ?_ ?_ | refine qT ?_ ?_ | refine qU ?_ ?_) <;> (intro h; try simp only [NM] at h)) | with_reducible refine yD tyOk mixed 6 (by kernel_rfl) fun K hK => ?_) <;> simp -dsimp (disch := (first | omega | (simp only [LN]; omega))) only [go_sem, ↓reduceIte, seval]) | ((with_reducible refine hK _ ?_); clear hK K) | (with_reducible first | refine qA ?_ | refine qB ?_ | refine qC ?_ | refine qD ?_ | refine qE ?_ | refine qF ?_ | refine qL ?_ | refine qM ?_ | refine qN ?_ | refine qO ?_ | refine qQ ?_) | refine qR rfl ?_ | (with_reducible refine AI ?_) | ((with_reducible refine qW (T := TT) (b := ?_) ?_ ?_); rotate_left; exact rfl) | (with_reducible first | refine qX ?_ | refine qY ?_ | refine qZ ?_) | (with_reducible first | refine qI ?_ | refine qIx ?_ | fail) | ((with_reducible refine yS ?_ ?_) <;> (intro h; try simp only [NM] at h)))
      refine ⟨⟨k + 1, by omega, take_all hc hk hj⟩, by simp only; omega, ?_⟩
      refine St.le_mk ?_ ?_ ?_ <;> simp only [LE, EN, Nat.reduceEqDiff, reduceIte, Nat.reduceSub, eSch, eChg]
  · have hk : ∀ c ∈ a, ∀ d ∈ b, meets s c d = false := by rwa [List.take_of_length_le hc] at hk
    by_cases h0 : (applyE s i a).1 = 0 ∧ (applyE s i b).1 = 0
    · obtain ⟨h1, h2⟩ := h0
      have law := indep_law (s := s) (i := i) (a := a) (b := b) (fun c hc d hd hsame => by
        have := hk c hc d hd
        rw [meets_same (applyL_chg (applyE_okU h1).2.2.2.1 c hc) (applyL_chg (applyE_okU h2).2.2.2.1 d hd) hsame] at this
        cases this) h1 h2
      obtain ⟨l1, law⟩ := law
      rw [l1] at s5
      obtain ⟨⟨e, x⟩, hx⟩ : ∃ x, applyE s i a = x := ⟨_, rfl⟩
      obtain ⟨⟨f, y⟩, hy⟩ : ∃ x, applyE s i b = x := ⟨_, rfl⟩
      rw [hx] at s1 s3 s6 law h1
      rw [hy] at s2 s4 s6 law h2
      simp only at s1 s2 s3 s4 s6 law h1 h2
      subst h1 h2
      obtain ⟨⟨g, xy⟩, hxy⟩ : ∃ z, applyE s x b = z := ⟨_, rfl⟩
      obtain ⟨⟨h, yx⟩, hyx⟩ : ∃ z, applyE s y a = z := ⟨_, rfl⟩
      rw [hxy] at s3 s6 law
      rw [hyx] at s4 s6 law
      simp only at s3 s4 s6 law
      repeat' (first | ((first | with_reducible refine qV tyOk fun K hK => ?_ | (with_reducible first | refine qG ?_ | refine qH ?_ | refine qP ?_ | refine qGx ?_ | refine qHx ?_ | refine qPx ?_) | ((with_reducible first | refine qS ?_ ?_ | refine qT ?_ ?_ | refine qU ?_ ?_) <;> (intro h; try simp only [NM] at h)) | with_reducible refine yD tyOk mixed 6 (by kernel_rfl) fun K hK => ?_ | ((with_reducible refine CallJ.is ?_); (first | refine CallJ.pure (s1) ?_ | refine CallJ.pure (s2) ?_ | refine CallJ.pure (s3) ?_ | refine CallJ.pure (s4) ?_ | refine CallJ.pure (s5) ?_ | refine CallJ.pure (s6) ?_ | ((apply CallJ.lentI); (focus (simp -dsimp (disch := (first | omega | (simp only [LN]; omega))) only [go_sem, ↓reduceIte, seval]; rfl)); (focus (first | exact (s1) | exact (s2) | exact (s3) | exact (s4) | exact (s5) | exact (s6)))))) | ((with_reducible refine CallH.is ?_); (first | refine CallH.intro (s1) ?_ | refine CallH.intro (s2) ?_ | refine CallH.intro (s3) ?_ | refine CallH.intro (s4) ?_ | refine CallH.intro (s5) ?_ | refine CallH.intro (s6) ?_))) <;> simp -dsimp (disch := (first | omega | (simp only [LN]; omega))) only [go_sem, ↓reduceIte, seval]) | ((with_reducible refine hK _ ?_); clear hK K) | (with_reducible first | refine qA ?_ | refine qB ?_ | refine qC ?_ | refine qD ?_ | refine qE ?_ | refine qF ?_ | refine qL ?_ | refine qM ?_ | refine qN ?_ | refine qO ?_ | refine qQ ?_) | refine qR rfl ?_ | (with_reducible refine AI ?_) | ((with_reducible refine qW (T := TT) (b := ?_) ?_ ?_); rotate_left; exact rfl) | (with_reducible first | refine qX ?_ | refine qY ?_ | refine qZ ?_) | (with_reducible first | refine qI ?_ | refine qIx ?_ | fail) | ((with_reducible refine yS ?_ ?_) <;> (intro h; try simp only [NM] at h)))
      all_goals simp -dsimp (disch := (first | omega | (simp only [LN]; omega))) only [retQ, Tryd.results7, resVals, cellRV, resOf, St.rest, St.freeze, RT, go_sem, ↓reduceIte, seval]
      all_goals simp_all
    · obtain ⟨⟨e, x⟩, hx⟩ : ∃ x, applyE s i a = x := ⟨_, rfl⟩
      obtain ⟨⟨f, y⟩, hy⟩ : ∃ x, applyE s i b = x := ⟨_, rfl⟩
      rw [hx] at s1 h0
      rw [hy] at s2 h0
      simp only at s1 s2 h0
      by_cases he : e = 0
      · have hf' : ¬ f = 0 := fun q => h0 ⟨he, q⟩
        repeat' (first | ((first | with_reducible refine qV tyOk fun K hK => ?_ | (with_reducible first | refine qG ?_ | refine qH ?_ | refine qP ?_ | refine qGx ?_ | refine qHx ?_ | refine qPx ?_) | with_reducible refine yD tyOk mixed 6 (by kernel_rfl) fun K hK => ?_ | ((with_reducible refine CallJ.is ?_); (first | refine CallJ.pure (s1) ?_ | refine CallJ.pure (s2) ?_ | ((apply CallJ.lentI); (focus (simp -dsimp (disch := (first | omega | (simp only [LN]; omega))) only [go_sem, ↓reduceIte, seval, he, hf']; rfl)); (focus (first | exact (s1) | exact (s2)))))) | ((with_reducible refine CallH.is ?_); (first | refine CallH.intro (s1) ?_ | refine CallH.intro (s2) ?_))) <;> simp -dsimp (disch := (first | omega | (simp only [LN]; omega))) only [go_sem, ↓reduceIte, seval, he, hf']) | ((with_reducible refine hK _ ?_); clear hK K) | (with_reducible first | refine qA ?_ | refine qB ?_ | refine qC ?_ | refine qD ?_ | refine qE ?_ | refine qF ?_ | refine qL ?_ | refine qM ?_ | refine qN ?_ | refine qO ?_ | refine qQ ?_) | refine qR rfl ?_ | (with_reducible refine AI ?_) | ((with_reducible refine qW (T := TT) (b := ?_) ?_ ?_); rotate_left; exact rfl) | (with_reducible first | refine qX ?_ | refine qY ?_ | refine qZ ?_) | (with_reducible first | refine qI ?_ | refine qIx ?_ | fail))
        all_goals simp -dsimp (disch := (first | omega | (simp only [LN]; omega))) only [retQ, Tryd.results7, resVals, cellRV, resOf, St.rest, St.freeze, RT, go_sem, ↓reduceIte, seval]
      · repeat' (first | ((first | with_reducible refine qV tyOk fun K hK => ?_ | (with_reducible first | refine qG ?_ | refine qH ?_ | refine qP ?_ | refine qGx ?_ | refine qHx ?_ | refine qPx ?_) | with_reducible refine yD tyOk mixed 6 (by kernel_rfl) fun K hK => ?_ | ((with_reducible refine CallJ.is ?_); (first | refine CallJ.pure (s1) ?_ | refine CallJ.pure (s2) ?_ | ((apply CallJ.lentI); (focus (simp -dsimp (disch := (first | omega | (simp only [LN]; omega))) only [go_sem, ↓reduceIte, seval, he]; rfl)); (focus (first | exact (s1) | exact (s2)))))) | ((with_reducible refine CallH.is ?_); (first | refine CallH.intro (s1) ?_ | refine CallH.intro (s2) ?_))) <;> simp -dsimp (disch := (first | omega | (simp only [LN]; omega))) only [go_sem, ↓reduceIte, seval, he]) | ((with_reducible refine hK _ ?_); clear hK K) | (with_reducible first | refine qA ?_ | refine qB ?_ | refine qC ?_ | refine qD ?_ | refine qE ?_ | refine qF ?_ | refine qL ?_ | refine qM ?_ | refine qN ?_ | refine qO ?_ | refine qQ ?_) | refine qR rfl ?_ | (with_reducible refine AI ?_) | ((with_reducible refine qW (T := TT) (b := ?_) ?_ ?_); rotate_left; exact rfl) | (with_reducible first | refine qX ?_ | refine qY ?_ | refine qZ ?_) | (with_reducible first | refine qI ?_ | refine qIx ?_ | fail))
        all_goals simp -dsimp (disch := (first | omega | (simp only [LN]; omega))) only [retQ, Tryd.results7, resVals, cellRV, resOf, St.rest, St.freeze, RT, go_sem, ↓reduceIte, seval]

section
open Go.RowKit Go.Proofs Go.Proofs.YtmmbghbkpjmifaaDoor
theorem bulk_one {H : Type} (d : DataW H) : 1 ≤ Rows.uptoBulk d := by
  cases d with
  | lit l => cases l <;> simp [Rows.uptoBulk]
  | nil => simp [Rows.uptoBulk]
  | ptr d => simp [Rows.uptoBulk]
  | slice elems spare => simp [Rows.uptoBulk]
  | agg parts => simp [Rows.uptoBulk]
  | iface t d => simp [Rows.uptoBulk]
  | map entries => simp [Rows.uptoBulk]
  | held h => simp [Rows.uptoBulk]
theorem bulk_part {H : Type} {d : DataW H} {l : List (DataW H)} (h : d ∈ l) : Rows.uptoBulk d ≤ Rows.uptoBulkAll l := by
  induction l with
  | nil => cases h
  | cons x r ih =>
    simp only [Rows.uptoBulkAll]
    rcases List.mem_cons.1 h with e | e
    · subst e; omega
    · have := ih e; omega
theorem bulk_length {H : Type} (l : List (DataW H)) : l.length ≤ Rows.uptoBulkAll l := by
  induction l with
  | nil => simp [Rows.uptoBulkAll]
  | cons x r ih => have := bulk_one x; simp only [Rows.uptoBulkAll, List.length_cons]; omega

structure RdB (P : Program) (w : World) (t : TypeId) {α : Type} (e : α → List L) (good : Nat → α → Prop) : Prop where
  get : ∀ {H : Type} {enc : TypeId × Value → H} {base : Nat} {spare : Nat → Bool} {held : Bool} {n : Nat} {cs : List Value} {x : DataW H × List MemPlace} {N : Nat}, DataW.trod enc P w base spare held n t cs = some x →
    Rows.uptoBulk x.1 ≤ N → ∃ y, good N y ∧ CRd w cs (e y)
section
variable {P : Program} {w : World} {t : TypeId}
theorem rdb_bool (ht : P.underlying t = some .bool) : RdB P w t (fun b => [.bool b]) fun _ _ => True := by
  constructor
  intro H enc base spare held n cs x N h _
  obtain ⟨b, rfl, rfl⟩ := DataW.trod_bool ht h
  exact ⟨b, trivial, .one (.bool b)⟩
theorem RdB.to {α β : Type} {e : α → List L} {e' : β → List L} {good : Nat → α → Prop} {good' : Nat → β → Prop} (h : RdB P w t e good) (f : α → β) (he : ∀ x, e' (f x) = e x) (hg : ∀ N x, good N x → good' N (f x)) : RdB P w t e' good' := by
  constructor
  intro H enc base spare held n cs x N h1 h2
  obtain ⟨y, h3, h4⟩ := h.get h1 h2
  exact ⟨f y, hg N y h3, by rw [he]; exact h4⟩

theorem rdb_slice {e : TypeId} {α : Type} {eβ : α → List L} {good : Nat → α → Prop} {sz : Nat} (ht : P.underlying t = some (.slice e)) (hsz : P.cellsOf e = sz) (hl : ∀ x, (eβ x).length = sz) (h : RdB P w e eβ good) :
    RdB P w t (fun l => [.sl sz (l.map eβ)]) fun N (l : List α) => l.length ≤ N ∧ ∀ x ∈ l, good N x := by
  constructor
  intro H enc base spare held n cs x N h1 h2
  rcases DataW.trod_slice ht h1 with ⟨rfl, rfl⟩ | ⟨a, len, cap, elems, rest, m, rfl, rfl, rfl, k1, k2, k3, k4, k5, k6, k7⟩
  · exact ⟨[], ⟨by simp, by simp⟩, .one (.slNil sz)⟩
  · rw [hsz] at k5
    simp only [Rows.uptoBulk] at h2
    have hw : ∀ d ∈ elems.map (·.1), Rows.uptoBulk d ≤ N := fun d hd => Nat.le_trans (bulk_part hd) (by omega)
    have hbw : len ≤ N := by
      have := bulk_length (elems.map (·.1))
      rw [List.length_map] at this
      omega
    obtain ⟨l, h3, h4⟩ := choose_list (R := fun i (x : α) => good N x ∧ ∃ cs, w.cells? base (a.add (i * sz)) sz = some cs ∧ CRd w cs (eβ x)) len fun i hi => by
      have k8 := k5 i hi
      have hi' : i < elems.length := by omega
      rw [List.getElem?_eq_getElem hi'] at k8
      obtain ⟨cs, h5, h6⟩ := Option.bind_eq_some_iff.1 k8
      obtain ⟨x, h7, h8⟩ := h.get h6 (hw _ (List.mem_map.2 ⟨_, List.getElem_mem hi', rfl⟩))
      exact ⟨x, h7, cs, h5, h8⟩
    refine ⟨l, ⟨by rw [h3]; exact hbw, fun x hx => ?_⟩, .one ?_⟩
    · obtain ⟨i, hi, rfl⟩ := List.mem_iff_getElem.1 hx
      exact (h4 i _ (List.getElem?_eq_getElem hi)).1
    · -- each cell
      have hcell : ∀ i j u, cellOf (l.map eβ) i j = some u → ∃ v, memOf w (a.add (i * sz + j)) = some v ∧ Rep (memOf w) v u := by
        intro i j u hu
        unfold cellOf at hu
        rw [List.getElem?_map] at hu
        cases hli : l[i]? with
        | none => rw [hli] at hu; simp at hu
        | some x =>
          rw [hli] at hu
          simp only [Option.map_some, Option.bind_some] at hu
          obtain ⟨_, cs, h5, h6, h7⟩ := h4 i x hli
          obtain ⟨v, h8, h9⟩ := h7 j u hu
          refine ⟨v, ?_, h9⟩
          have hj : j < sz := by
            have := (List.getElem?_eq_some_iff.1 hu).1
            rw [hl] at this
            exact this
          unfold World.cells? at h5
          split at h5
          · have := mapM_some_get h5 j j (by simp [hj])
            rw [h8, Addr.add_add] at this
            exact this
          · cases h5
      refine .sl a len cap sz (l.map eβ) (fun i j => (memOf w (a.add (i * sz + j))).getD default) (by simp [h3]) k2 (fun y hy => ?_) (fun i j u hu => ?_) (fun i j u hu => ?_)
      · obtain ⟨x, _, rfl⟩ := List.mem_map.1 hy
        exact hl x
      · obtain ⟨v, h5, _⟩ := hcell i j u hu
        rw [h5]; rfl
      · obtain ⟨v, h5, h6⟩ := hcell i j u hu
        rw [h5]; exact h6

structure RdFB (P : Program) (w : World) (fs : List Field) (off : Nat) {α : Type} (e : α → List L) (good : Nat → α → Prop) : Prop where
  get : ∀ {H : Type} {enc : TypeId × Value → H} {base : Nat} {spare : Nat → Bool} {held : Bool} {n : Nat} {cs : List Value} {xs : List (DataW H × List MemPlace)} {N : Nat}, xs.length = fs.length →
    (∀ (i : Nat) (f : Field), fs[i]? = some f → DataW.trod enc P w base spare held n f.type ((cs.drop f.offset).take (P.cellsOf f.type)) = xs[i]?) →
    Rows.uptoBulkAll (xs.map (·.1)) ≤ N → off + (fs.map fun f => P.cellsOf f.type).sum = cs.length → ∃ y, good N y ∧ CRd w (cs.drop off) (e y)

theorem rdFb_nil {off : Nat} : RdFB P w [] off (fun _ : Unit => []) fun _ _ => True := by
  constructor
  intro H enc base spare held n cs xs N _ _ _ hl
  refine ⟨(), trivial, ?_⟩
  have : cs.drop off = [] := List.drop_eq_nil_of_le (by simp at hl; omega)
  rw [this]
  exact ⟨rfl, fun j l hj => by simp at hj⟩
theorem rdFb_cons {f : Field} {fs : List Field} {off sz : Nat} {α β : Type} {e0 : α → List L} {e1 : β → List L} {g0 : Nat → α → Prop} {g1 : Nat → β → Prop} (hf : f.offset = off) (hsz : P.cellsOf f.type = sz) (h0 : RdB P w f.type e0 g0) (h1 : RdFB P w fs (off + sz) e1 g1) :
    RdFB P w (f :: fs) off (fun p : α × β => e0 p.1 ++ e1 p.2) fun N p => g0 N p.1 ∧ g1 N p.2 := by
  constructor
  intro H enc base spare held n cs xs N hx ht hw hl
  cases xs with
  | nil => simp at hx
  | cons x xs =>
    simp only [List.map_cons, Rows.uptoBulkAll] at hw
    have k0 := ht 0 f rfl
    simp only [List.getElem?_cons_zero] at k0
    obtain ⟨y, h2, h3⟩ := h0.get k0 (N := N) (by omega)
    obtain ⟨z, h4, h5⟩ := h1.get (cs := cs) (N := N) (by simpa using hx) (fun i f' hi => by have := ht (i + 1) f' (by simpa using hi); simpa using this) (by omega) (by simp only [List.map_cons, List.sum_cons, hsz] at hl; omega)
    refine ⟨(y, z), ⟨h2, h4⟩, ?_⟩
    have e : cs.drop off = (cs.drop f.offset).take (P.cellsOf f.type) ++ cs.drop (off + sz) := by
      rw [hf, hsz, ← List.drop_drop, List.take_append_drop]
    rw [e]
    exact h3.append h5
theorem rdb_struct {fs : Array Field} {α : Type} {e : α → List L} {good : Nat → α → Prop} (ht : P.underlying t = some (.struct fs)) (hc : P.cellsOf t = (fs.toList.map fun f => P.cellsOf f.type).sum) (h : RdFB P w fs.toList 0 e good) : RdB P w t e good := by
  constructor
  intro H enc base spare held n cs x N h1 h2
  obtain ⟨xs, m, rfl, rfl, k1, k2, k3⟩ := DataW.trod_struct ht h1
  obtain ⟨y, h3, h4⟩ := h.get (cs := cs) (by simpa using k2) (fun i f hi => k3 i f (by simpa using hi)) (N := N) (by simp only [Rows.uptoBulk] at h2; omega) (by rw [k1, hc]; simp)
  exact ⟨y, h3, by simpa using h4⟩

theorem rdb_struct2 {f0 f1 : Field} {z0 z1 : Nat} {α β : Type} {e0 : α → List L} {e1 : β → List L} {g0 : Nat → α → Prop} {g1 : Nat → β → Prop} (ht : P.underlying t = some (.struct #[f0, f1])) (ho : f0.offset = 0 ∧ f1.offset = 0 + z0) (hz : P.cellsOf f0.type = z0 ∧ P.cellsOf f1.type = z1) (hc : P.cellsOf t = 0 + z0 + z1) (h0 : RdB P w f0.type e0 g0) (h1 : RdB P w f1.type e1 g1) : RdB P w t (fun p : α × β × Unit => e0 p.1 ++ (e1 p.2.1 ++ [])) (fun N p => g0 N p.1 ∧ g1 N p.2.1 ∧ True) :=
  rdb_struct ht (by rw [hc]; simp [hz.1, hz.2]; try omega) (rdFb_cons ho.1 hz.1 h0 (rdFb_cons ho.2 hz.2 h1 (rdFb_nil)))
theorem rdb_struct3 {f0 f1 f2 : Field} {z0 z1 z2 : Nat} {α β γ : Type} {e0 : α → List L} {e1 : β → List L} {e2 : γ → List L} {g0 : Nat → α → Prop} {g1 : Nat → β → Prop} {g2 : Nat → γ → Prop} (ht : P.underlying t = some (.struct #[f0, f1, f2])) (ho : f0.offset = 0 ∧ f1.offset = 0 + z0 ∧ f2.offset = 0 + z0 + z1) (hz : P.cellsOf f0.type = z0 ∧ P.cellsOf f1.type = z1 ∧ P.cellsOf f2.type = z2) (hc : P.cellsOf t = 0 + z0 + z1 + z2) (h0 : RdB P w f0.type e0 g0) (h1 : RdB P w f1.type e1 g1) (h2 : RdB P w f2.type e2 g2) : RdB P w t (fun p : α × β × γ × Unit => e0 p.1 ++ (e1 p.2.1 ++ (e2 p.2.2.1 ++ []))) (fun N p => g0 N p.1 ∧ g1 N p.2.1 ∧ g2 N p.2.2.1 ∧ True) :=
  rdb_struct ht (by rw [hc]; simp [hz.1, hz.2.1, hz.2.2]; try omega) (rdFb_cons ho.1 hz.1 h0 (rdFb_cons ho.2.1 hz.2.1 h1 (rdFb_cons ho.2.2 hz.2.2 h2 (rdFb_nil))))
theorem rdb_struct4 {f0 f1 f2 f3 : Field} {z0 z1 z2 z3 : Nat} {α β γ δ : Type} {e0 : α → List L} {e1 : β → List L} {e2 : γ → List L} {e3 : δ → List L} {g0 : Nat → α → Prop} {g1 : Nat → β → Prop} {g2 : Nat → γ → Prop} {g3 : Nat → δ → Prop} (ht : P.underlying t = some (.struct #[f0, f1, f2, f3])) (ho : f0.offset = 0 ∧ f1.offset = 0 + z0 ∧ f2.offset = 0 + z0 + z1 ∧ f3.offset = 0 + z0 + z1 + z2) (hz : P.cellsOf f0.type = z0 ∧ P.cellsOf f1.type = z1 ∧ P.cellsOf f2.type = z2 ∧ P.cellsOf f3.type = z3) (hc : P.cellsOf t = 0 + z0 + z1 + z2 + z3) (h0 : RdB P w f0.type e0 g0) (h1 : RdB P w f1.type e1 g1) (h2 : RdB P w f2.type e2 g2) (h3 : RdB P w f3.type e3 g3) : RdB P w t (fun p : α × β × γ × δ × Unit => e0 p.1 ++ (e1 p.2.1 ++ (e2 p.2.2.1 ++ (e3 p.2.2.2.1 ++ [])))) (fun N p => g0 N p.1 ∧ g1 N p.2.1 ∧ g2 N p.2.2.1 ∧ g3 N p.2.2.2.1 ∧ True) :=
  rdb_struct ht (by rw [hc]; simp [hz.1, hz.2.1, hz.2.2.1, hz.2.2.2]; try omega) (rdFb_cons ho.1 hz.1 h0 (rdFb_cons ho.2.1 hz.2.1 h1 (rdFb_cons ho.2.2.1 hz.2.2.1 h2 (rdFb_cons ho.2.2.2 hz.2.2.2 h3 (rdFb_nil)))))
end
variable {w : World}
end

section
open Go.Proofs.YtmmbghbkpjmifaaDoor

variable {w : World}
theorem rdb_intF {P : Program} {t : TypeId} {k : IntKind} (ht : P.underlying t = some (.int k)) : RdB P w t (fun n => [.int k n]) fun _ n => (Lit.int k n).wf = true := by
  constructor
  intro H enc base spare held n cs x N h _
  obtain ⟨m, rfl, rfl, hw⟩ := DataW.trod_int ht h
  exact ⟨m, hw, .one (.int k m)⟩
theorem rdb_stringF {P : Program} {t : TypeId} (ht : P.underlying t = some .string) : RdB P w t (fun s => [.str s]) fun N s => s.size ≤ N := by
  constructor
  intro H enc base spare held n cs x N h hw
  obtain ⟨s, rfl, rfl, _⟩ := DataW.trod_string ht h
  refine ⟨s, ?_, .one (.str s)⟩
  simp only [Rows.uptoBulk] at hw
  have e : s.data.toList.length = s.size := Array.length_toList
  omega
theorem intOk_bounds {n : Int} (h : (Lit.int .i64 n).wf = true) : -9223372036854775808 ≤ n ∧ n ≤ 9223372036854775807 := by
  simpa [Lit.wf, IntKind.min, IntKind.max, IntKind.signed, IntKind.bits] using h
theorem rdb_valF : RdB Tryd.prog w 50 eVal fun N v => (Lit.int .i64 v.kind).wf = true ∧ (Lit.int .i64 v.int).wf = true ∧ v.text.size ≤ N :=
  (rdb_struct3 Tryd.underlying50 ⟨rfl, rfl, rfl⟩ ⟨cells_int, cells_int, cells_string⟩ cells_Value (rdb_intF Tryd.underlying3) (rdb_intF Tryd.underlying3) (rdb_stringF Tryd.underlying9)).to (fun p => ⟨p.1, p.2.1, p.2.2.1⟩) (fun _ => by simp [eVal]) fun _ _ h => ⟨h.1, h.2.1, h.2.2.1⟩
theorem rdb_rowF : RdB Tryd.prog w 28 (fun l => [eRow l]) fun N l => l.length ≤ N ∧ ∀ v ∈ l, (Lit.int .i64 v.kind).wf = true ∧ (Lit.int .i64 v.int).wf = true ∧ v.text.size ≤ N :=
  rdb_slice Tryd.underlying28 cells_Value (fun _ => rfl) rdb_valF
theorem rowFits_of {l : Row} (h : l.length ≤ 1048576 ∧ ∀ v ∈ l, (Lit.int .i64 v.kind).wf = true ∧ (Lit.int .i64 v.int).wf = true ∧ v.text.size ≤ 1048576) : RowFits l :=
  ⟨h.1, fun v hv => ⟨(intOk_bounds (h.2 v hv).1).1, (intOk_bounds (h.2 v hv).1).2, (intOk_bounds (h.2 v hv).2.1).1, (intOk_bounds (h.2 v hv).2.1).2, (h.2 v hv).2.2⟩⟩
end

section
open Go.Proofs.YtmmbghbkpjmifaaDoor

section
variable {P : Program} {w : World} {t : TypeId}
theorem rdb_struct5 {f0 f1 f2 f3 f4 : Field} {z0 z1 z2 z3 z4 : Nat} {α β γ δ ε : Type} {e0 : α → List L} {e1 : β → List L} {e2 : γ → List L} {e3 : δ → List L} {e4 : ε → List L} {g0 : Nat → α → Prop} {g1 : Nat → β → Prop} {g2 : Nat → γ → Prop} {g3 : Nat → δ → Prop} {g4 : Nat → ε → Prop} (ht : P.underlying t = some (.struct #[f0, f1, f2, f3, f4]))
    (ho : f0.offset = 0 ∧ f1.offset = 0 + z0 ∧ f2.offset = 0 + z0 + z1 ∧ f3.offset = 0 + z0 + z1 + z2 ∧ f4.offset = 0 + z0 + z1 + z2 + z3) (hz : P.cellsOf f0.type = z0 ∧ P.cellsOf f1.type = z1 ∧ P.cellsOf f2.type = z2 ∧ P.cellsOf f3.type = z3 ∧ P.cellsOf f4.type = z4) (hc : P.cellsOf t = z0 + z1 + z2 + z3 + z4)
    (h0 : RdB P w f0.type e0 g0) (h1 : RdB P w f1.type e1 g1) (h2 : RdB P w f2.type e2 g2) (h3 : RdB P w f3.type e3 g3) (h4 : RdB P w f4.type e4 g4) :
    RdB P w t (fun p : α × β × γ × δ × ε × Unit => e0 p.1 ++ (e1 p.2.1 ++ (e2 p.2.2.1 ++ (e3 p.2.2.2.1 ++ (e4 p.2.2.2.2.1 ++ []))))) fun N p => g0 N p.1 ∧ g1 N p.2.1 ∧ g2 N p.2.2.1 ∧ g3 N p.2.2.2.1 ∧ g4 N p.2.2.2.2.1 ∧ True :=
  rdb_struct ht (by rw [hc]; simp [hz.1, hz.2.1, hz.2.2.1, hz.2.2.2.1, hz.2.2.2.2]; try omega) (rdFb_cons ho.1 hz.1 h0 (rdFb_cons ho.2.1 hz.2.1 h1 (rdFb_cons ho.2.2.1 hz.2.2.1 h2 (rdFb_cons ho.2.2.2.1 hz.2.2.2.1 h3 (rdFb_cons ho.2.2.2.2 hz.2.2.2.2 h4 (rdFb_nil))))))
end
variable {w : World}
abbrev WF (n : Int) : Prop := (Lit.int .i64 n).wf = true
abbrev ValW (N : Nat) (v : Val) : Prop := WF v.kind ∧ WF v.int ∧ v.text.size ≤ N
abbrev RowW (N : Nat) (r : Row) : Prop := r.length ≤ N ∧ ∀ v ∈ r, ValW N v
abbrev ColW (N : Nat) (c : Col) : Prop := c.name.size ≤ N ∧ WF c.kind
abbrev TblW (N : Nat) (t : Tbl) : Prop := t.name.size ≤ N ∧ (t.cols.length ≤ N ∧ ∀ c ∈ t.cols, ColW N c) ∧ (t.pk.length ≤ N ∧ ∀ c ∈ t.pk, WF c)
abbrev FkW (N : Nat) (f : FK) : Prop := f.table.size ≤ N ∧ (f.cols.length ≤ N ∧ ∀ c ∈ f.cols, WF c) ∧ f.ref.size ≤ N
abbrev ConW (N : Nat) (c : Con) : Prop := c.table.size ≤ N ∧ WF c.left ∧ c.op.size ≤ N ∧ WF c.right ∧ ValW N c.value
abbrev SchW (N : Nat) (s : Sch) : Prop := (s.tables.length ≤ N ∧ ∀ t ∈ s.tables, TblW N t) ∧ (s.fks.length ≤ N ∧ ∀ f ∈ s.fks, FkW N f) ∧ (s.cons.length ≤ N ∧ ∀ c ∈ s.cons, ConW N c)
abbrev RelW (N : Nat) (r : Rel) : Prop := r.rows.length ≤ N ∧ ∀ x ∈ r.rows, RowW N x
abbrev ChgW (N : Nat) (c : Chg) : Prop := RowW N c.key ∧ RowW N c.row
theorem rdb_IF : RdB Tryd.prog w 3 (fun n => [.int .i64 n]) fun _ n => WF n := rdb_intF Tryd.underlying3
theorem rdb_SF : RdB Tryd.prog w 9 (fun s => [.str s]) fun N s => s.size ≤ N := rdb_stringF Tryd.underlying9
theorem rdb_intsF : RdB Tryd.prog w 23 (fun l => [eInts l]) fun N l => l.length ≤ N ∧ ∀ c ∈ l, WF c :=
  rdb_slice Tryd.underlying23 cells_int (fun _ => rfl) (eβ := eInt1) rdb_IF
theorem rdb_colF : RdB Tryd.prog w 46 eCol ColW :=
  (rdb_struct3 Tryd.underlying46 ⟨rfl, rfl, rfl⟩ ⟨cells_string, cells_int, cells_bool⟩ cells_Column rdb_SF rdb_IF (rdb_bool Tryd.underlying4)).to (fun p => ⟨p.1, p.2.1, p.2.2.1⟩) (fun _ => by simp [eCol]) fun _ _ h => ⟨h.1, h.2.1⟩
theorem rdb_colsF : RdB Tryd.prog w 22 (fun l => [eCols l]) fun N l => l.length ≤ N ∧ ∀ c ∈ l, ColW N c :=
  rdb_slice Tryd.underlying22 cells_Column (fun _ => rfl) rdb_colF
theorem rdb_tblF : RdB Tryd.prog w 25 eTbl TblW :=
  (rdb_struct3 Tryd.underlying25 ⟨rfl, rfl, rfl⟩ ⟨cells_string, cells_s_Column, cells_s_int⟩ cells_Table rdb_SF rdb_colsF rdb_intsF).to (fun p => ⟨p.1, p.2.1, p.2.2.1⟩) (fun _ => by simp [eTbl]) fun _ _ h => ⟨h.1, h.2.1, h.2.2.1⟩
theorem rdb_tblsF : RdB Tryd.prog w 38 (fun l => [eTbls l]) fun N l => l.length ≤ N ∧ ∀ c ∈ l, TblW N c :=
  rdb_slice Tryd.underlying38 cells_Table (fun _ => rfl) rdb_tblF
theorem rdb_fkF : RdB Tryd.prog w 48 eFK FkW :=
  (rdb_struct3 Tryd.underlying48 ⟨rfl, rfl, rfl⟩ ⟨cells_string, cells_s_int, cells_string⟩ cells_ForeignKey rdb_SF rdb_intsF rdb_SF).to (fun p => ⟨p.1, p.2.1, p.2.2.1⟩) (fun _ => by simp [eFK]) fun _ _ h => ⟨h.1, h.2.1, h.2.2.1⟩
theorem rdb_fksF : RdB Tryd.prog w 39 (fun l => [eFKs l]) fun N l => l.length ≤ N ∧ ∀ c ∈ l, FkW N c :=
  rdb_slice Tryd.underlying39 cells_ForeignKey (fun _ => rfl) rdb_fkF
theorem rdb_conF : RdB Tryd.prog w 52 eCon ConW :=
  (rdb_struct5 Tryd.underlying52 ⟨rfl, rfl, rfl, rfl, rfl⟩ ⟨cells_string, cells_int, cells_string, cells_int, cells_Value⟩ cells_Constraint rdb_SF rdb_IF rdb_SF rdb_IF rdb_valF).to (fun p => ⟨p.1, p.2.1, p.2.2.1, p.2.2.2.1, p.2.2.2.2.1⟩) (fun _ => by simp [eCon, eVal]) fun _ _ h => ⟨h.1, h.2.1, h.2.2.1, h.2.2.2.1, h.2.2.2.2.1⟩
theorem rdb_consF : RdB Tryd.prog w 40 (fun l => [eCons l]) fun N l => l.length ≤ N ∧ ∀ c ∈ l, ConW N c :=
  rdb_slice Tryd.underlying40 cells_Constraint (fun _ => rfl) rdb_conF
theorem rdb_schF : RdB Tryd.prog w 42 eSch SchW :=
  (rdb_struct3 Tryd.underlying42 ⟨rfl, rfl, rfl⟩ ⟨cells_s_Table, cells_s_ForeignKey, cells_s_Constraint⟩ cells_Schema rdb_tblsF rdb_fksF rdb_consF).to (fun p => ⟨p.1, p.2.1, p.2.2.1⟩) (fun _ => by simp [eSch]) fun _ _ h => ⟨h.1, h.2.1, h.2.2.1⟩
theorem rdb_rowsF : RdB Tryd.prog w 26 (fun l => [eRows l]) fun N l => l.length ≤ N ∧ ∀ r ∈ l, RowW N r :=
  rdb_slice Tryd.underlying26 cells_Row (fun _ => rfl) (eβ := eRow1) rdb_rowF
theorem rdb_relF : RdB Tryd.prog w 101 eRel RelW :=
  (rdb_struct2 Tryd.underlying101 ⟨rfl, rfl⟩ ⟨cells_string, cells_s_Row⟩ cells_Relation rdb_SF rdb_rowsF).to (fun p => ⟨p.1, p.2.1⟩) (fun _ => by simp [eRel]) fun _ _ h => h.2.1
theorem rdb_instF : RdB Tryd.prog w 55 (fun l => [eInst l]) fun N l => l.length ≤ N ∧ ∀ r ∈ l, RelW N r :=
  rdb_slice Tryd.underlying55 cells_Relation (fun _ => rfl) rdb_relF
theorem rdb_chgF : RdB Tryd.prog w 66 eChg ChgW :=
  (rdb_struct4 Tryd.underlying66 ⟨rfl, rfl, rfl, rfl⟩ ⟨cells_int, cells_string, cells_Row, cells_Row⟩ cells_Change rdb_IF rdb_SF rdb_rowF rdb_rowF).to (fun p => ⟨p.1, p.2.1, p.2.2.1, p.2.2.2.1⟩) (fun _ => by simp [eChg]) fun _ _ h => ⟨h.2.2.1, h.2.2.2.1⟩
theorem rdb_chgsF : RdB Tryd.prog w 56 (fun l => [eChgs l]) fun N l => l.length ≤ N ∧ ∀ c ∈ l, ChgW N c :=
  rdb_slice Tryd.underlying56 cells_Change (fun _ => rfl) rdb_chgF
theorem valFitsW {v : Val} (h : ValW 1048576 v) : ValFits v := ⟨(intOk_bounds h.1).1, (intOk_bounds h.1).2, (intOk_bounds h.2.1).1, (intOk_bounds h.2.1).2, h.2.2⟩
theorem schFW {s : Sch} (h : SchW 1048576 s) : SchF s :=
  ⟨h.1.1, fun t ht => have q := h.1.2 t ht; ⟨q.1, q.2.1.1, fun c hc => ⟨(q.2.1.2 c hc).1, intOk_bounds (q.2.1.2 c hc).2⟩, q.2.2.1, fun c hc => intOk_bounds (q.2.2.2 c hc)⟩,
    h.2.1.1, fun f hf => have q := h.2.1.2 f hf; ⟨q.1, q.2.2, q.2.1.1, fun c hc => intOk_bounds (q.2.1.2 c hc)⟩,
    h.2.2.1, fun c hc => have q := h.2.2.2 c hc; ⟨q.1, q.2.2.1, intOk_bounds q.2.1, intOk_bounds q.2.2.2.1, valFitsW q.2.2.2.2⟩⟩
theorem schFitsW {s : Sch} (h : SchW 1048576 s) : s.Fits :=
  ⟨by have := h.1.1; omega, fun t ht => ⟨by have := (h.1.2 t ht).2.1.1; omega, by have := (h.1.2 t ht).2.2.1; omega⟩, by have := h.2.1.1; omega, fun f hf => by have := (h.2.1.2 f hf).2.1.1; omega, by have := h.2.2.1; omega⟩
theorem instFitsW {i : Inst} (h : i.length ≤ 1048576 ∧ ∀ r ∈ i, RelW 1048576 r) : InstFits i :=
  ⟨by have := h.1; omega, fun r hr => ⟨by have := (h.2 r hr).1; omega, fun x hx => by have := ((h.2 r hr).2 x hx).1; omega⟩⟩
theorem chgFW {c : Chg} (h : ChgW 1048576 c) : ChgF c := ⟨rowFits_of h.1, rowFits_of h.2⟩
end

section
open Go.ChangeShapes Go.RowKit Go.Proofs.YtmmbghbkpjmifaaDoor Go.Proofs

theorem gPow : Tryd.prog.globalNamed "internal/strconv.uint64pow10" = some 1 := by kernel_rfl
theorem tPow : (Tryd.prog.globals[1]?).map (·.type) = some 165 := by kernel_rfl
theorem gSyn : Tryd.prog.globalNamed "strconv.ErrSyntax" = none := by kernel_rfl
theorem gRng : Tryd.prog.globalNamed "strconv.ErrRange" = none := by kernel_rfl
theorem laidW_rel {W : World} (h : laidMet Tryd.prog Rows.relationUpsertFindUptoRow.laid W) : LaidW Tryd.prog W where
  pow := fun _ => Lib.tabIs_of_head (k := .u64) (zs := (List.range 20).map fun i => ((10 ^ i : Nat) : Int)) gPow tPow Tryd.underlying165 Tryd.underlying155 (by kernel_rfl) (by kernel_rfl) h.tail.tail
  rng := fun q => by rw [gRng] at q; cases q
  syn := fun q => by rw [gSyn] at q; cases q
end
end Go.Bw
