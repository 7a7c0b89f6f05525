/-
  WHAT IS PROVED HERE, of this translation: vldE_zero, lastC_sub, chg_small, cmpC_chg, compact_sat, compactE_ok, compactE_mem, compactE_length, SameK.symm, sameK_iff, lastC_apart, compactE_apart, Confl.symm, diffR_length, diffK_succ, tblOf_self, lookC_some, lookC_none, lookC_hit, lookC_same, chg_table, hits_same, same_hits, applyC_getI, applyL_getI, applyL_chg, applyE_okU, hasName_iff, nubC_mem, nubC_nodup, .., Keep.refl, Keep.trans, Keep.mono, Srt.same, OrdC.irr, Srt.le, Srt.sub, lookC_lastC, lookC_compact, Indep.symm, diffR_keyMem, diffK_keyMem, keys_cover, frz_eNm, indexNm_sat, containsNm_sat, find_bad, take_next', tables_sat, keys_sat, assignK_nilp, rFindTable_sat, affected_sat, diffRows_sat, cells_Change, bytes_Change, rd_chg, rd_chgs, ChgsOk.fits.
  A theorem that ends in sat says what the function it names returns, whatever the state it is called in; the bounds on its arguments stand ahead of it.
-/
import Derived.Lib.AppendIntMem
import Derived.Test.YtjjnchbfjbjemaaGreatDoorN21g
set_option linter.unusedSimpArgs false
set_option linter.unusedVariables false

namespace Go.Bw
open Go.Proofs
attribute [local go_sem ↓] VOps_nil VOps_cons VOp_callJ VVal_callH VOps_guard GOn_tt GOn_ff GOn_tf GOn_ft GOn_not GOn_none HOn_none HOn_tt HOn_ff HOn_tf HOn_ft HOn_not VHead_nil VHead_cons VHead_guard VVal_move VVal_assign VVal_pickE pickK_true pickK_false VVal_not VVal_neg negK_int VVal_load loadK_fz loadK_ptr loadK_eptr VVal_fieldAddr VVal_field VVal_indexAddr idxK_sl idxK_ref VVal_index indexK_str VVal_extract VVal_binOp binK_one binK_agg VVal_build VVal_buildSlice VVal_makeFunc VVal_slice sliceK_str sliceK_sl sliceK_nil sliceK_ref VVal_slice3 VVal_nilCheck VVal_convert convKk_int convKk_str VVal_len VVal_max VVal_min VOp_assign assignK_int assignK_bool assignK_str assignK_clo assignK_sl assignK_nil assignK_ref assignK_agg assignK_fz assignK_ptr assignK_eptr assignK_any VOp_box VOp_alloc VOp_store storeK_ptr storeK_eptr VOp_buildSlice VOp_append appK_rr appK_rs appK_rn appK_ri appK_nr appK_ns appK_nn appK_ni appStd_eq VOp_copy copyK_ref VOp_clear clearK_ref VOp_cap VOp_eqNil VOp_move VOp_pick VOp_not VOp_neg VOp_load VOp_fieldAddr VOp_field VOp_indexAddr VOp_index VOp_extract VOp_binTmp VOp_binInt VOp_binStr VOp_binPtr VOp_build VOp_makeFunc VOp_slice VOp_nilCheck VOp_convert VOp_len VOp_max VOp_min mO_some mT_some pk_some pk_none look_cons del_cons
attribute [local go_sem] guardB gOf int_bne beq_true beq_false Bool.not_not gSlot pickK_true pickK_false negK_int loadK_fz loadK_ptr loadK_eptr idxK_sl idxK_ref indexK_str binK_one binK_agg sliceK_str sliceK_sl sliceK_nil sliceK_ref convKk_int convKk_str maxL minL assignK_int assignK_bool assignK_str assignK_clo assignK_sl assignK_nil assignK_ref assignK_agg assignK_fz assignK_ptr assignK_eptr assignK_any nilRow_eq takeRow_eq appended_eq storeK_ptr storeK_eptr store_mk appIn_eq appMk_eq marked_eq ovOut_nil ovOut_cons ovIn_nil ovIn_cons padRow_eq ysC capK_nil capK_ref ioSt_mk outB_nil outR_nil outB outR inB_nil inB_cons inR_nil inR_cons L.kl L.kl0 L.ids L.ids0 Option.getD_some evalO constA mO_some mT_some put_mk putO_some putO_none okD_some okD_none pk_some pk_none look_nil del_nil sput noBox_mk noRow_mk newBox_eq newRow0_eq St.killRow RowC.kill rowMap_mk rowOf ovAll ovAdd ovDel ovGet ovShift dstOf ysOf overlay_nil overlay_nil' overlay A.map V.map L.noPtr L.noPtr0 L.noRow L.noRow0 L.peek L.norm L.flat clos_int clos_bool clos_str clos_sl clos_nil clos_any clos_fz L.clos L.isFz L.kd moveL fieldOff eqCells eqCell eqOp oneOf boolOf intOfA tupOf vOf aggOf isPtrLike isSlice lenKind lenL nL elemTI loadV asV binL intBin intDivL shrL boolBin strBin strAdd ptrNil boundN partCells fillL placesOf setL chunks repL capsOf capL callOf argsOf frzV_int frzV_bool frzV_str frzV_sl frzV_nil frzV_fz frzV_any frzV_own frzV_clo frzV_ref frzV_eptr frzV_ptr frzRow_nil frzRow_ov frzRs_nil frzRs_cons frzCs_nil frzCs_cons frzO_some frzO_none frzN_int frzN_bool frzN_str frzN_sl frzN_nil frzN_any frzN_own List.map_cons List.map_nil List.cons_append List.nil_append List.append_nil List.length_cons List.length_nil List.length_map List.length_append List.headD_cons List.tail_cons List.getElem?_cons_zero List.getElem?_cons_succ List.drop_zero List.drop_succ_cons List.drop_nil List.take_succ_cons List.take_zero List.take_nil List.take_length List.filter_cons List.filter_nil List.elem_cons List.elem_nil List.all_cons List.all_nil Option.bind_some Option.map_some Option.some.injEq bne_self_eq_false beq_self_eq_true if_true if_false Bool.false_eq_true true_and and_true and_self Nat.zero_add Nat.add_zero Nat.zero_le Int.toNat_natCast Int.toNat_zero Option.isSome_some List.getElem?_toArray decide_true decide_false ge_iff_le gt_iff_lt Bool.not_true Bool.not_false Nat.le_refl Bool.and_true Bool.true_and Bool.and_false Bool.false_and eVal eRow eRow1 eRows eInt1 eInts eCol eCols eTbl eTbls eFK eFKs eCon eCons eSch eRel eInst eChg eChgs szOf getD_map_lt wrap_nat wrap_in List.take_of_length_le frz_eVal frz_eRow1 frz_eInt1 frz_eCol frz_eTbl frz_eFK frz_eCon frz_eRel frz_eChg noOwn_nil noOwn_cons noOwn_append L.isOwn noOwn_eVal noOwn_eRow1 noOwn_eInt1 noOwn_eCol noOwn_eTbl noOwn_eFK noOwn_eCon noOwn_eRel noOwn_eChg convK_2 convK_3 convK_5 convK_12 convK_21 convK_31 convK_115 convK_136 convK_144 convK_146 convK_155 TT_2 TT_3 TT_4 TT_5 TT_9 TT_12 TT_13 TT_21 TT_22 TT_23 TT_24 TT_25 TT_26 TT_27 TT_28 TT_29 TT_31 TT_36 TT_39 TT_40 TT_41 TT_42 TT_43 TT_52 TT_53 TT_54 TT_55 TT_57 TT_58 TT_59 TT_60 TT_71 TT_77 TT_78 TT_79 TT_90 TT_91 TT_93 TT_94 TT_99 TT_100 TT_115 TT_136 TT_144 TT_146 TT_155 boolTy_4 eqK_60 eqK_91 eqK_100
attribute [local congr] VOps.congr VHead.congr VOp.congr VVal.congr pk.congr assignK.congr appK.congr appStd.congr copyK.congr clearK.congr storeK.congr loadK.congr idxK.congr sliceK.congr indexK.congr binK.congr convKk.congr
def vldE (s : Sch) : List Chg → Int
  | [] => 0
  | c :: l => if chgE s c ≠ 0 then chgE s c else vldE s l
theorem vldE_zero (s : Sch) : ∀ (l : List Chg), vldE s l = 0 ↔ ∀ c ∈ l, chgE s c = 0
  | [] => by simp [vldE]
  | c :: l => by
    rw [vldE]
    split
    · rename_i h
      simp [h]
    · rename_i h
      have h : chgE s c = 0 := by simpa using h
      simp [h, vldE_zero s l]
def lastC (s : Sch) : List Chg → List Chg
  | [] => []
  | c :: l => if l.any (sameK (tblOf s c.table) c) = true then lastC s l else c :: lastC s l
def compactE (s : Sch) (cs : List Chg) : Int × List Chg :=
  if schE s ≠ 0 then (schE s, []) else if vldE s cs ≠ 0 then (vldE s cs, []) else (0, stableF (cmpChg s) (lastC s cs))
theorem lastC_sub (s : Sch) : ∀ (l : List Chg), (lastC s l).Sublist l
  | [] => .slnil
  | c :: l => by
    rw [lastC]
    split
    · exact (lastC_sub s l).cons c
    · exact (lastC_sub s l).cons_cons c
theorem chg_small {s : Sch} {c : Chg} (sm : Small s) (h : chgE s c = 0) : c.key.length ≤ 6 ∧ c.row.length ≤ 6 := by
  have o := okChg_of h
  have ht : tblOf s c.table = s.tables[tpos s c]'o.lt := by rw [o.tbl]; exact getD_lt _ o.lt
  have := sm.table _ (List.getElem_mem o.lt)
  rcases o.kind with e | e
  · obtain ⟨h1, h2⟩ := o.up e
    rw [h1]
    have := ((rowE_zero _ _).1 h2).1
    rw [ht] at this
    exact ⟨by simp, by omega⟩
  · obtain ⟨h1, h2⟩ := o.del e
    rw [h1]
    refine ⟨?_, by simp⟩
    unfold keyE at h2
    split at h2
    · cases h2
    · rename_i g
      rw [ht] at g
      omega
theorem cmpC_chg (s : Sch) (hs : schE s = 0) (cs : List Chg) (h : ∀ c ∈ cs, chgE s c = 0) : CmpC Tryz.prog 58 (.fz (eSch s)) (cmpChg s) cs := fun x hx y hy => by
  have sm := small_of hs
  have h1 := chg_small sm (h x hx)
  have h2 := chg_small sm (h y hy)
  have p1 := (okChg_of (h x hx)).pos
  have p2 := (okChg_of (h y hy)).pos
  exact compact2_sat s x y hs (by omega) (by omega) (by omega) (by omega)
set_option maxHeartbeats 16000000 in
theorem compact_sat (s : Sch) (cs : List Chg) (hf : s.Fits) (hcs : ChgsFit cs) (h72 : cs.length * 72 ≤ 140737488355328) :
    Sat Tryz.prog 25 [.agg (eSch s), .one (eChgs cs)] (.tup [.one (eChgs (compactE s cs).2), oI (compactE s cs).1]) := by
  by_cases h0 : schE s = 0
  case neg =>
    have spec : compactE s cs = (schE s, []) := by simp [compactE, h0]
    rw [spec]
    refine sat_of_body tyOk Tryz.func25 rfl (by kernel_rfl) ⟨Nat.le_of_ble_eq_true rfl, Nat.le_of_ble_eq_true rfl⟩ fun w0 m0 F0 => ?_
    simp only [Tryz.ntmps25, envOf, Nat.reduceAdd]
    repeat' (first | ((first | with_reducible refine qV tyOk fun K hK => ?_ | (with_reducible first | refine qG ?_ | refine qH ?_ | refine qP ?_ | refine qGx ?_ | refine qHx ?_ | refine qPx ?_) | ((with_reducible first | refine qS ?_ ?_ | refine qT ?_ ?_ | refine qU ?_ ?_) <;> (intro h; try simp only [NM] at h)) | with_reducible refine yD tyOk mixed 6 (by kernel_rfl) fun K hK => ?_ | ((with_reducible refine CallJ.is ?_); (first | refine CallJ.pure (schValidate_sat s hf) ?_ | ((apply CallJ.lentI); (focus (simp -dsimp (disch := (first | omega | (simp only [LN]; omega))) only [go_sem, ↓reduceIte, seval, h0]; rfl)); (focus (first | exact (schValidate_sat s hf)))))) | ((with_reducible refine CallH.is ?_); (first | refine CallH.intro (schValidate_sat s hf) ?_))) <;> simp -dsimp (disch := (first | omega | (simp only [LN]; omega))) only [go_sem, ↓reduceIte, seval, h0]) | ((with_reducible refine hK _ ?_); clear hK K) | (with_reducible first | refine qA ?_ | refine qB ?_ | refine qC ?_ | refine qD ?_ | refine qE ?_ | refine qF ?_ | refine qL ?_ | refine qM ?_ | refine qN ?_ | refine qO ?_ | refine qQ ?_) | refine qR rfl ?_ | (with_reducible refine AI ?_) | ((with_reducible refine qW (T := TT) (b := ?_) ?_ ?_); rotate_left; exact rfl) | (with_reducible first | refine qX ?_ | refine qY ?_ | refine qZ ?_) | (with_reducible first | refine qI ?_ | refine qIx ?_ | fail) | ((with_reducible refine yS ?_ ?_) <;> (intro h; try simp only [NM] at h)))
    all_goals simp -dsimp (disch := (first | omega | (simp only [LN]; omega))) only [retQ, Tryz.results25, resVals, cellRV, resOf, St.rest, St.freeze, RT, go_sem, ↓reduceIte, seval]
  have sm := small_of h0
  have m1 := sm.tables
  refine sat_of_body tyOk Tryz.func25 rfl (by kernel_rfl) ⟨Nat.le_of_ble_eq_true rfl, Nat.le_of_ble_eq_true rfl⟩ fun w0 m0 F0 => ?_
  simp only [Tryz.ntmps25, envOf, Nat.reduceAdd]
  repeat' (first | ((first | with_reducible refine qV tyOk fun K hK => ?_ | (with_reducible first | refine qG ?_ | refine qH ?_ | refine qP ?_ | refine qGx ?_ | refine qHx ?_ | refine qPx ?_) | ((with_reducible first | refine qS ?_ ?_ | refine qT ?_ ?_ | refine qU ?_ ?_) <;> (intro h; try simp only [NM] at h)) | ((with_reducible refine CallJ.is ?_); (first | refine CallJ.pure (schValidate_sat s hf) ?_ | ((apply CallJ.lentI); (focus (simp -dsimp (disch := (first | omega | (simp only [LN]; omega))) only [go_sem, ↓reduceIte, seval, h0]; rfl)); (focus (first | exact (schValidate_sat s hf)))))) | ((with_reducible refine CallH.is ?_); (first | refine CallH.intro (schValidate_sat s hf) ?_))) <;> simp -dsimp (disch := (first | omega | (simp only [LN]; omega))) only [go_sem, ↓reduceIte, seval, h0]) | ((with_reducible refine hK _ ?_); clear hK K) | (with_reducible first | refine qA ?_ | refine qB ?_ | refine qC ?_ | refine qD ?_ | refine qE ?_ | refine qF ?_ | refine qL ?_ | refine qM ?_ | refine qN ?_ | refine qO ?_ | refine qQ ?_) | refine qR rfl ?_ | (with_reducible refine AI ?_) | ((with_reducible refine qW (T := TT) (b := ?_) ?_ ?_); rotate_left; exact rfl) | (with_reducible first | refine qX ?_ | refine qY ?_ | refine qZ ?_) | (with_reducible first | refine qI ?_ | refine qIx ?_ | fail) | ((with_reducible refine yS ?_ ?_) <;> (intro h; try simp only [NM] at h)))
  refine AWP.loop (ι := {k : Nat // k ≤ cs.length ∧ vldE s (cs.drop k) = vldE s cs}) (fun k => ⟨81, [(1, .v (.one (eChgs cs))), (2, .v (.one (.ptr 2 0))), (22, .v (.one (eChgs cs))), (23, .v (oI cs.length)), (24, .v (oI k.1))], [(2, eSch s)], []⟩) (fun k => cs.length - k.1) ⟨0, Nat.zero_le _, rfl⟩ ?_ fun ⟨k, hkl, hi⟩ => ?_
  · refine St.le_mk ?_ ?_ ?_ <;> simp only [LE, EN, Nat.reduceEqDiff, reduceIte, Nat.reduceSub, eSch]
  simp only at hkl hi ⊢
  rcases Nat.lt_or_ge k cs.length with hc | hc
  · obtain ⟨f1, f2⟩ := hcs.2 cs[k] (List.getElem_mem hc)
    have cv := chgValidate_sat s cs[k] h0 f1 f2
    rw [List.drop_eq_getElem_cons hc, vldE] at hi
    by_cases hE : chgE s cs[k] = 0
    case neg =>
      rw [if_pos hE] at hi
      have spec : compactE s cs = (chgE s cs[k], []) := by rw [hi]; rw [hi] at hE; simp [compactE, h0, hE]
      rw [spec]
      repeat' (first | ((first | with_reducible refine qV tyOk fun K hK => ?_ | (with_reducible first | refine qG ?_ | refine qH ?_ | refine qP ?_ | refine qGx ?_ | refine qHx ?_ | refine qPx ?_) | ((with_reducible first | refine qS ?_ ?_ | refine qT ?_ ?_ | refine qU ?_ ?_) <;> (intro h; try simp only [NM] at h)) | ((with_reducible refine CallJ.is ?_); (first | refine CallJ.pure (cv) ?_ | ((apply CallJ.lentI); (focus (simp -dsimp (disch := (first | omega | (simp only [LN]; omega))) only [go_sem, ↓reduceIte, seval, hE]; rfl)); (focus (first | exact (cv)))))) | ((with_reducible refine CallH.is ?_); (first | refine CallH.intro (cv) ?_))) <;> simp -dsimp (disch := (first | omega | (simp only [LN]; omega))) only [go_sem, ↓reduceIte, seval, hE]) | ((with_reducible refine hK _ ?_); clear hK K) | (with_reducible first | refine qA ?_ | refine qB ?_ | refine qC ?_ | refine qD ?_ | refine qE ?_ | refine qF ?_ | refine qL ?_ | refine qM ?_ | refine qN ?_ | refine qO ?_ | refine qQ ?_) | refine qR rfl ?_ | (with_reducible refine AI ?_) | ((with_reducible refine qW (T := TT) (b := ?_) ?_ ?_); rotate_left; exact rfl) | (with_reducible first | refine qX ?_ | refine qY ?_ | refine qZ ?_) | (with_reducible first | refine qI ?_ | refine qIx ?_ | fail) | ((with_reducible refine yS ?_ ?_) <;> (intro h; try simp only [NM] at h)))
      all_goals simp -dsimp (disch := (first | omega | (simp only [LN]; omega))) only [retQ, Tryz.results25, resVals, cellRV, resOf, St.rest, St.freeze, RT, go_sem, ↓reduceIte, seval]
    rw [if_neg (by simpa using hE)] at hi
    repeat' (first | ((first | with_reducible refine qV tyOk fun K hK => ?_ | (with_reducible first | refine qG ?_ | refine qH ?_ | refine qP ?_ | refine qGx ?_ | refine qHx ?_ | refine qPx ?_) | ((with_reducible first | refine qS ?_ ?_ | refine qT ?_ ?_ | refine qU ?_ ?_) <;> (intro h; try simp only [NM] at h)) | ((with_reducible refine CallJ.is ?_); (first | refine CallJ.pure (cv) ?_ | ((apply CallJ.lentI); (focus (simp -dsimp (disch := (first | omega | (simp only [LN]; omega))) only [go_sem, ↓reduceIte, seval, hE]; rfl)); (focus (first | exact (cv)))))) | ((with_reducible refine CallH.is ?_); (first | refine CallH.intro (cv) ?_))) <;> simp -dsimp (disch := (first | omega | (simp only [LN]; omega))) only [go_sem, ↓reduceIte, seval, hE]) | ((with_reducible refine hK _ ?_); clear hK K) | (with_reducible first | refine qA ?_ | refine qB ?_ | refine qC ?_ | refine qD ?_ | refine qE ?_ | refine qF ?_ | refine qL ?_ | refine qM ?_ | refine qN ?_ | refine qO ?_ | refine qQ ?_) | refine qR rfl ?_ | (with_reducible refine AI ?_) | ((with_reducible refine qW (T := TT) (b := ?_) ?_ ?_); rotate_left; exact rfl) | (with_reducible first | refine qX ?_ | refine qY ?_ | refine qZ ?_) | (with_reducible first | refine qI ?_ | refine qIx ?_ | fail) | ((with_reducible refine yS ?_ ?_) <;> (intro h; try simp only [NM] at h)))
    refine ⟨⟨k + 1, by omega, hi⟩, by simp only; omega, ?_⟩
    refine St.le_mk ?_ ?_ ?_ <;> simp only [LE, EN, Nat.reduceEqDiff, reduceIte, Nat.reduceSub, eSch]
  rw [List.drop_of_length_le hc] at hi
  have hv : vldE s cs = 0 := hi.symm
  have ok := (vldE_zero s cs).1 hv
  have spec : compactE s cs = (0, stableF (cmpChg s) (lastC s cs)) := by simp [compactE, h0, hv]
  rw [spec]
  clear hi
  repeat' (first | ((first | with_reducible refine qV tyOk fun K hK => ?_ | (with_reducible first | refine qG ?_ | refine qH ?_ | refine qP ?_ | refine qGx ?_ | refine qHx ?_ | refine qPx ?_) | ((with_reducible first | refine qS ?_ ?_ | refine qT ?_ ?_ | refine qU ?_ ?_) <;> (intro h; try simp only [NM] at h))) <;> simp -dsimp (disch := (first | omega | (simp only [LN]; omega))) only [go_sem, ↓reduceIte, seval]) | ((with_reducible refine hK _ ?_); clear hK K) | (with_reducible first | refine qA ?_ | refine qB ?_ | refine qC ?_ | refine qD ?_ | refine qE ?_ | refine qF ?_ | refine qL ?_ | refine qM ?_ | refine qN ?_ | refine qO ?_ | refine qQ ?_) | refine qR rfl ?_ | (with_reducible refine AI ?_) | ((with_reducible refine qW (T := TT) (b := ?_) ?_ ?_); rotate_left; exact rfl) | (with_reducible first | refine qX ?_ | refine qY ?_ | refine qZ ?_) | (with_reducible first | refine qI ?_ | refine qIx ?_ | fail) | ((with_reducible refine yS ?_ ?_) <;> (intro h; try simp only [NM] at h)))
  refine AWP.loop (ι := {p : Nat × List Chg // p.1 ≤ cs.length ∧ p.2.length ≤ p.1 ∧ p.2 ++ lastC s (cs.drop p.1) = lastC s cs}) (fun p => ⟨81, [(1, .v (.one (eChgs cs))), (2, .v (.one (.ptr 2 0))), (10, .v (.one (.ref 10 0 p.1.2.length))), (35, .v (.one (eChgs cs))), (36, .v (oI cs.length)), (37, .v (oI p.1.1))], [(2, eSch s)], [(10, ⟨4, p.1.2.map eChg, []⟩)]⟩) (fun p => cs.length - p.1.1) ⟨(0, []), Nat.zero_le _, Nat.le_refl _, rfl⟩ ?_ fun ⟨(k, out), hkl, hol, hi⟩ => ?_
  · refine St.le_mk ?_ ?_ ?_ <;> simp only [LE, EN, Nat.reduceEqDiff, reduceIte, Nat.reduceSub, eSch, List.length_nil, List.map_nil]
  simp only at hkl hol hi ⊢
  rcases Nat.lt_or_ge k cs.length with hc | hc
  · have ek := ok _ (List.getElem_mem hc)
    have o := okChg_of ek
    obtain ⟨s1, s2⟩ := chg_small sm ek
    obtain ⟨j, hjj⟩ : ∃ j, tpos s cs[k] = j := ⟨_, rfl⟩
    have hjl := o.lt
    have fs := findTable_sat s cs[k].table (by omega)
    rw [o.pos, hjj, mx0_nat] at fs
    rw [hjj] at hjl
    have et : tblOf s cs[k].table = s.tables[j] := by rw [o.tbl, hjj]; exact getD_lt _ hjl
    have hpk := (sm.table _ (List.getElem_mem hjl)).2
    have ct := containsChg_sat (cs.drop (k + 1)) 55 [.fz (eChg cs[k]), .fz (eTbl s.tables[j])] (sameK s.tables[j] cs[k]) (by rw [List.length_drop]; omega) fun d hd => compact1_sat s.tables[j] cs[k] d (by omega) (by omega) (by
      have := chg_small sm (ok d (List.mem_of_mem_drop hd))
      omega)
    have ed : eChgs (cs.drop (k + 1)) = .sl 4 (List.drop ((k : Int) + 1).toNat (cs.map eChg)) := by
      rw [eChgs, List.map_drop, show ((k : Int) + 1).toNat = k + 1 by omega]
    rw [ed] at ct
    rw [List.drop_eq_getElem_cons hc, lastC, et] at hi
    by_cases hA : (cs.drop (k + 1)).any (sameK s.tables[j] cs[k]) = true
    · rw [if_pos hA] at hi
      rw [hA] at ct
      repeat' (first | ((first | with_reducible refine qV tyOk fun K hK => ?_ | (with_reducible first | refine qG ?_ | refine qH ?_ | refine qP ?_ | refine qGx ?_ | refine qHx ?_ | refine qPx ?_) | ((with_reducible first | refine qS ?_ ?_ | refine qT ?_ ?_ | refine qU ?_ ?_) <;> (intro h; try simp only [NM] at h)) | ((with_reducible refine CallJ.is ?_); (first | refine CallJ.pure (fs) ?_ | refine CallJ.pure (ct) ?_ | ((apply CallJ.lentI); (focus (simp -dsimp (disch := (first | omega | (simp only [LN]; omega))) only [go_sem, ↓reduceIte, seval]; rfl)); (focus (first | exact (fs) | exact (ct)))))) | ((with_reducible refine CallH.is ?_); (first | refine CallH.intro (fs) ?_ | refine CallH.intro (ct) ?_))) <;> simp -dsimp (disch := (first | omega | (simp only [LN]; omega))) only [go_sem, ↓reduceIte, seval]) | ((with_reducible refine hK _ ?_); clear hK K) | (with_reducible first | refine qA ?_ | refine qB ?_ | refine qC ?_ | refine qD ?_ | refine qE ?_ | refine qF ?_ | refine qL ?_ | refine qM ?_ | refine qN ?_ | refine qO ?_ | refine qQ ?_) | refine qR rfl ?_ | (with_reducible refine AI ?_) | ((with_reducible refine qW (T := TT) (b := ?_) ?_ ?_); rotate_left; exact rfl) | (with_reducible first | refine qX ?_ | refine qY ?_ | refine qZ ?_) | (with_reducible first | refine qI ?_ | refine qIx ?_ | fail) | ((with_reducible refine yS ?_ ?_) <;> (intro h; try simp only [NM] at h)))
      refine ⟨⟨(k + 1, out), by simp only; omega, by simp only; omega, hi⟩, by simp only; omega, ?_⟩
      refine St.le_mk ?_ ?_ ?_ <;> simp only [LE, EN, Nat.reduceEqDiff, reduceIte, Nat.reduceSub, eSch]
    · rw [if_neg hA] at hi
      have hA : (cs.drop (k + 1)).any (sameK s.tables[j] cs[k]) = false := by simpa using hA
      rw [hA] at ct
      have hi2 : (out ++ [cs[k]]) ++ lastC s (cs.drop (k + 1)) = lastC s cs := by simpa using hi
      repeat' (first | ((first | with_reducible refine qV tyOk fun K hK => ?_ | (with_reducible first | refine qG ?_ | refine qH ?_ | refine qP ?_ | refine qGx ?_ | refine qHx ?_ | refine qPx ?_) | ((with_reducible first | refine qS ?_ ?_ | refine qT ?_ ?_ | refine qU ?_ ?_) <;> (intro h; try simp only [NM] at h)) | ((with_reducible refine CallJ.is ?_); (first | refine CallJ.pure (fs) ?_ | refine CallJ.pure (ct) ?_ | ((apply CallJ.lentI); (focus (simp -dsimp (disch := (first | omega | (simp only [LN]; omega))) only [go_sem, ↓reduceIte, seval]; rfl)); (focus (first | exact (fs) | exact (ct)))))) | ((with_reducible refine CallH.is ?_); (first | refine CallH.intro (fs) ?_ | refine CallH.intro (ct) ?_))) <;> simp -dsimp (disch := (first | omega | (simp only [LN]; omega))) only [go_sem, ↓reduceIte, seval]) | ((with_reducible refine hK _ ?_); clear hK K) | (with_reducible first | refine qA ?_ | refine qB ?_ | refine qC ?_ | refine qD ?_ | refine qE ?_ | refine qF ?_ | refine qL ?_ | refine qM ?_ | refine qN ?_ | refine qO ?_ | refine qQ ?_) | refine qR rfl ?_ | (with_reducible refine AI ?_) | ((with_reducible refine qW (T := TT) (b := ?_) ?_ ?_); rotate_left; exact rfl) | (with_reducible first | refine qX ?_ | refine qY ?_ | refine qZ ?_) | (with_reducible first | refine qI ?_ | refine qIx ?_ | fail) | ((with_reducible refine yS ?_ ?_) <;> (intro h; try simp only [NM] at h)))
      refine AWP.drawX tyOk mixed [(0, 7), (8, 2)] [(7, [], [(0, 5), (8, 2)]), (10, [(11, 1)], [(0, 5)]), (12, [], [(0, 1)]), (13, [], []), (14, [], [])] [7, 10, 12, 13, 14] 8 (by decide) (by kernel_rfl) (by kernel_rfl) (by kernel_rfl) (by kernel_rfl) fun K hK => ?_
      simp only [segx_nil, segx_cons, segs, List.drop_succ_cons, List.drop_zero, List.take_succ_cons, List.take_zero, List.getElem?_cons_zero, List.getElem?_cons_succ, List.cons_append, List.nil_append, List.append_nil] at hK ⊢
      simp -dsimp (disch := (first | omega | (simp only [LN]; omega))) only [go_sem, ↓reduceIte, seval, Option.getD_none, List.getD_cons_zero]
      repeat' (first | ((first | with_reducible refine qV tyOk fun K hK => ?_ | (with_reducible first | refine qG ?_ | refine qH ?_ | refine qP ?_ | refine qGx ?_ | refine qHx ?_ | refine qPx ?_) | ((with_reducible first | refine qS ?_ ?_ | refine qT ?_ ?_ | refine qU ?_ ?_) <;> (intro h; try simp only [NM] at h)) | ((with_reducible refine CallJ.is ?_); (first | refine CallJ.pure (cloneRow_sat cs[k].key (by omega)) ?_ | refine CallJ.pure (cloneRow_sat cs[k].row (by omega)) ?_ | ((apply CallJ.lentI); (focus (simp -dsimp (disch := (first | omega | (simp only [LN]; omega))) only [go_sem, ↓reduceIte, seval, Option.getD_none, List.getD_cons_zero]; rfl)); (focus (first | exact (cloneRow_sat cs[k].key (by omega)) | exact (cloneRow_sat cs[k].row (by omega))))))) | ((with_reducible refine CallH.is ?_); (first | refine CallH.intro (cloneRow_sat cs[k].key (by omega)) ?_ | refine CallH.intro (cloneRow_sat cs[k].row (by omega)) ?_))) <;> simp -dsimp (disch := (first | omega | (simp only [LN]; omega))) only [go_sem, ↓reduceIte, seval, Option.getD_none, List.getD_cons_zero]) | ((with_reducible refine hK _ ?_); clear hK K) | (with_reducible first | refine qA ?_ | refine qB ?_ | refine qC ?_ | refine qD ?_ | refine qE ?_ | refine qF ?_ | refine qL ?_ | refine qM ?_ | refine qN ?_ | refine qO ?_ | refine qQ ?_) | refine qR rfl ?_ | ((with_reducible refine VCy.intro fun K0 hK0 => ?_)) | ((with_reducible refine VCy.fin ?_); (refine hK0 _ ?_); clear hK0 K0) | (with_reducible first | refine VCy.quiet ?_ | refine VCy.none ?_) | ((with_reducible first | refine VCy.some fun K hK => ?_ | refine VCy.step fun K hK => ?_); simp -dsimp (disch := (first | omega | (simp only [LN]; omega))) only [go_sem, ↓reduceIte, seval, Option.getD_none, List.getD_cons_zero]) | ((with_reducible refine VCy.keep ?_ ?_); focus ((simp -dsimp (disch := (first | omega | (simp only [LN]; omega))) only [go_sem, ↓reduceIte, seval, Stable_cons, Stable_nil, sameA_some, sameA_none, Option.getD_none, List.getD_cons_zero]); first | done | with_reducible assumption | omega | (repeat' with_reducible refine And.intro ?_ ?_) <;> first | with_reducible rfl | with_reducible assumption | omega)) | (with_reducible refine AI ?_) | ((with_reducible refine qW (T := TT) (b := ?_) ?_ ?_); rotate_left; exact rfl) | (with_reducible first | refine qX ?_ | refine qY ?_ | refine qZ ?_) | (with_reducible first | refine qI ?_ | refine qIx ?_ | fail) | ((with_reducible refine yS ?_ ?_) <;> (intro h; try simp only [NM] at h)))
      refine ⟨⟨(k + 1, out ++ [cs[k]]), by simp only; omega, by simp; omega, hi2⟩, by simp only; omega, ?_⟩
      refine St.le_mk ?_ ?_ ?_ <;> simp only [LE, EN, Nat.reduceEqDiff, reduceIte, Nat.reduceSub, eSch, eChg, List.map_append, List.map_cons, List.map_nil, List.length_append, List.length_cons, List.length_nil]
  · have hkk : k = cs.length := by omega
    subst hkk
    rw [List.drop_length, lastC, List.append_nil] at hi
    subst hi
    have st := sortStable_satM 58 (eSch s) (cmpChg s) (lastC s cs) (cmpC_chg s h0 _ fun c hc => ok c ((lastC_sub s cs).subset hc)) (by omega)
    unfold rowC at st
    repeat' (first | ((first | ((fail_if_success (refine AWP.isRegion 21 ?_)); (with_reducible refine qV tyOk fun K hK => ?_)) | (with_reducible first | refine qG ?_ | refine qH ?_ | refine qP ?_ | refine qGx ?_ | refine qHx ?_ | refine qPx ?_) | ((with_reducible first | refine qS ?_ ?_ | refine qT ?_ ?_ | refine qU ?_ ?_) <;> (intro h; try simp only [NM] at h))) <;> simp -dsimp (disch := (first | omega | (simp only [LN]; omega))) only [go_sem, ↓reduceIte, seval]) | ((with_reducible refine hK _ ?_); clear hK K) | (with_reducible first | refine qA ?_ | refine qB ?_ | refine qC ?_ | refine qD ?_ | refine qE ?_ | refine qF ?_ | refine qL ?_ | refine qM ?_ | refine qN ?_ | refine qO ?_ | refine qQ ?_) | refine qR rfl ?_ | (with_reducible refine AI ?_) | ((with_reducible refine qW (T := TT) (b := ?_) ?_ ?_); rotate_left; exact rfl) | (with_reducible first | refine qX ?_ | refine qY ?_ | refine qZ ?_) | (with_reducible first | refine qI ?_ | refine qIx ?_ | fail) | ((with_reducible refine yS ?_ ?_) <;> (intro h; try simp only [NM] at h)))
    refine AWP.frz [] [10] ?_
    simp -dsimp (disch := (first | omega | (simp only [LN]; omega))) only [go_sem, ↓reduceIte, seval, RT, St.rest, St.freeze]
    repeat' (first | ((first | with_reducible refine qV tyOk fun K hK => ?_ | (with_reducible first | refine qG ?_ | refine qH ?_ | refine qP ?_ | refine qGx ?_ | refine qHx ?_ | refine qPx ?_) | ((with_reducible first | refine qS ?_ ?_ | refine qT ?_ ?_ | refine qU ?_ ?_) <;> (intro h; try simp only [NM] at h)) | ((with_reducible refine CallJ.is ?_); refine CallJ.io [] [(1000, 10)] [] [(1000, 10)] [] [] [] [10, 10] (st) rfl ⟨rfl, rfl, rfl, rfl⟩ ?_ ?_ ?_; (focus (simp -dsimp (disch := (first | omega | (simp only [LN]; omega))) only [go_sem, ↓reduceIte, seval, dropL_nil, dropL_nil', dropL_cons]; done)); (focus (simp -dsimp (disch := (first | omega | (simp only [LN]; omega))) only [go_sem, ↓reduceIte, seval, dropL_nil, dropL_nil', dropL_cons]; done)))) <;> simp -dsimp (disch := (first | omega | (simp only [LN]; omega))) only [go_sem, ↓reduceIte, seval, dropL_nil, dropL_nil', dropL_cons]) | ((with_reducible refine hK _ ?_); clear hK K) | (with_reducible first | refine qA ?_ | refine qB ?_ | refine qC ?_ | refine qD ?_ | refine qE ?_ | refine qF ?_ | refine qL ?_ | refine qM ?_ | refine qN ?_ | refine qO ?_ | refine qQ ?_) | refine qR rfl ?_ | (with_reducible refine AI ?_) | ((with_reducible refine qW (T := TT) (b := ?_) ?_ ?_); rotate_left; exact rfl) | (with_reducible first | refine qX ?_ | refine qY ?_ | refine qZ ?_) | (with_reducible first | refine qI ?_ | refine qIx ?_ | fail) | ((with_reducible refine yS ?_ ?_) <;> (intro h; try simp only [NM] at h)))
    have hle := (stableF_perm (cmpChg s) (lastC s cs)).length_eq
    simp -dsimp (disch := (first | omega | (simp only [LN]; omega))) only [retQ, Tryz.results25, resVals, cellRV, resOf, St.rest, St.freeze, RT, go_sem, ↓reduceIte, seval]
    rw [if_pos (by omega)]

theorem compactE_ok {s : Sch} {cs : List Chg} (h : (compactE s cs).1 = 0) : schE s = 0 ∧ (∀ c ∈ cs, chgE s c = 0) ∧ (compactE s cs).2 = stableF (cmpChg s) (lastC s cs) := by
  unfold compactE at h ⊢
  by_cases h0 : schE s = 0
  case neg => simp only [ne_eq, h0, not_false_eq_true, if_true] at h
  by_cases h1 : vldE s cs = 0
  case neg => simp only [ne_eq, h0, not_true_eq_false, if_false, h1, not_false_eq_true, if_true] at h
  exact ⟨h0, (vldE_zero s cs).1 h1, by simp [h0, h1]⟩
theorem compactE_mem {s : Sch} {cs : List Chg} {c : Chg} (h : c ∈ (compactE s cs).2) : schE s = 0 ∧ c ∈ lastC s cs ∧ chgE s c = 0 := by
  have h' : (compactE s cs).1 = 0 := by
    unfold compactE at h ⊢
    by_cases h0 : schE s = 0
    case neg => simp [h0] at h
    by_cases h1 : vldE s cs = 0
    case neg => simp [h0, h1] at h
    simp [h0, h1]
  obtain ⟨h0, h1, h2⟩ := compactE_ok h'
  rw [h2] at h
  have h3 := (stableF_perm (cmpChg s) (lastC s cs)).subset h
  exact ⟨h0, h3, h1 c ((lastC_sub s cs).subset h3)⟩
theorem compactE_length (s : Sch) (cs : List Chg) : (compactE s cs).2.length ≤ cs.length := by
  unfold compactE
  split
  · simp
  split
  · simp
  · exact ((stableF_perm (cmpChg s) (lastC s cs)).length_eq ▸ (lastC_sub s cs).length_le)

def SameK (s : Sch) (c d : Chg) : Prop := d.table = c.table ∧ tgt (tblOf s c.table) d = tgt (tblOf s c.table) c
theorem SameK.symm {s : Sch} {c d : Chg} (h : SameK s c d) : SameK s d c := by
  obtain ⟨h1, h2⟩ := h
  exact ⟨h1.symm, by rw [h1, h2]⟩
theorem sameK_iff (s : Sch) (c d : Chg) : sameK (tblOf s c.table) c d = true ↔ SameK s c d := by
  simp [sameK, SameK, sEq_iff]
theorem lastC_apart (s : Sch) : ∀ (l : List Chg) (c d : Chg), c ∈ lastC s l → d ∈ lastC s l → SameK s c d → c = d
  | [], c, d, hc, _, _ => by simp [lastC] at hc
  | x :: l, c, d, hc, hd, h => by
    rw [lastC] at hc hd
    split at hc
    · rename_i g
      rw [if_pos g] at hd
      exact lastC_apart s l c d hc hd h
    · rename_i g
      rw [if_neg g] at hd
      have key : ∀ y ∈ lastC s l, ¬ SameK s x y := fun y hy hs => g (List.any_eq_true.2 ⟨y, (lastC_sub s l).subset hy, (sameK_iff s x y).2 hs⟩)
      rcases List.mem_cons.1 hc with e1 | e1 <;> rcases List.mem_cons.1 hd with e2 | e2
      · rw [e1, e2]
      · exact absurd (e1 ▸ h) (key d e2)
      · exact absurd (e2 ▸ h.symm) (key c e1)
      · exact lastC_apart s l c d e1 e2 h
theorem compactE_apart {s : Sch} {a : List Chg} {c d : Chg} (hc : c ∈ (compactE s a).2) (hd : d ∈ (compactE s a).2) (h : SameK s c d) : c = d :=
  lastC_apart s a c d (compactE_mem hc).2.1 (compactE_mem hd).2.1 h
def Confl (s : Sch) (c d : Chg) : Prop := SameK s c d ∧ (d.kind ≠ c.kind ∨ d.row ≠ c.row)
theorem Confl.symm {s : Sch} {c d : Chg} (h : Confl s c d) : Confl s d c := ⟨h.1.symm, h.2.imp Ne.symm Ne.symm⟩

def diffR (t : Tbl) : List Row → List Row → List Chg
  | [], [] => []
  | [], y :: b => ⟨1, t.name, [], y⟩ :: diffR t [] b
  | x :: a, [] => ⟨2, t.name, keyOf t.pk x, []⟩ :: diffR t a []
  | x :: a, y :: b =>
    if cmpRows (keyOf t.pk x) (keyOf t.pk y) < 0 then ⟨2, t.name, keyOf t.pk x, []⟩ :: diffR t a (y :: b)
    else if 0 < cmpRows (keyOf t.pk x) (keyOf t.pk y) then ⟨1, t.name, [], y⟩ :: diffR t (x :: a) b
    else (if x = y then [] else [⟨1, t.name, [], y⟩]) ++ diffR t a b
termination_by a b => a.length + b.length
theorem diffR_length (t : Tbl) (a b : List Row) : (diffR t a b).length ≤ a.length + b.length := by
  fun_induction diffR t a b with
  | case1 => simp
  | case2 y b ih => simp at ih ⊢; omega
  | case3 x a ih => simp at ih ⊢; omega
  | case4 x a y b h ih => simp at ih ⊢; omega
  | case5 x a y b h1 h2 ih => simp at ih ⊢; omega
  | case6 x a y b h1 h2 ih =>
    rw [List.length_append]
    split <;> simp at ih ⊢ <;> omega

def diffK (s : Sch) (a b : Inst) (k : Nat) : List Chg := (List.range k).flatMap fun j => diffR (s.tables.getD j zTbl) (a.getD j zRel).rows (b.getD j zRel).rows
theorem diffK_succ (s : Sch) (a b : Inst) (k : Nat) : diffK s a b (k + 1) = diffK s a b k ++ diffR (s.tables.getD k zTbl) (a.getD k zRel).rows (b.getD k zRel).rows := by
  simp [diffK, List.range_succ]
def diffE (s : Sch) (a b : Inst) : Int × List Chg :=
  if schE s ≠ 0 then (schE s, []) else if confE s a ≠ 0 then (confE s a, []) else if confE s b ≠ 0 then (confE s b, []) else (0, diffK s a b s.tables.length)

theorem tblOf_self {s : Sch} (ok : OkSch s) {k : Nat} (hk : k < s.tables.length) : tblOf s s.tables[k].name = s.tables[k] := by
  simp only [tblOf, ok.at_self hk, Int.toNat_natCast]
  exact getD_lt _ hk

def hits (s : Sch) (j : Nat) (k : Row) (c : Chg) : Prop := tpos s c = j ∧ tgt (tblOf s c.table) c = k
instance (s : Sch) (j : Nat) (k : Row) (c : Chg) : Decidable (hits s j k c) := by unfold hits; infer_instance
def lookC (s : Sch) (j : Nat) (k : Row) : List Chg → Option Chg
  | [] => none
  | c :: l => match lookC s j k l with
    | some d => some d
    | none => if hits s j k c then some c else none
def eff (c : Chg) : Option Row := if c.kind = 1 then some c.row else none
def getI (s : Sch) (i : Inst) (j : Nat) (k : Row) : Option Row := getR (s.tables.getD j zTbl) (i.getD j zRel).rows k

theorem lookC_some {s : Sch} {j : Nat} {k : Row} {c : Chg} : ∀ {l : List Chg}, lookC s j k l = some c → c ∈ l ∧ hits s j k c
  | [], h => by cases h
  | x :: l, h => by
    rw [lookC] at h
    split at h
    · rename_i d hd
      injection h with h
      subst h
      obtain ⟨h1, h2⟩ := lookC_some hd
      exact ⟨List.mem_cons_of_mem _ h1, h2⟩
    · split at h
      · rename_i hx
        injection h with h
        subst h
        exact ⟨List.mem_cons_self .., hx⟩
      · cases h
theorem lookC_none {s : Sch} {j : Nat} {k : Row} : ∀ {l : List Chg}, lookC s j k l = none ↔ ∀ c ∈ l, ¬ hits s j k c
  | [] => by simp [lookC]
  | x :: l => by
    have ih := lookC_none (s := s) (j := j) (k := k) (l := l)
    rw [lookC]
    split
    · rename_i d hd
      obtain ⟨h1, h2⟩ := lookC_some hd
      exact ⟨fun h => (by cases h), fun h => absurd h2 (h d (List.mem_cons_of_mem _ h1))⟩
    · rename_i hd
      split
      · rename_i hx
        exact ⟨fun h => (by cases h), fun h => absurd hx (h x (List.mem_cons_self ..))⟩
      · rename_i hx
        refine ⟨fun _ c hc => ?_, fun _ => rfl⟩
        rcases List.mem_cons.1 hc with rfl | hc
        · exact hx
        · exact ih.1 hd c hc
theorem lookC_hit {s : Sch} {j : Nat} {k : Row} {l : List Chg} {c : Chg} (hc : c ∈ l) (h : hits s j k c) : ∃ d, lookC s j k l = some d := by
  cases hd : lookC s j k l with
  | some d => exact ⟨d, rfl⟩
  | none => exact absurd h (lookC_none.1 hd c hc)
theorem lookC_same {s : Sch} {j : Nat} {k : Row} {l m : List Chg} (hlm : ∀ c, c ∈ l ↔ c ∈ m) (ha : ∀ c ∈ l, ∀ d ∈ l, hits s j k c → hits s j k d → c = d) : lookC s j k l = lookC s j k m := by
  cases hl : lookC s j k l with
  | none =>
    have := lookC_none.1 hl
    exact (lookC_none.2 fun c hc => this c ((hlm c).2 hc)).symm
  | some c =>
    obtain ⟨h1, h2⟩ := lookC_some hl
    obtain ⟨d, hd⟩ := lookC_hit ((hlm c).1 h1) h2
    obtain ⟨h3, h4⟩ := lookC_some hd
    rw [hd, ha c h1 d ((hlm d).2 h3) h2 h4]
theorem chg_table {s : Sch} {c : Chg} (h : chgE s c = 0) : c.table = (s.tables.getD (tpos s c) zTbl).name := by
  have o := okChg_of h
  have e := o.pos
  rcases idx_cases (fun t => sEq t.name c.table) s.tables 0 with ⟨e1, _⟩ | ⟨j, hj, e1, e2, _⟩
  · have e1 : tblAt s.tables c.table = -1 := e1
    omega
  · have e1 : tblAt s.tables c.table = (j : Int) := by unfold tblAt; simpa using e1
    have ej : j = tpos s c := by omega
    subst ej
    have : s.tables.getD (tpos s c) zTbl = s.tables[tpos s c] := getD_lt _ hj
    rw [this]
    exact (sEq_iff.1 e2).symm
theorem hits_same {s : Sch} {j : Nat} {k : Row} {c d : Chg} (hc : chgE s c = 0) (hd : chgE s d = 0) (h1 : hits s j k c) (h2 : hits s j k d) : SameK s c d := by
  have e : d.table = c.table := by rw [chg_table hc, chg_table hd, h1.1, h2.1]
  refine ⟨e, ?_⟩
  have := h2.2
  rw [e] at this
  rw [this, h1.2]
theorem same_hits {s : Sch} {c d : Chg} (h : SameK s c d) : hits s (tpos s c) (tgt (tblOf s c.table) c) d := by
  obtain ⟨h1, h2⟩ := h
  exact ⟨by unfold tpos; rw [h1], by rw [h1]; exact h2⟩

theorem applyC_getI {s : Sch} {i : Inst} {c : Chg} (h : confE s i = 0) (hc : (applyC s i c).1 = 0) (j : Nat) (k : Row) : getI s (applyC s i c).2 j k = if hits s j k c then eff c else getI s i j k := by
  have hl := ((confE_zero s i).1 h).1
  unfold applyC at hc ⊢
  split at hc
  · rename_i g; exact absurd hc g
  rename_i g
  have o := okChg_of (by simpa using g : chgE s c = 0)
  have ht : tpos s c < i.length := by rw [hl]; exact o.lt
  have hr := conf_rel h ht
  have hsr := ((okRel_iff _ _).1 hr).2.2
  have key : ∀ rows', (∀ k', getR (s.tables.getD (tpos s c) zTbl) rows' k' = if tgt (tblOf s c.table) c = k' then eff c else getR (s.tables.getD (tpos s c) zTbl) (i.getD (tpos s c) zRel).rows k') →
      getI s (setRows i (tpos s c) rows') j k = if hits s j k c then eff c else getI s i j k := by
    intro rows' h'
    unfold getI
    rw [setRows_getD ht]
    by_cases e : tpos s c = j
    · subst e
      rw [if_pos rfl]
      show getR _ rows' k = _
      rw [h']
      by_cases e2 : tgt (tblOf s c.table) c = k
      · rw [if_pos e2, if_pos ⟨rfl, e2⟩]
      · rw [if_neg e2, if_neg (fun q => e2 q.2)]
    · rw [if_neg e, if_neg (fun q => e q.1)]
  split at hc
  · rename_i g1
    split at hc
    · cases hc
    · rename_i g2
      rw [if_neg g, if_pos g1, if_neg g2]
      refine key _ fun k' => ?_
      rw [o.tbl, getR_upsertR]
      simp only [tgt, eff, if_pos g1]
  · rename_i g1
    split at hc
    · rename_i g2
      rw [if_neg g, if_neg g1, if_pos g2]
      refine key _ fun k' => ?_
      rw [o.tbl, getR_deleteR k' hsr]
      simp only [tgt, eff, if_neg g1]
    · cases hc
theorem applyL_getI {s : Sch} (j : Nat) (k : Row) : ∀ {cs : List Chg} {i : Inst}, confE s i = 0 → (applyL s i cs).1 = 0 → getI s (applyL s i cs).2 j k = match lookC s j k cs with | some c => eff c | none => getI s i j k
  | [], i, h, hc => rfl
  | c :: cs, i, h, hc => by
    rw [lookC]
    unfold applyL at hc ⊢
    split at hc
    · rename_i g; exact absurd hc g
    · rename_i g
      have g : (applyC s i c).1 = 0 := by simpa using g
      rw [if_neg (by simpa using g), applyL_getI j k (applyC_conf h g) hc, applyC_getI h g]
      cases lookC s j k cs with
      | some d => rfl
      | none =>
        simp only
        split <;> rfl
theorem applyL_chg {s : Sch} : ∀ {cs : List Chg} {i : Inst}, (applyL s i cs).1 = 0 → ∀ c ∈ cs, chgE s c = 0
  | [], _, _, c, hc => by cases hc
  | x :: cs, i, h, c, hc => by
    unfold applyL at h
    split at h
    · rename_i g; exact absurd h g
    · rename_i g
      rcases List.mem_cons.1 hc with rfl | hc
      · have g : (applyC s i c).1 = 0 := by simpa using g
        unfold applyC at g
        split at g
        · rename_i q; exact absurd g q
        · rename_i q; simpa using q
      · exact applyL_chg h c hc
theorem applyE_okU {s : Sch} {i : Inst} {cs : List Chg} (h : (applyE s i cs).1 = 0) : schE s = 0 ∧ confE s i = 0 ∧ cs.length ≤ 24 ∧ (applyL s i cs).1 = 0 ∧ applyE s i cs = applyL s i cs := by
  unfold applyE at h ⊢
  split at h
  · rename_i g; exact absurd h g
  rename_i g1
  split at h
  · rename_i g; exact absurd h g
  rename_i g2
  split at h
  · cases h
  rename_i g3
  rw [if_neg g1, if_neg g2, if_neg g3]
  exact ⟨by simpa using g1, by simpa using g2, by omega, h, rfl⟩

def cmpName (a b : Chg) : Int := if Op.bytesLess a.table.toList b.table.toList then -1 else 1
def hasName (l : List Chg) (n : ByteArray) : Bool := l.any fun d => sEq d.table n
def nubC : List Chg → List Chg → List Chg
  | out, [] => out
  | out, c :: cs => nubC (if hasName out c.table then out else out ++ [c]) cs
theorem hasName_iff {l : List Chg} {n : ByteArray} : hasName l n = true ↔ ∃ d ∈ l, d.table = n := by
  simp [hasName, List.any_eq_true, sEq_iff]
theorem nubC_mem {n : ByteArray} : ∀ {cs out : List Chg}, (∃ d ∈ nubC out cs, d.table = n) ↔ (∃ d ∈ out, d.table = n) ∨ ∃ d ∈ cs, d.table = n
  | [], out => by simp [nubC]
  | c :: cs, out => by
    rw [nubC, nubC_mem]
    split
    · rename_i h
      obtain ⟨d, h1, h2⟩ := hasName_iff.1 h
      constructor
      · rintro (h | ⟨e, h3, h4⟩)
        · exact .inl h
        · exact .inr ⟨e, List.mem_cons_of_mem _ h3, h4⟩
      · rintro (h | ⟨e, h3, h4⟩)
        · exact .inl h
        · rcases List.mem_cons.1 h3 with rfl | h3
          · exact .inl ⟨d, h1, h2.trans h4⟩
          · exact .inr ⟨e, h3, h4⟩
    · constructor
      · rintro (⟨e, h3, h4⟩ | ⟨e, h3, h4⟩)
        · rcases List.mem_append.1 h3 with h3 | h3
          · exact .inl ⟨e, h3, h4⟩
          · exact .inr ⟨c, List.mem_cons_self .., List.mem_singleton.1 h3 ▸ h4⟩
        · exact .inr ⟨e, List.mem_cons_of_mem _ h3, h4⟩
      · rintro (⟨e, h3, h4⟩ | ⟨e, h3, h4⟩)
        · exact .inl ⟨e, List.mem_append.2 (.inl h3), h4⟩
        · rcases List.mem_cons.1 h3 with rfl | h3
          · exact .inl ⟨e, List.mem_append.2 (.inr (List.mem_singleton.2 rfl)), h4⟩
          · exact .inr ⟨e, h3, h4⟩
theorem nubC_nodup : ∀ {cs out : List Chg}, (out.map (·.table)).Nodup → ((nubC out cs).map (·.table)).Nodup
  | [], out, h => h
  | c :: cs, out, h => by
    rw [nubC]
    refine nubC_nodup ?_
    split
    · exact h
    · rename_i g
      rw [List.map_append]
      refine List.nodup_append.2 ⟨h, by simp, ?_⟩
      intro x hx y hy e
      obtain ⟨d, h1, rfl⟩ := List.mem_map.1 hx
      have hy : y = c.table := by simpa using hy
      exact g (hasName_iff.2 ⟨d, h1, by rw [e, hy]⟩)
theorem nodup_len {α : Type} [DecidableEq α] : ∀ {l m : List α}, l.Nodup → (∀ x ∈ l, x ∈ m) → l.length ≤ m.length
  | [], m, _, _ => Nat.zero_le _
  | x :: l, m, h, hs => by
    obtain ⟨h1, h2⟩ := List.nodup_cons.1 h
    have hx := hs x (List.mem_cons_self ..)
    have h3 := nodup_len (l := l) (m := m.erase x) h2 fun y hy => (List.mem_erase_of_ne (fun (e : y = x) => h1 (by rw [← e]; exact hy))).2 (hs y (List.mem_cons_of_mem _ hy))
    rw [List.length_erase_of_mem hx] at h3
    have := List.length_pos_of_mem hx
    simp only [List.length_cons]
    omega
theorem nubC_len {s : Sch} {cs : List Chg} (h : ∀ c ∈ cs, chgE s c = 0) : (nubC [] cs).length ≤ s.tables.length := by
  have h1 := nubC_nodup (cs := cs) (out := []) (by simp)
  have h2 := nodup_len (m := s.tables.map (·.name)) h1 fun x hx => by
    obtain ⟨d, h3, rfl⟩ := List.mem_map.1 hx
    rcases nubC_mem.1 ⟨d, h3, rfl⟩ with ⟨e, h4, _⟩ | ⟨e, h4, h5⟩
    · cases h4
    · have o := okChg_of (h e h4)
      have hn := chg_table (h e h4)
      rw [getD_lt _ o.lt] at hn
      rw [← h5, hn]
      exact List.mem_map.2 ⟨_, List.getElem_mem _, rfl⟩
  simpa using h2
theorem nubC_snoc (out : List Chg) : ∀ (cs : List Chg) (c : Chg), nubC out (cs ++ [c]) = if hasName (nubC out cs) c.table then nubC out cs else nubC out cs ++ [c]
  | [], c => rfl
  | d :: cs, c => nubC_snoc _ cs c
def namesE (s : Sch) (cs : List Chg) : Int × List Chg :=
  if schE s ≠ 0 then (schE s, []) else match cs.find? fun c => !(chgE s c == 0) with
    | some c => (chgE s c, [])
    | none => (0, insS cmpName 0 (nubC [] cs).length (nubC [] cs))
theorem namesE_ok {s : Sch} {cs : List Chg} (h1 : schE s = 0) (h2 : ∀ c ∈ cs, chgE s c = 0) : (namesE s cs).1 = 0 ∧ ∀ d ∈ cs, hasName (namesE s cs).2 d.table = true := by
  have h3 : cs.find? (fun c => !(chgE s c == 0)) = none := List.find?_eq_none.2 fun c hc => by simp [h2 c hc]
  have e : namesE s cs = (0, insS cmpName 0 (nubC [] cs).length (nubC [] cs)) := by
    unfold namesE
    rw [if_neg (by simpa using h1), h3]
  rw [e]
  refine ⟨rfl, fun d hd => hasName_iff.2 ?_⟩
  obtain ⟨x, h4, h5⟩ := nubC_mem.2 (.inr ⟨d, hd, rfl⟩ : (∃ x ∈ ([] : List Chg), x.table = d.table) ∨ ∃ x ∈ cs, x.table = d.table)
  exact ⟨x, (insS_perm cmpName 0 _ _).symm.subset h4, h5⟩

section
open Go.Proofs Go.RowKit

theorem sat_of_calls {P : Program} {f : FuncId} {fn : Func} {c : Code} {xs : List V} {args : List Value} {v : Value} {r : A} (hf : P.funcs[f]? = some fn) (hb : fn.body = some c) (hn : (fn.name == "runtime.NumGoroutine") = false)
    (ha : ∀ m ω vs, ArgsRep m ω vs xs → vs = args) (hr : ∀ m ω, ARep m ω v r)
    (h : ∀ w, LaidW P w → Calls P f args.toArray w fun e w' => e = .returned v ∧ Below w.heap.size w w') : Sat P f xs r := by
  refine ⟨fun m w vs ω hC hA => ?_⟩
  have e := ha _ _ _ hA
  subst e
  refine .inr ⟨?_, (h w (hC.good w (Keeps.refl _ _))).mono fun e w' ⟨he, hw⟩ => ⟨v, he, m, ω, hC.grow hw (Mem.le_refl m) (fun _ _ => rfl) (fun x u hx => (hw.cell (World.block_lt_of_cell? w x (hC.ok x u hx))).trans (hC.ok x u hx)), hr m ω⟩⟩
  simp only [callFunc, Sem.run_bind, program, Sem.run, Result.andThen_ok, hf]
  rw [hn, hb]
  simp
theorem args1 {m : Mem} {ω : Wh} {vs : List Value} {l : L} {u : Value} (hA : ArgsRep m ω vs [.one l]) (h : ∀ v, ERep m ω v l → v = u) : vs = [u] := by
  obtain ⟨h1, h2⟩ := hA
  obtain ⟨v, h3, h4⟩ := h2 0 (.one l) rfl
  match vs, h1, h3 with
  | [x], _, h3 =>
    simp only [List.getElem?_cons_zero, Option.some.injEq] at h3
    subst h3
    rw [h x h4]
theorem erep_int {m : Mem} {ω : Wh} {v : Value} {k : IntKind} {n : Int} (h : ERep m ω v (.int k n)) : v = .int k n := by
  have h : Rep m v (.int k n) := h
  cases h; rfl
def itoaB (n : Int) : ByteArray := ⟨(Lib.itoa n).toArray⟩
theorem itoa_sat (n : Int) (h0 : -9223372036854775808 ≤ n) (h1 : n ≤ 9223372036854775807) : Sat Tryz.prog 28 [.one (.int .i64 n)] (.v (.one (.str (itoaB n)))) :=
  sat_of_calls (args := [.int .i64 n]) (v := .string (itoaB n)) Tryz.func28 rfl (by kernel_rfl) (fun m ω vs hA => args1 hA fun v h => erep_int h) (fun m ω => Rep.str _) fun w hw =>
    (Tryz.strconv_Itoa n h0 h1 w (hw.pow (by kernel_rfl))).mono fun e w' ⟨he, k, os, hk⟩ => ⟨he, hk ▸ Lib.below_grow _ w (Nat.le_refl _) k os⟩
end

theorem len64_sat (n : Nat) (h : n ≤ 1099511627776) : Sat Tryz.prog 83 [.one (.int .u64 (n : Int))] (.v (.one (.int .i64 (Lib.bitLen n : Nat)))) :=
  sat_of_calls (args := [.int .u64 (n : Int)]) (v := .int .i64 (Lib.bitLen n : Nat)) Tryz.func83 rfl (by kernel_rfl) (fun m ω vs hA => args1 hA fun v h => erep_int h) (fun m ω => Rep.int _ _) fun w hw =>
    (Tryz.bits_Len64 (n : Int) w (by omega) (by omega)).mono fun e w' ⟨he, hk⟩ => ⟨he, hk ▸ Go.RowKit.Below.refl _ _⟩
theorem len_sat (n : Nat) (h : n ≤ 1099511627776) : Sat Tryz.prog 53 [.one (.int .u64 (n : Int))] (.v (.one (.int .i64 (Lib.bitLen n : Nat)))) := by
  refine sat_of_body tyOk Tryz.func53 rfl (by kernel_rfl) ⟨Nat.le_of_ble_eq_true rfl, Nat.le_of_ble_eq_true rfl⟩ fun w0 m0 F0 => ?_
  simp only [Tryz.ntmps53, envOf, Nat.reduceAdd]
  repeat' (first | ((first | with_reducible refine qV tyOk fun K hK => ?_ | (with_reducible first | refine qG ?_ | refine qH ?_ | refine qP ?_ | refine qGx ?_ | refine qHx ?_ | refine qPx ?_) | ((with_reducible first | refine qS ?_ ?_ | refine qT ?_ ?_ | refine qU ?_ ?_) <;> (intro h; try simp only [NM] at h)) | with_reducible refine yD tyOk mixed 6 (by kernel_rfl) fun K hK => ?_ | ((with_reducible refine CallJ.is ?_); (first | refine CallJ.pure (len64_sat n h) ?_ | ((apply CallJ.lentI); (focus (simp -dsimp (disch := (first | omega | (simp only [LN]; omega))) only [go_sem, ↓reduceIte, seval]; rfl)); (focus (first | exact (len64_sat n h)))))) | ((with_reducible refine CallH.is ?_); (first | refine CallH.intro (len64_sat n h) ?_))) <;> simp -dsimp (disch := (first | omega | (simp only [LN]; omega))) only [go_sem, ↓reduceIte, seval]) | ((with_reducible refine hK _ ?_); clear hK K) | (with_reducible first | refine qA ?_ | refine qB ?_ | refine qC ?_ | refine qD ?_ | refine qE ?_ | refine qF ?_ | refine qL ?_ | refine qM ?_ | refine qN ?_ | refine qO ?_ | refine qQ ?_) | refine qR rfl ?_ | (with_reducible refine AI ?_) | ((with_reducible refine qW (T := TT) (b := ?_) ?_ ?_); rotate_left; exact rfl) | (with_reducible first | refine qX ?_ | refine qY ?_ | refine qZ ?_) | (with_reducible first | refine qI ?_ | refine qIx ?_ | fail) | ((with_reducible refine yS ?_ ?_) <;> (intro h; try simp only [NM] at h)))
  simp -dsimp (disch := (first | omega | (simp only [LN]; omega))) only [retQ, Tryz.results53, resVals, cellRV, resOf, St.rest, St.freeze, RT, go_sem, ↓reduceIte, seval]

theorem isNaN_sat (a : ByteArray) : Sat Tryz.prog 97 [oS a] (.v (oB false)) := by
  refine sat_of_body tyOk Tryz.func97 rfl (by kernel_rfl) ⟨Nat.le_of_ble_eq_true rfl, Nat.le_of_ble_eq_true rfl⟩ fun w0 m0 F0 => ?_
  simp only [Tryz.ntmps97, envOf, Nat.reduceAdd]
  repeat' (first | ((first | with_reducible refine qV tyOk fun K hK => ?_ | (with_reducible first | refine qG ?_ | refine qH ?_ | refine qP ?_ | refine qGx ?_ | refine qHx ?_ | refine qPx ?_) | ((with_reducible first | refine qS ?_ ?_ | refine qT ?_ ?_ | refine qU ?_ ?_) <;> (intro h; try simp only [NM] at h)) | with_reducible refine yD tyOk mixed 6 (by kernel_rfl) fun K hK => ?_) <;> simp -dsimp (disch := (first | omega | (simp only [LN]; omega))) only [go_sem, ↓reduceIte, seval]) | ((with_reducible refine hK _ ?_); clear hK K) | (with_reducible first | refine qA ?_ | refine qB ?_ | refine qC ?_ | refine qD ?_ | refine qE ?_ | refine qF ?_ | refine qL ?_ | refine qM ?_ | refine qN ?_ | refine qO ?_ | refine qQ ?_) | refine qR rfl ?_ | (with_reducible refine AI ?_) | ((with_reducible refine qW (T := TT) (b := ?_) ?_ ?_); rotate_left; exact rfl) | (with_reducible first | refine qX ?_ | refine qY ?_ | refine qZ ?_) | (with_reducible first | refine qI ?_ | refine qIx ?_ | fail) | ((with_reducible refine yS ?_ ?_) <;> (intro h; try simp only [NM] at h)))
  simp -dsimp (disch := (first | omega | (simp only [LN]; omega))) only [retQ, Tryz.results97, resVals, cellRV, resOf, St.rest, St.freeze, RT, go_sem, ↓reduceIte, seval]
theorem less_sat (a b : ByteArray) : Sat Tryz.prog 79 [oS a, oS b] (.v (oB (Op.bytesLess a.toList b.toList))) := by
  refine sat_of_body tyOk Tryz.func79 rfl (by kernel_rfl) ⟨Nat.le_of_ble_eq_true rfl, Nat.le_of_ble_eq_true rfl⟩ fun w0 m0 F0 => ?_
  simp only [Tryz.ntmps79, envOf, Nat.reduceAdd]
  repeat' (first | ((first | with_reducible refine qV tyOk fun K hK => ?_ | (with_reducible first | refine qG ?_ | refine qH ?_ | refine qP ?_ | refine qGx ?_ | refine qHx ?_ | refine qPx ?_) | ((with_reducible first | refine qS ?_ ?_ | refine qT ?_ ?_ | refine qU ?_ ?_) <;> (intro h; try simp only [NM] at h)) | with_reducible refine yD tyOk mixed 6 (by kernel_rfl) fun K hK => ?_ | ((with_reducible refine CallJ.is ?_); (first | refine CallJ.pure (isNaN_sat _) ?_ | ((apply CallJ.lentI); (focus (simp -dsimp (disch := (first | omega | (simp only [LN]; omega))) only [go_sem, ↓reduceIte, seval]; rfl)); (focus (first | exact (isNaN_sat _)))))) | ((with_reducible refine CallH.is ?_); (first | refine CallH.intro (isNaN_sat _) ?_))) <;> simp -dsimp (disch := (first | omega | (simp only [LN]; omega))) only [go_sem, ↓reduceIte, seval]) | ((with_reducible refine hK _ ?_); clear hK K) | (with_reducible first | refine qA ?_ | refine qB ?_ | refine qC ?_ | refine qD ?_ | refine qE ?_ | refine qF ?_ | refine qL ?_ | refine qM ?_ | refine qN ?_ | refine qO ?_ | refine qQ ?_) | refine qR rfl ?_ | (with_reducible refine AI ?_) | ((with_reducible refine qW (T := TT) (b := ?_) ?_ ?_); rotate_left; exact rfl) | (with_reducible first | refine qX ?_ | refine qY ?_ | refine qZ ?_) | (with_reducible first | refine qI ?_ | refine qIx ?_ | fail) | ((with_reducible refine yS ?_ ?_) <;> (intro h; try simp only [NM] at h)))
  simp -dsimp (disch := (first | omega | (simp only [LN]; omega))) only [retQ, Tryz.results79, resVals, cellRV, resOf, St.rest, St.freeze, RT, go_sem, ↓reduceIte, seval]

def eNm (c : Chg) : List L := [.str c.table]
def rowN (cs : List Chg) : Rows := [(1000, ⟨1, cs.map eNm, []⟩)]
theorem swap_rowN (ds : List Chg) (i j : Nat) (hi : i < ds.length) (hj : j < ds.length) :
    ((ds.map eNm).set i (eNm ds[j])).set j (setL 0 (eNm ds[i]) (((ds.map eNm).set i (eNm ds[j])).getD j [])) = (swp ds i j).map eNm := by
  rw [setL_all _ _ ?_, swp_eq hi hj, List.map_set, List.map_set]
  rw [List.getD_eq_getElem?_getD, ← List.map_set, List.getElem?_map, List.getElem?_eq_getElem (by simpa using hj)]
  rfl
theorem cmpName_lt (a b : Chg) : decide (cmpName a b < 0) = Op.bytesLess a.table.toList b.table.toList := by
  unfold cmpName
  cases Op.bytesLess a.table.toList b.table.toList <;> simp
set_option maxHeartbeats 16000000 in
theorem insertionSortN_satM (cs : List Chg) (a b : Nat) (hb : b ≤ cs.length) (ha : a ≤ cs.length) (hl : cs.length ≤ 140737488355328) :
    SatM Tryz.prog 73 [.one (.ref 1000 0 cs.length), oI a, oI b] [] (rowN cs) (.tup []) [] (rowN (insS cmpName a b cs)) := by
  unfold rowN
  refine satM_of_body tyOk [] [1000] Tryz.func73 rfl (by kernel_rfl) ⟨Nat.le_of_ble_eq_true rfl, Nat.le_of_ble_eq_true rfl⟩ fun w0 m0 F0 => ?_
  simp only [Tryz.ntmps73, envOf, Nat.reduceAdd]
  repeat' (first | ((first | with_reducible refine qV tyOk fun K hK => ?_ | (with_reducible first | refine qG ?_ | refine qH ?_ | refine qP ?_ | refine qGx ?_ | refine qHx ?_ | refine qPx ?_) | ((with_reducible first | refine qS ?_ ?_ | refine qT ?_ ?_ | refine qU ?_ ?_) <;> (intro h; try simp only [NM] at h))) <;> simp -dsimp (disch := (first | omega | (simp only [LN]; omega))) only [go_sem, ↓reduceIte, seval]) | ((with_reducible refine hK _ ?_); clear hK K) | (with_reducible first | refine qA ?_ | refine qB ?_ | refine qC ?_ | refine qD ?_ | refine qE ?_ | refine qF ?_ | refine qL ?_ | refine qM ?_ | refine qN ?_ | refine qO ?_ | refine qQ ?_) | refine qR rfl ?_ | (with_reducible refine AI ?_) | ((with_reducible refine qW (T := TT) (b := ?_) ?_ ?_); rotate_left; exact rfl) | (with_reducible first | refine qX ?_ | refine qY ?_ | refine qZ ?_) | (with_reducible first | refine qI ?_ | refine qIx ?_ | fail) | ((with_reducible refine yS ?_ ?_) <;> (intro h; try simp only [NM] at h)))
  refine AWP.loop (ι := {p : Nat × List Chg // a + 1 ≤ p.1 ∧ p.1 ≤ cs.length + 1 ∧ p.2.Perm cs ∧ insR cmpName a (b - p.1) p.1 p.2 = insS cmpName a b cs}) (fun p => ⟨49, [(0, .v (.one (.ref 1000 0 cs.length))), (1, .v (oI a)), (2, .v (oI b)), (6, .v (oI p.1.1))], [], [(1000, ⟨1, p.1.2.map eNm, []⟩)]⟩) (fun p => cs.length + 2 - p.1.1) ⟨(a + 1, cs), Nat.le_refl _, by omega, List.Perm.refl _, rfl⟩ ?_ fun ⟨(i, ds), hi1, hi2, hp, hI⟩ => ?_
  · refine St.le_mk ?_ ?_ ?_ <;> simp only [LE, EN, Nat.reduceEqDiff, reduceIte, Nat.reduceSub, Int.natCast_add]
  have hd : ds.length = cs.length := hp.length_eq
  simp only at hi1 hi2 hp hI ⊢
  rcases Nat.lt_or_ge i b with hc1 | hc1
  · have eI : b - i = (b - (i + 1)) + 1 := by omega
    rw [eI, insR] at hI
    repeat' (first | ((first | with_reducible refine qV tyOk fun K hK => ?_ | (with_reducible first | refine qG ?_ | refine qH ?_ | refine qP ?_ | refine qGx ?_ | refine qHx ?_ | refine qPx ?_) | ((with_reducible first | refine qS ?_ ?_ | refine qT ?_ ?_ | refine qU ?_ ?_) <;> (intro h; try simp only [NM] at h))) <;> simp -dsimp (disch := (first | omega | (simp only [LN]; omega))) only [go_sem, ↓reduceIte, seval]) | ((with_reducible refine hK _ ?_); clear hK K) | (with_reducible first | refine qA ?_ | refine qB ?_ | refine qC ?_ | refine qD ?_ | refine qE ?_ | refine qF ?_ | refine qL ?_ | refine qM ?_ | refine qN ?_ | refine qO ?_ | refine qQ ?_) | refine qR rfl ?_ | (with_reducible refine AI ?_) | ((with_reducible refine qW (T := TT) (b := ?_) ?_ ?_); rotate_left; exact rfl) | (with_reducible first | refine qX ?_ | refine qY ?_ | refine qZ ?_) | (with_reducible first | refine qI ?_ | refine qIx ?_ | fail) | ((with_reducible refine yS ?_ ?_) <;> (intro h; try simp only [NM] at h)))
    refine AWP.loop (ι := {p : Nat × List Chg // a ≤ p.1 ∧ p.1 ≤ i ∧ p.2.Perm cs ∧ down cmpName a p.1 p.2 = down cmpName a i ds}) (fun p => ⟨49, [(0, .v (.one (.ref 1000 0 cs.length))), (1, .v (oI a)), (2, .v (oI b)), (6, .v (oI i)), (7, .v (oI p.1.1))], [], [(1000, ⟨1, p.1.2.map eNm, []⟩)]⟩) (fun p => p.1.1) ⟨(i, ds), by omega, Nat.le_refl _, hp, rfl⟩ ?_ fun ⟨(j, es), hj1, hj2, hq, hJ⟩ => ?_
    · refine St.le_mk ?_ ?_ ?_ <;> simp only [LE, EN, Nat.reduceEqDiff, reduceIte, Nat.reduceSub, hd]
    have he : es.length = cs.length := hq.length_eq
    simp only at hj1 hj2 hq hJ ⊢
    rcases Nat.lt_or_ge a j with hc2 | hc2
    · have h1 : j < es.length := by omega
      have h2 : j - 1 < es.length := by omega
      have e1 : ((j : Int) - 1).toNat = j - 1 := by omega
      have ej : ((j - 1 : Nat) : Int) = (j : Int) - 1 := by omega
      have cc := less_sat es[j].table es[j - 1].table
      have lj := lessAt_eq cmpName h1 h2
      rw [cmpName_lt] at lj
      repeat' (first | ((first | ((fail_if_success (refine AWP.isRegion 4 ?_)); (with_reducible refine qV tyOk fun K hK => ?_)) | (with_reducible first | refine qG ?_ | refine qH ?_ | refine qP ?_ | refine qGx ?_ | refine qHx ?_ | refine qPx ?_) | ((with_reducible first | refine qS ?_ ?_ | refine qT ?_ ?_ | refine qU ?_ ?_) <;> (intro h; try simp only [NM] at h))) <;> simp -dsimp (disch := (first | omega | (simp only [LN]; omega))) only [go_sem, ↓reduceIte, seval]) | ((with_reducible refine hK _ ?_); clear hK K) | (with_reducible first | refine qA ?_ | refine qB ?_ | refine qC ?_ | refine qD ?_ | refine qE ?_ | refine qF ?_ | refine qL ?_ | refine qM ?_ | refine qN ?_ | refine qO ?_ | refine qQ ?_) | refine qR rfl ?_ | (with_reducible refine AI ?_) | ((with_reducible refine qW (T := TT) (b := ?_) ?_ ?_); rotate_left; exact rfl) | (with_reducible first | refine qX ?_ | refine qY ?_ | refine qZ ?_) | (with_reducible first | refine qI ?_ | refine qIx ?_ | fail) | ((with_reducible refine yS ?_ ?_) <;> (intro h; try simp only [NM] at h)))
      refine AWP.drawX tyOk mixed [(0, 13)] [(13, [(14, 1)], [])] [13] 8 (by decide) (by kernel_rfl) (by kernel_rfl) (by kernel_rfl) (by kernel_rfl) fun K hK => ?_
      simp only [segx_nil, segx_cons, segs, List.drop_succ_cons, List.drop_zero, List.take_succ_cons, List.take_zero, List.getElem?_cons_zero, List.getElem?_cons_succ, List.cons_append, List.nil_append, List.append_nil] at hK ⊢
      simp -dsimp (disch := (first | omega | (simp only [LN]; omega))) only [go_sem, ↓reduceIte, seval, he, e1, eNm, Option.getD_none]
      repeat' (first | ((first | ((fail_if_success (refine AWP.isRegion 6 ?_)); (with_reducible refine qV tyOk fun K hK => ?_)) | (with_reducible first | refine qG ?_ | refine qH ?_ | refine qP ?_ | refine qGx ?_ | refine qHx ?_ | refine qPx ?_) | ((with_reducible first | refine qS ?_ ?_ | refine qT ?_ ?_ | refine qU ?_ ?_) <;> (intro h; try simp only [NM] at h)) | ((with_reducible refine CallJ.is ?_); (first | refine CallJ.pure (cc) ?_ | ((apply CallJ.lentI); (focus (simp -dsimp (disch := (first | omega | (simp only [LN]; omega))) only [go_sem, ↓reduceIte, seval, he, e1, eNm, Option.getD_none]; rfl)); (focus (first | exact (cc)))))) | ((with_reducible refine CallH.is ?_); (first | refine CallH.intro (cc) ?_))) <;> simp -dsimp (disch := (first | omega | (simp only [LN]; omega))) only [go_sem, ↓reduceIte, seval, he, e1, eNm, Option.getD_none]) | ((with_reducible refine hK _ ?_); clear hK K) | (with_reducible first | refine qA ?_ | refine qB ?_ | refine qC ?_ | refine qD ?_ | refine qE ?_ | refine qF ?_ | refine qL ?_ | refine qM ?_ | refine qN ?_ | refine qO ?_ | refine qQ ?_) | refine qR rfl ?_ | ((with_reducible refine VCy.intro fun K0 hK0 => ?_)) | ((with_reducible refine VCy.fin ?_); (refine hK0 _ ?_); clear hK0 K0) | (with_reducible first | refine VCy.quiet ?_ | refine VCy.none ?_) | ((with_reducible first | refine VCy.some fun K hK => ?_ | refine VCy.step fun K hK => ?_); simp -dsimp (disch := (first | omega | (simp only [LN]; omega))) only [go_sem, ↓reduceIte, seval, he, e1, eNm, Option.getD_none]) | ((with_reducible refine VCy.keep ?_ ?_); focus ((simp -dsimp (disch := (first | omega | (simp only [LN]; omega))) only [go_sem, ↓reduceIte, seval, Stable_cons, Stable_nil, sameA_some, sameA_none, he, e1, eNm, Option.getD_none]); first | done | with_reducible assumption | omega | (repeat' with_reducible refine And.intro ?_ ?_) <;> first | with_reducible rfl | with_reducible assumption | omega)) | (with_reducible refine AI ?_) | ((with_reducible refine qW (T := TT) (b := ?_) ?_ ?_); rotate_left; exact rfl) | (with_reducible first | refine qX ?_ | refine qY ?_ | refine qZ ?_) | (with_reducible first | refine qI ?_ | refine qIx ?_ | fail) | ((with_reducible refine yS ?_ ?_) <;> (intro h; try simp only [NM] at h)))
      · refine AWP.drawX tyOk mixed [(0, 15)] [(15, [(16, 1)], [(2, 3)]), (17, [], [])] [15, 17] 8 (by decide) (by kernel_rfl) (by kernel_rfl) (by kernel_rfl) (by kernel_rfl) fun K hK => ?_
        simp only [segx_nil, segx_cons, segs, List.drop_succ_cons, List.drop_zero, List.take_succ_cons, List.take_zero, List.getElem?_cons_zero, List.getElem?_cons_succ, List.cons_append, List.nil_append, List.append_nil] at hK ⊢
        simp -dsimp (disch := (first | omega | (simp only [LN]; omega))) only [go_sem, ↓reduceIte, seval, he, e1, eNm, Option.getD_none]
        repeat' (first | ((first | with_reducible refine qV tyOk fun K hK => ?_ | (with_reducible first | refine qG ?_ | refine qH ?_ | refine qP ?_ | refine qGx ?_ | refine qHx ?_ | refine qPx ?_) | ((with_reducible first | refine qS ?_ ?_ | refine qT ?_ ?_ | refine qU ?_ ?_) <;> (intro h; try simp only [NM] at h))) <;> simp -dsimp (disch := (first | omega | (simp only [LN]; omega))) only [go_sem, ↓reduceIte, seval, he, e1, eNm, Option.getD_none]) | ((with_reducible refine hK _ ?_); clear hK K) | (with_reducible first | refine qA ?_ | refine qB ?_ | refine qC ?_ | refine qD ?_ | refine qE ?_ | refine qF ?_ | refine qL ?_ | refine qM ?_ | refine qN ?_ | refine qO ?_ | refine qQ ?_) | refine qR rfl ?_ | ((with_reducible refine VCy.intro fun K0 hK0 => ?_)) | ((with_reducible refine VCy.fin ?_); (refine hK0 _ ?_); clear hK0 K0) | (with_reducible first | refine VCy.quiet ?_ | refine VCy.none ?_) | ((with_reducible first | refine VCy.some fun K hK => ?_ | refine VCy.step fun K hK => ?_); simp -dsimp (disch := (first | omega | (simp only [LN]; omega))) only [go_sem, ↓reduceIte, seval, he, e1, eNm, Option.getD_none]) | ((with_reducible refine VCy.keep ?_ ?_); focus ((simp -dsimp (disch := (first | omega | (simp only [LN]; omega))) only [go_sem, ↓reduceIte, seval, Stable_cons, Stable_nil, sameA_some, sameA_none, he, e1, eNm, Option.getD_none]); first | done | with_reducible assumption | omega | (repeat' with_reducible refine And.intro ?_ ?_) <;> first | with_reducible rfl | with_reducible assumption | omega)) | (with_reducible refine AI ?_) | ((with_reducible refine qW (T := TT) (b := ?_) ?_ ?_); rotate_left; exact rfl) | (with_reducible first | refine qX ?_ | refine qY ?_ | refine qZ ?_) | (with_reducible first | refine qI ?_ | refine qIx ?_ | fail) | ((with_reducible refine yS ?_ ?_) <;> (intro h; try simp only [NM] at h)))
        have lt : lessAt cmpName es j (j - 1) = true := by rw [lj]; assumption
        refine ⟨⟨(j - 1, swp es j (j - 1)), by simp only; omega, by simp only; omega, (swp_perm es _ _).trans hq, by rw [← hJ, down_step cmpName a j es hc2 lt]⟩, by simp only; omega, ?_⟩
        have sw := swap_rowN es j (j - 1) h1 h2
        simp only [eNm] at sw
        refine St.le_mk ?_ trivial ⟨congrArg (fun x : List (List L) => some (⟨1, x, []⟩ : RowC)) sw, trivial⟩
        simp only [allIn_cons, allIn_nil, look_cons, look_nil, reduceIte, Nat.reduceEqDiff]
        exact ⟨trivial, trivial, trivial, trivial, by rw [ej], trivial⟩
      · have lf : lessAt cmpName es j (j - 1) = false := by rw [lj]; assumption
        rw [down_stop cmpName a j es (.inr lf)] at hJ
        refine ⟨⟨(i + 1, es), by simp only; omega, by simp only; omega, hq, by rw [hJ, hI]⟩, by simp only; omega, ?_⟩
        refine St.le_mk ?_ ?_ ?_ <;> simp only [LE, EN, Nat.reduceEqDiff, reduceIte, Nat.reduceSub, he, Int.natCast_add]
    · rw [down_stop cmpName a j es (.inl hc2)] at hJ
      repeat' (first | ((first | ((fail_if_success (refine AWP.isRegion 4 ?_)); (with_reducible refine qV tyOk fun K hK => ?_)) | (with_reducible first | refine qG ?_ | refine qH ?_ | refine qP ?_ | refine qGx ?_ | refine qHx ?_ | refine qPx ?_) | ((with_reducible first | refine qS ?_ ?_ | refine qT ?_ ?_ | refine qU ?_ ?_) <;> (intro h; try simp only [NM] at h))) <;> simp -dsimp (disch := (first | omega | (simp only [LN]; omega))) only [go_sem, ↓reduceIte, seval]) | ((with_reducible refine hK _ ?_); clear hK K) | (with_reducible first | refine qA ?_ | refine qB ?_ | refine qC ?_ | refine qD ?_ | refine qE ?_ | refine qF ?_ | refine qL ?_ | refine qM ?_ | refine qN ?_ | refine qO ?_ | refine qQ ?_) | refine qR rfl ?_ | (with_reducible refine AI ?_) | ((with_reducible refine qW (T := TT) (b := ?_) ?_ ?_); rotate_left; exact rfl) | (with_reducible first | refine qX ?_ | refine qY ?_ | refine qZ ?_) | (with_reducible first | refine qI ?_ | refine qIx ?_ | fail) | ((with_reducible refine yS ?_ ?_) <;> (intro h; try simp only [NM] at h)))
      refine AWP.drawX tyOk mixed [(0, 13)] [(13, [(14, 1)], [])] [13] 8 (by decide) (by kernel_rfl) (by kernel_rfl) (by kernel_rfl) (by kernel_rfl) fun K hK => ?_
      simp only [segx_nil, segx_cons, segs, List.drop_succ_cons, List.drop_zero, List.take_succ_cons, List.take_zero, List.getElem?_cons_zero, List.getElem?_cons_succ, List.cons_append, List.nil_append, List.append_nil] at hK ⊢
      simp -dsimp (disch := (first | omega | (simp only [LN]; omega))) only [go_sem, ↓reduceIte, seval, he, eNm, Option.getD_none]
      repeat' (first | ((first | with_reducible refine qV tyOk fun K hK => ?_ | (with_reducible first | refine qG ?_ | refine qH ?_ | refine qP ?_ | refine qGx ?_ | refine qHx ?_ | refine qPx ?_) | ((with_reducible first | refine qS ?_ ?_ | refine qT ?_ ?_ | refine qU ?_ ?_) <;> (intro h; try simp only [NM] at h))) <;> simp -dsimp (disch := (first | omega | (simp only [LN]; omega))) only [go_sem, ↓reduceIte, seval, he, eNm, Option.getD_none]) | ((with_reducible refine hK _ ?_); clear hK K) | (with_reducible first | refine qA ?_ | refine qB ?_ | refine qC ?_ | refine qD ?_ | refine qE ?_ | refine qF ?_ | refine qL ?_ | refine qM ?_ | refine qN ?_ | refine qO ?_ | refine qQ ?_) | refine qR rfl ?_ | ((with_reducible refine VCy.intro fun K0 hK0 => ?_)) | ((with_reducible refine VCy.fin ?_); (refine hK0 _ ?_); clear hK0 K0) | (with_reducible first | refine VCy.quiet ?_ | refine VCy.none ?_) | ((with_reducible first | refine VCy.some fun K hK => ?_ | refine VCy.step fun K hK => ?_); simp -dsimp (disch := (first | omega | (simp only [LN]; omega))) only [go_sem, ↓reduceIte, seval, he, eNm, Option.getD_none]) | ((with_reducible refine VCy.keep ?_ ?_); focus ((simp -dsimp (disch := (first | omega | (simp only [LN]; omega))) only [go_sem, ↓reduceIte, seval, Stable_cons, Stable_nil, sameA_some, sameA_none, he, eNm, Option.getD_none]); first | done | with_reducible assumption | omega | (repeat' with_reducible refine And.intro ?_ ?_) <;> first | with_reducible rfl | with_reducible assumption | omega)) | (with_reducible refine AI ?_) | ((with_reducible refine qW (T := TT) (b := ?_) ?_ ?_); rotate_left; exact rfl) | (with_reducible first | refine qX ?_ | refine qY ?_ | refine qZ ?_) | (with_reducible first | refine qI ?_ | refine qIx ?_ | fail) | ((with_reducible refine yS ?_ ?_) <;> (intro h; try simp only [NM] at h)))
      refine ⟨⟨(i + 1, es), by simp only; omega, by simp only; omega, hq, by rw [hJ, hI]⟩, by simp only; omega, ?_⟩
      refine St.le_mk ?_ ?_ ?_ <;> simp only [LE, EN, Nat.reduceEqDiff, reduceIte, Nat.reduceSub, he, Int.natCast_add]
  · have e0 : b - i = 0 := by omega
    rw [e0] at hI
    have hI : ds = insS cmpName a b cs := hI
    repeat' (first | ((first | with_reducible refine qV tyOk fun K hK => ?_ | (with_reducible first | refine qG ?_ | refine qH ?_ | refine qP ?_ | refine qGx ?_ | refine qHx ?_ | refine qPx ?_) | ((with_reducible first | refine qS ?_ ?_ | refine qT ?_ ?_ | refine qU ?_ ?_) <;> (intro h; try simp only [NM] at h))) <;> simp -dsimp (disch := (first | omega | (simp only [LN]; omega))) only [go_sem, ↓reduceIte, seval]) | ((with_reducible refine hK _ ?_); clear hK K) | (with_reducible first | refine qA ?_ | refine qB ?_ | refine qC ?_ | refine qD ?_ | refine qE ?_ | refine qF ?_ | refine qL ?_ | refine qM ?_ | refine qN ?_ | refine qO ?_ | refine qQ ?_) | refine qR rfl ?_ | (with_reducible refine AI ?_) | ((with_reducible refine qW (T := TT) (b := ?_) ?_ ?_); rotate_left; exact rfl) | (with_reducible first | refine qX ?_ | refine qY ?_ | refine qZ ?_) | (with_reducible first | refine qI ?_ | refine qIx ?_ | fail) | ((with_reducible refine yS ?_ ?_) <;> (intro h; try simp only [NM] at h)))
    simp -dsimp (disch := (first | omega | (simp only [LN]; omega))) only [retQ, Tryz.results73, resVals, cellRV, resOf, St.rest, St.freeze, RT, go_sem, ↓reduceIte, seval]
    rw [hI]
set_option maxHeartbeats 16000000 in
theorem pdqN_satM (cs : List Chg) (k : Int) (hl : cs.length ≤ 12) :
    SatM Tryz.prog 52 [.one (.ref 1000 0 cs.length), oI 0, oI cs.length, oI k] [] (rowN cs) (.tup []) [] (rowN (insS cmpName 0 cs.length cs)) := by
  have st := insertionSortN_satM cs 0 cs.length (Nat.le_refl _) (Nat.zero_le _) (by omega)
  unfold rowN at st ⊢
  rw [Int.natCast_zero] at st
  refine satM_of_body tyOk [] [1000] Tryz.func52 rfl (by kernel_rfl) ⟨Nat.le_of_ble_eq_true rfl, Nat.le_of_ble_eq_true rfl⟩ fun w0 m0 F0 => ?_
  simp only [Tryz.ntmps52, envOf, Nat.reduceAdd]
  repeat' (first | ((first | with_reducible refine qV tyOk fun K hK => ?_ | (with_reducible first | refine qG ?_ | refine qH ?_ | refine qP ?_ | refine qGx ?_ | refine qHx ?_ | refine qPx ?_) | ((with_reducible first | refine qS ?_ ?_ | refine qT ?_ ?_ | refine qU ?_ ?_) <;> (intro h; try simp only [NM] at h))) <;> simp -dsimp (disch := (first | omega | (simp only [LN]; omega))) only [go_sem, ↓reduceIte, seval]) | ((with_reducible refine hK _ ?_); clear hK K) | (with_reducible first | refine qA ?_ | refine qB ?_ | refine qC ?_ | refine qD ?_ | refine qE ?_ | refine qF ?_ | refine qL ?_ | refine qM ?_ | refine qN ?_ | refine qO ?_ | refine qQ ?_) | refine qR rfl ?_ | (with_reducible refine AI ?_) | ((with_reducible refine qW (T := TT) (b := ?_) ?_ ?_); rotate_left; exact rfl) | (with_reducible first | refine qX ?_ | refine qY ?_ | refine qZ ?_) | (with_reducible first | refine qI ?_ | refine qIx ?_ | fail) | ((with_reducible refine yS ?_ ?_) <;> (intro h; try simp only [NM] at h)))
  refine AWP.loop (ι := Unit) (fun _ => ⟨134, [(0, .v (.one (.ref 1000 0 cs.length))), (1, .v (oI 0)), (2, .v (oI cs.length)), (3, .v (oI k))], [], [(1000, ⟨1, cs.map eNm, []⟩)]⟩) (fun _ => 0) () ?_ fun _ => ?_
  · refine St.le_mk ?_ ?_ ?_ <;> simp only [LE, EN, Nat.reduceEqDiff, reduceIte, Nat.reduceSub]
  repeat' (first | ((first | with_reducible refine qV tyOk fun K hK => ?_ | (with_reducible first | refine qG ?_ | refine qH ?_ | refine qP ?_ | refine qGx ?_ | refine qHx ?_ | refine qPx ?_) | ((with_reducible first | refine qS ?_ ?_ | refine qT ?_ ?_ | refine qU ?_ ?_) <;> (intro h; try simp only [NM] at h)) | ((with_reducible refine CallJ.is ?_); refine CallJ.io [] [(1000, 1000)] [] [(1000, 1000)] [] [] [] [1000, 1000] (st) rfl ⟨rfl, rfl, rfl, rfl⟩ ?_ ?_ ?_; (focus (simp -dsimp (disch := (first | omega | (simp only [LN]; omega))) only [go_sem, ↓reduceIte, seval, dropL_nil, dropL_nil', dropL_cons]; done)); (focus (simp -dsimp (disch := (first | omega | (simp only [LN]; omega))) only [go_sem, ↓reduceIte, seval, dropL_nil, dropL_nil', dropL_cons]; done)))) <;> simp -dsimp (disch := (first | omega | (simp only [LN]; omega))) only [go_sem, ↓reduceIte, seval, dropL_nil, dropL_nil', dropL_cons]) | ((with_reducible refine hK _ ?_); clear hK K) | (with_reducible first | refine qA ?_ | refine qB ?_ | refine qC ?_ | refine qD ?_ | refine qE ?_ | refine qF ?_ | refine qL ?_ | refine qM ?_ | refine qN ?_ | refine qO ?_ | refine qQ ?_) | refine qR rfl ?_ | (with_reducible refine AI ?_) | ((with_reducible refine qW (T := TT) (b := ?_) ?_ ?_); rotate_left; exact rfl) | (with_reducible first | refine qX ?_ | refine qY ?_ | refine qZ ?_) | (with_reducible first | refine qI ?_ | refine qIx ?_ | fail) | ((with_reducible refine yS ?_ ?_) <;> (intro h; try simp only [NM] at h)))
  simp -dsimp (disch := (first | omega | (simp only [LN]; omega))) only [retQ, Tryz.results52, resVals, cellRV, resOf, St.rest, St.freeze, RT, go_sem, ↓reduceIte, seval]
set_option maxHeartbeats 16000000 in
theorem sortN_satM (cs : List Chg) (hl : cs.length ≤ 12) :
    SatM Tryz.prog 24 [.one (.ref 1000 0 cs.length)] [] (rowN cs) (.tup []) [] (rowN (insS cmpName 0 cs.length cs)) := by
  have st := pdqN_satM cs (Lib.bitLen cs.length : Nat) hl
  unfold rowN at st ⊢
  refine satM_of_body tyOk [] [1000] Tryz.func24 rfl (by kernel_rfl) ⟨Nat.le_of_ble_eq_true rfl, Nat.le_of_ble_eq_true rfl⟩ fun w0 m0 F0 => ?_
  simp only [Tryz.ntmps24, envOf, Nat.reduceAdd]
  repeat' (first | ((first | with_reducible refine qV tyOk fun K hK => ?_ | (with_reducible first | refine qG ?_ | refine qH ?_ | refine qP ?_ | refine qGx ?_ | refine qHx ?_ | refine qPx ?_) | ((with_reducible first | refine qS ?_ ?_ | refine qT ?_ ?_ | refine qU ?_ ?_) <;> (intro h; try simp only [NM] at h)) | ((with_reducible refine CallJ.is ?_); refine CallJ.io [] [(1000, 1000)] [] [(1000, 1000)] [] [] [] [1000, 1000] (st) rfl ⟨rfl, rfl, rfl, rfl⟩ ?_ ?_ ?_; (focus (simp -dsimp (disch := (first | omega | (simp only [LN]; omega))) only [go_sem, ↓reduceIte, seval, wrap_u64, und_int, und_uint, dropL_nil, dropL_nil', dropL_cons]; done)); (focus (simp -dsimp (disch := (first | omega | (simp only [LN]; omega))) only [go_sem, ↓reduceIte, seval, wrap_u64, und_int, und_uint, dropL_nil, dropL_nil', dropL_cons]; done))) | ((with_reducible refine CallJ.is ?_); (first | refine CallJ.pure (len_sat cs.length (by omega)) ?_ | ((apply CallJ.lentI); (focus (simp -dsimp (disch := (first | omega | (simp only [LN]; omega))) only [go_sem, ↓reduceIte, seval, wrap_u64, und_int, und_uint, dropL_nil, dropL_nil', dropL_cons]; rfl)); (focus (first | exact (len_sat cs.length (by omega))))))) | ((with_reducible refine CallH.is ?_); (first | refine CallH.intro (len_sat cs.length (by omega)) ?_))) <;> simp -dsimp (disch := (first | omega | (simp only [LN]; omega))) only [go_sem, ↓reduceIte, seval, wrap_u64, und_int, und_uint, dropL_nil, dropL_nil', dropL_cons]) | ((with_reducible refine hK _ ?_); clear hK K) | (with_reducible first | refine qA ?_ | refine qB ?_ | refine qC ?_ | refine qD ?_ | refine qE ?_ | refine qF ?_ | refine qL ?_ | refine qM ?_ | refine qN ?_ | refine qO ?_ | refine qQ ?_) | refine qR rfl ?_ | (with_reducible refine AI ?_) | ((with_reducible refine qW (T := TT) (b := ?_) ?_ ?_); rotate_left; exact rfl) | (with_reducible first | refine qX ?_ | refine qY ?_ | refine qZ ?_) | (with_reducible first | refine qI ?_ | refine qIx ?_ | fail) | ((with_reducible refine yS ?_ ?_) <;> (intro h; try simp only [NM] at h)))
  simp -dsimp (disch := (first | omega | (simp only [LN]; omega))) only [retQ, Tryz.results24, resVals, cellRV, resOf, St.rest, St.freeze, RT, go_sem, ↓reduceIte, seval]

section
def zC0 : Chg := ⟨0, ByteArray.empty, [], []⟩
def G (ds : List Chg) (k : Nat) : Chg := ds.getD k zC0
structure Keep (ds ds' : List Chg) (a b : Nat) : Prop where
  len : ds'.length = ds.length
  out : ∀ k, k < a ∨ b ≤ k → G ds' k = G ds k
  inn : ∀ k, a ≤ k → k < b → ∃ k', a ≤ k' ∧ k' < b ∧ G ds' k = G ds k'
theorem Keep.refl (ds : List Chg) (a b : Nat) : Keep ds ds a b := ⟨rfl, fun _ _ => rfl, fun k h1 h2 => ⟨k, h1, h2, rfl⟩⟩
theorem Keep.trans {x y z : List Chg} {a b : Nat} (h1 : Keep x y a b) (h2 : Keep y z a b) : Keep x z a b :=
  ⟨h2.len.trans h1.len, fun k h => (h2.out k h).trans (h1.out k h), fun k ha hb => by
    obtain ⟨k', p, q, e⟩ := h2.inn k ha hb
    obtain ⟨k'', p', q', e'⟩ := h1.inn k' p q
    exact ⟨k'', p', q', e.trans e'⟩⟩
theorem Keep.mono {x y : List Chg} {a b a' b' : Nat} (h : Keep x y a b) (ha : a' ≤ a) (hb : b ≤ b') : Keep x y a' b' :=
  ⟨h.len, fun k hk => h.out k (by omega), fun k h1 h2 => by
    by_cases hk : a ≤ k ∧ k < b
    · obtain ⟨k', p, q, e⟩ := h.inn k hk.1 hk.2
      exact ⟨k', by omega, by omega, e⟩
    · exact ⟨k, h1, h2, h.out k (by omega)⟩⟩

section
variable (c : Chg → Chg → Int)
structure OrdC : Prop where
  asym : ∀ x y, c x y < 0 → ¬ c y x < 0
  trans : ∀ x y z, ¬ c y x < 0 → ¬ c z y < 0 → ¬ c z x < 0
def Srt (ds : List Chg) (a b : Nat) : Prop := ∀ i j, a ≤ i → i < j → j < b → ¬ c (G ds j) (G ds i) < 0
variable {c}
theorem Srt.same {ds ds' : List Chg} {a b : Nat} (h : Srt c ds a b) (e : ∀ k, a ≤ k → k < b → G ds' k = G ds k) : Srt c ds' a b := fun i j h1 h2 h3 => by
  rw [e i h1 (by omega), e j (by omega) h3]
  exact h i j h1 h2 h3
theorem OrdC.irr (o : OrdC c) (x : Chg) : ¬ c x x < 0 := fun h => o.asym x x h h
theorem Srt.le (o : OrdC c) {ds : List Chg} {a b i j : Nat} (h : Srt c ds a b) (h1 : a ≤ i) (h2 : i ≤ j) (h3 : j < b) : ¬ c (G ds j) (G ds i) < 0 := by
  rcases Nat.lt_or_eq_of_le h2 with h2 | rfl
  · exact h i j h1 h2 h3
  · exact o.irr _

theorem Srt.sub {ds : List Chg} {a b a' b' : Nat} (h : Srt c ds a b) (ha : a ≤ a') (hb : b' ≤ b) : Srt c ds a' b' := fun i j h1 h2 h3 => h i j (by omega) h2 (by omega)
end
end

theorem lookC_lastC {s : Sch} (j : Nat) (k : Row) : ∀ {l : List Chg}, (∀ c ∈ l, chgE s c = 0) → lookC s j k (lastC s l) = lookC s j k l
  | [], _ => rfl
  | c :: l, h => by
    have ih := lookC_lastC (s := s) j k (l := l) fun c hc => h c (List.mem_cons_of_mem _ hc)
    rw [lastC]
    split
    · rename_i g
      rw [ih, lookC]
      cases hl : lookC s j k l with
      | some d => rfl
      | none =>
        simp only
        rw [if_neg]
        intro hh
        obtain ⟨y, hy, hs⟩ := List.any_eq_true.1 g
        have hs := same_hits ((sameK_iff s c y).1 hs)
        rw [hh.1, hh.2] at hs
        exact lookC_none.1 hl y hy hs
    · rw [lookC, lookC, ih]
theorem lookC_compact {s : Sch} {cs : List Chg} (h : (compactE s cs).1 = 0) (j : Nat) (k : Row) : lookC s j k (compactE s cs).2 = lookC s j k cs := by
  obtain ⟨h1, h2, h3⟩ := compactE_ok h
  rw [← lookC_lastC j k h2]
  have hp : (compactE s cs).2.Perm (lastC s cs) := by rw [h3]; exact stableF_perm ..
  refine lookC_same (fun c => hp.mem_iff) fun c hc d hd g1 g2 => compactE_apart hc hd (hits_same (compactE_mem hc).2.2 (compactE_mem hd).2.2 g1 g2)

def Indep (s : Sch) (a b : List Chg) : Prop := ∀ c ∈ a, ∀ d ∈ b, ¬ SameK s c d
theorem Indep.symm {s : Sch} {a b : List Chg} (h : Indep s a b) : Indep s b a := fun c hc d hd g => h d hd c hc g.symm

theorem diffR_keyMem {t : Tbl} : ∀ {a b : List Row}, SR t a → SR t b → ∀ {c : Chg}, c ∈ diffR t a b → c.table = t.name ∧ getR t a (tgt t c) ≠ getR t b (tgt t c) := by
  intro a b
  fun_induction diffR t a b with
  | case1 => intro _ _ c hc; cases hc
  | case2 y b ih =>
    intro ha hb c hc
    obtain ⟨h1, h2⟩ := List.pairwise_cons.1 hb
    rcases List.mem_cons.1 hc with rfl | hc
    · refine ⟨rfl, ?_⟩
      simp only [tgt, if_pos, getR_cons, getR_nil]
      exact fun q => by cases q
    · obtain ⟨g1, g2⟩ := ih ha h2 hc
      refine ⟨g1, ?_⟩
      rw [getR_cons]
      split
      · exact fun q => by cases q
      · exact g2
  | case3 x a ih =>
    intro ha hb c hc
    obtain ⟨h1, h2⟩ := List.pairwise_cons.1 ha
    rcases List.mem_cons.1 hc with rfl | hc
    · refine ⟨rfl, ?_⟩
      have e : tgt t ⟨2, t.name, keyOf t.pk x, []⟩ = keyOf t.pk x := rfl
      rw [e, getR_cons, if_pos rfl]
      exact fun q => by cases q
    · obtain ⟨g1, g2⟩ := ih h2 hb hc
      refine ⟨g1, ?_⟩
      rw [getR_cons]
      split
      · exact fun q => by cases q
      · exact g2
  | case4 x a y b hlt ih =>
    intro ha hb c hc
    obtain ⟨h1, h2⟩ := List.pairwise_cons.1 ha
    obtain ⟨h3, h4⟩ := List.pairwise_cons.1 hb
    have up : getR t (y :: b) (keyOf t.pk x) = none := getR_above fun z hz => by
      rcases List.mem_cons.1 hz with rfl | hz
      · exact hlt
      · exact cmpRows_is.trans _ _ _ hlt (h3 z hz)
    rcases List.mem_cons.1 hc with rfl | hc
    · refine ⟨rfl, ?_⟩
      have e : tgt t ⟨2, t.name, keyOf t.pk x, []⟩ = keyOf t.pk x := rfl
      rw [e, up, getR_cons, if_pos rfl]
      exact fun q => by cases q
    · obtain ⟨g1, g2⟩ := ih h2 hb hc
      refine ⟨g1, ?_⟩
      rw [getR_cons t x]
      split
      · rename_i q
        rw [← q, up]
        exact fun q => by cases q
      · exact g2
  | case5 x a y b hge hlt ih =>
    intro ha hb c hc
    obtain ⟨h1, h2⟩ := List.pairwise_cons.1 ha
    obtain ⟨h3, h4⟩ := List.pairwise_cons.1 hb
    have hlt' : cmpRows (keyOf t.pk y) (keyOf t.pk x) < 0 := by
      have := cmpRows_is.anti (keyOf t.pk y) (keyOf t.pk x)
      omega
    have up : getR t (x :: a) (keyOf t.pk y) = none := getR_above fun z hz => by
      rcases List.mem_cons.1 hz with rfl | hz
      · exact hlt'
      · exact cmpRows_is.trans _ _ _ hlt' (h1 z hz)
    rcases List.mem_cons.1 hc with rfl | hc
    · refine ⟨rfl, ?_⟩
      have e : tgt t ⟨1, t.name, [], y⟩ = keyOf t.pk y := rfl
      rw [e, up, getR_cons, if_pos rfl]
      exact fun q => by cases q
    · obtain ⟨g1, g2⟩ := ih ha h4 hc
      refine ⟨g1, ?_⟩
      rw [getR_cons t y]
      split
      · rename_i q
        rw [← q, up]
        exact fun q => by cases q
      · exact g2
  | case6 x a y b hge hle ih =>
    intro ha hb c hc
    obtain ⟨h1, h2⟩ := List.pairwise_cons.1 ha
    obtain ⟨h3, h4⟩ := List.pairwise_cons.1 hb
    have ek : keyOf t.pk x = keyOf t.pk y := (cmpRows_is.eq0 _ _).1 (by omega)
    rcases List.mem_append.1 hc with hc | hc
    · split at hc
      · cases hc
      · rename_i hne
        rw [List.mem_singleton.1 hc]
        refine ⟨rfl, ?_⟩
        have e : tgt t ⟨1, t.name, [], y⟩ = keyOf t.pk y := rfl
        rw [e, getR_cons, getR_cons, if_pos ek, if_pos rfl]
        exact fun q => hne (Option.some.inj q)
    · obtain ⟨g1, g2⟩ := ih h2 h4 hc
      refine ⟨g1, ?_⟩
      rw [getR_cons, getR_cons]
      by_cases q : keyOf t.pk x = tgt t c
      · exfalso
        refine g2 ?_
        rw [← q, getR_above (l := a) h1, ek, getR_above (l := b) h3]
      · rw [if_neg q, if_neg (ek ▸ q)]
        exact g2
theorem diffK_keyMem {s : Sch} {a b : Inst} (hs : schE s = 0) (ha : confE s a = 0) (hb : confE s b = 0) {c : Chg} (hc : c ∈ diffK s a b s.tables.length) :
    ∃ j, ∃ h : j < s.tables.length, c.table = s.tables[j].name ∧ getI s a j (tgt s.tables[j] c) ≠ getI s b j (tgt s.tables[j] c) := by
  obtain ⟨j, hj, hc⟩ := List.mem_flatMap.1 hc
  have hj := List.mem_range.1 hj
  have la := ((confE_zero s a).1 ha).1
  have lb := ((confE_zero s b).1 hb).1
  have ra := ((okRel_iff _ _).1 (conf_rel ha (k := j) (by omega))).2.2
  have rb := ((okRel_iff _ _).1 (conf_rel hb (k := j) (by omega))).2.2
  obtain ⟨g1, g2⟩ := diffR_keyMem ra rb hc
  have et : s.tables.getD j zTbl = s.tables[j] := getD_lt _ hj
  refine ⟨j, hj, et ▸ g1, ?_⟩
  unfold getI
  rw [et] at g2 ⊢
  exact g2
def keysE (s : Sch) (cs : List Chg) (table : ByteArray) : Int × List Row :=
  if (compactE s cs).1 ≠ 0 then ((compactE s cs).1, []) else if tblAt s.tables table < 0 then (4, []) else
  (0, ((compactE s cs).2.filter fun c => sEq c.table table).map fun c => tgt (tblOf s table) c)
theorem keys_cover {s : Sch} {i : Inst} {cs : List Chg} (he : (applyE s i cs).1 = 0) {c : Chg} (hc : c ∈ diffK s i (applyE s i cs).2 s.tables.length) :
    (∃ d ∈ cs, d.table = c.table) ∧ (keysE s cs c.table).1 = 0 ∧ tgt (tblOf s c.table) c ∈ (keysE s cs c.table).2 ∧ 0 ≤ tblAt s.tables c.table ∧ (tblOf s c.table) ∈ s.tables ∧ c.table = (tblOf s c.table).name := by
  obtain ⟨h1, h2, h3, h4, h5⟩ := applyE_okU he
  rw [h5] at hc
  have ok := okSch_of h1
  obtain ⟨j, hj, g1, g2⟩ := diffK_keyMem h1 h2 (applyL_conf h2 h4) hc
  have eT : tblOf s c.table = s.tables[j] := by rw [g1]; exact tblOf_self ok hj
  have eA : tblAt s.tables c.table = (j : Int) := by rw [g1]; exact ok.at_self hj
  rw [applyL_getI j _ h2 h4] at g2
  have hk : (compactE s cs).1 = 0 := by
    unfold compactE
    rw [if_neg (by simpa using h1), if_neg (by simpa using (vldE_zero s cs).2 (applyL_chg h4))]
  have hl : ∃ d, lookC s j (tgt s.tables[j] c) (compactE s cs).2 = some d := by
    rw [lookC_compact hk]
    cases hd : lookC s j (tgt s.tables[j] c) cs with
    | some d => exact ⟨d, rfl⟩
    | none => rw [hd] at g2; exact absurd rfl g2
  obtain ⟨d, hd⟩ := hl
  obtain ⟨d1, d2, d3⟩ := lookC_some hd
  obtain ⟨_, d4, d5⟩ := compactE_mem d1
  have hn := chg_table d5
  have et : s.tables.getD j zTbl = s.tables[j] := getD_lt _ hj
  have ed : d.table = c.table := by rw [hn, d2, et, g1]
  refine ⟨⟨d, (lastC_sub s cs).subset d4, ed⟩, ?_, ?_, by omega, by rw [eT]; exact List.getElem_mem _, by rw [eT]; exact g1⟩
  · unfold keysE
    rw [if_neg (by simpa using hk), if_neg (by omega)]
  · unfold keysE
    rw [if_neg (by simpa using hk), if_neg (by omega)]
    refine List.mem_map.2 ⟨d, List.mem_filter.2 ⟨d1, sEq_iff.2 ed⟩, ?_⟩
    rw [← ed, d3, ed, eT]

theorem frz_eNm (l : List Chg) : (l.map eNm).map (fun x => x.map (L.frzN 4)) = l.map eNm := frz_map (fun _ => rfl) l
set_option maxHeartbeats 4000000 in
theorem indexNm_sat (l : List Chg) (n : ByteArray) (hlen : l.length ≤ 140737488355328) :
    Sat Tryz.prog 32 [.one (.sl 1 (l.map eNm)), oS n] (.v (oI (idx (fun d => sEq d.table n) l 0))) := by
  refine sat_of_body tyOk Tryz.func32 rfl (by kernel_rfl) ⟨Nat.le_of_ble_eq_true rfl, Nat.le_of_ble_eq_true rfl⟩ fun w0 m0 F0 => ?_
  simp only [Tryz.ntmps32, envOf, Nat.reduceAdd]
  repeat' (first | ((first | with_reducible refine qV tyOk fun K hK => ?_ | (with_reducible first | refine qG ?_ | refine qH ?_ | refine qP ?_ | refine qGx ?_ | refine qHx ?_ | refine qPx ?_) | ((with_reducible first | refine qS ?_ ?_ | refine qT ?_ ?_ | refine qU ?_ ?_) <;> (intro h; try simp only [NM] at h)) | with_reducible refine yD tyOk mixed 6 (by kernel_rfl) fun K hK => ?_) <;> simp -dsimp (disch := (first | omega | (simp only [LN]; omega))) only [go_sem, ↓reduceIte, seval]) | ((with_reducible refine hK _ ?_); clear hK K) | (with_reducible first | refine qA ?_ | refine qB ?_ | refine qC ?_ | refine qD ?_ | refine qE ?_ | refine qF ?_ | refine qL ?_ | refine qM ?_ | refine qN ?_ | refine qO ?_ | refine qQ ?_) | refine qR rfl ?_ | (with_reducible refine AI ?_) | ((with_reducible refine qW (T := TT) (b := ?_) ?_ ?_); rotate_left; exact rfl) | (with_reducible first | refine qX ?_ | refine qY ?_ | refine qZ ?_) | (with_reducible first | refine qI ?_ | refine qIx ?_ | fail) | ((with_reducible refine yS ?_ ?_) <;> (intro h; try simp only [NM] at h)))
  refine AWP.loop (ι := {k : Nat // k ≤ l.length ∧ idx (fun d => sEq d.table n) (l.drop k) k = idx (fun d => sEq d.table n) l 0}) (fun k => ⟨19, [(0, .v (.one (.sl 1 (l.map eNm)))), (1, .v (oS n)), (6, .v (.one (.sl 1 (l.map eNm)))), (7, .v (oI l.length)), (8, .v (oI k.1))], [], []⟩) (fun k => l.length - k.1) ⟨0, Nat.zero_le _, rfl⟩ ?_ fun ⟨k, hkl, hi⟩ => ?_
  · refine St.le_mk ?_ ?_ ?_ <;> simp only [LE, EN, Nat.reduceEqDiff, reduceIte, Nat.reduceSub]
  repeat' (first | ((first | with_reducible refine qV tyOk fun K hK => ?_ | (with_reducible first | refine qG ?_ | refine qH ?_ | refine qP ?_ | refine qGx ?_ | refine qHx ?_ | refine qPx ?_) | ((with_reducible first | refine qS ?_ ?_ | refine qT ?_ ?_ | refine qU ?_ ?_) <;> (intro h; try simp only [NM] at h)) | with_reducible refine yD tyOk mixed 6 (by kernel_rfl) fun K hK => ?_) <;> simp -dsimp (disch := (first | omega | (simp only [LN]; omega))) only [go_sem, ↓reduceIte, seval, eNm]) | ((with_reducible refine hK _ ?_); clear hK K) | (with_reducible first | refine qA ?_ | refine qB ?_ | refine qC ?_ | refine qD ?_ | refine qE ?_ | refine qF ?_ | refine qL ?_ | refine qM ?_ | refine qN ?_ | refine qO ?_ | refine qQ ?_) | refine qR rfl ?_ | (with_reducible refine AI ?_) | ((with_reducible refine qW (T := TT) (b := ?_) ?_ ?_); rotate_left; exact rfl) | (with_reducible first | refine qX ?_ | refine qY ?_ | refine qZ ?_) | (with_reducible first | refine qI ?_ | refine qIx ?_ | fail) | ((with_reducible refine yS ?_ ?_) <;> (intro h; try simp only [NM] at h)))
  all_goals first
    | (have hk : ¬ k < l.length := by omega
       simp -dsimp (disch := (first | omega | (simp only [LN]; omega))) only [retQ, Tryz.results32, resVals, cellRV, resOf, St.rest, St.freeze, RT, go_sem, ↓reduceIte, seval]
       rw [← hi, idx_end hk]
       done)
    | (have hk : k < l.length := by omega
       have he : sEq l[k].table n = true := by simp_all [sEq]
       simp -dsimp (disch := (first | omega | (simp only [LN]; omega))) only [retQ, Tryz.results32, resVals, cellRV, resOf, St.rest, St.freeze, RT, go_sem, ↓reduceIte, seval]
       rw [← hi, idx_hit hk he]
       done)
    | (have hk : k < l.length := by omega
       have he : sEq l[k].table n = false := by
         rw [Bool.eq_false_iff]
         intro q
         simp_all [sEq]
       refine ⟨⟨k + 1, by omega, by rw [idx_step hk he, hi]⟩, by simp only; omega, ?_⟩
       refine St.le_mk ?_ ?_ ?_ <;> simp only [LE, EN, Nat.reduceEqDiff, reduceIte, Nat.reduceSub]
       )
theorem containsNm_sat (l : List Chg) (n : ByteArray) (hlen : l.length ≤ 140737488355328) :
    Sat Tryz.prog 11 [.one (.sl 1 (l.map eNm)), oS n] (.v (oB (hasName l n))) := by
  unfold hasName
  rw [← idx_any (fun d => sEq d.table n) l 0]
  refine sat_of_body tyOk Tryz.func11 rfl (by kernel_rfl) ⟨Nat.le_of_ble_eq_true rfl, Nat.le_of_ble_eq_true rfl⟩ fun w0 m0 F0 => ?_
  simp only [Tryz.ntmps11, envOf, Nat.reduceAdd]
  repeat' (first | ((first | with_reducible refine qV tyOk fun K hK => ?_ | (with_reducible first | refine qG ?_ | refine qH ?_ | refine qP ?_ | refine qGx ?_ | refine qHx ?_ | refine qPx ?_) | ((with_reducible first | refine qS ?_ ?_ | refine qT ?_ ?_ | refine qU ?_ ?_) <;> (intro h; try simp only [NM] at h)) | with_reducible refine yD tyOk mixed 6 (by kernel_rfl) fun K hK => ?_ | ((with_reducible refine CallJ.is ?_); (first | refine CallJ.pure (indexNm_sat l n hlen) ?_ | ((apply CallJ.lentI); (focus (simp -dsimp (disch := (first | omega | (simp only [LN]; omega))) only [go_sem, ↓reduceIte, seval]; rfl)); (focus (first | exact (indexNm_sat l n hlen)))))) | ((with_reducible refine CallH.is ?_); (first | refine CallH.intro (indexNm_sat l n hlen) ?_))) <;> simp -dsimp (disch := (first | omega | (simp only [LN]; omega))) only [go_sem, ↓reduceIte, seval]) | ((with_reducible refine hK _ ?_); clear hK K) | (with_reducible first | refine qA ?_ | refine qB ?_ | refine qC ?_ | refine qD ?_ | refine qE ?_ | refine qF ?_ | refine qL ?_ | refine qM ?_ | refine qN ?_ | refine qO ?_ | refine qQ ?_) | refine qR rfl ?_ | (with_reducible refine AI ?_) | ((with_reducible refine qW (T := TT) (b := ?_) ?_ ?_); rotate_left; exact rfl) | (with_reducible first | refine qX ?_ | refine qY ?_ | refine qZ ?_) | (with_reducible first | refine qI ?_ | refine qIx ?_ | fail) | ((with_reducible refine yS ?_ ?_) <;> (intro h; try simp only [NM] at h)))
  simp -dsimp (disch := (first | omega | (simp only [LN]; omega))) only [retQ, Tryz.results11, resVals, cellRV, resOf, St.rest, St.freeze, RT, go_sem, ↓reduceIte, seval]

theorem find_bad {s : Sch} : ∀ {cs : List Chg} {k : Nat} (hk : k < cs.length), (∀ c ∈ cs.take k, chgE s c = 0) → chgE s cs[k] ≠ 0 → cs.find? (fun c => !(chgE s c == 0)) = some cs[k]
  | [], _, hk, _, _ => by simp at hk
  | c :: cs, 0, _, _, h => by simp at h; simp [h]
  | c :: cs, k + 1, hk, h1, h2 => by
    have h3 : chgE s c = 0 := h1 c (by simp)
    rw [List.find?_cons, h3]
    simp only [beq_self_eq_true, Bool.not_true]
    exact find_bad (by simpa using hk) (fun d hd => h1 d (by simp [hd])) (by simpa using h2)
theorem take_next' {α : Type} {p : α → Prop} {l : List α} {k : Nat} (hk : k < l.length) (h : ∀ x ∈ l.take k, p x) (hx : p l[k]) : ∀ x ∈ l.take (k + 1), p x := by
  rw [take_snoc l k hk]
  intro x h'
  rcases List.mem_append.1 h' with q | q
  · exact h x q
  · rw [List.mem_singleton.1 q]; exact hx
set_option maxHeartbeats 16000000 in
theorem tables_sat (s : Sch) (cs : List Chg) (hf : s.Fits) (hcs : ChgsFit cs) :
    Sat Tryz.prog 7 [.agg (eSch s), .one (eChgs cs)] (.tup [.one (.sl 1 ((namesE s cs).2.map eNm)), oI (namesE s cs).1]) := by
  by_cases h0 : schE s = 0
  case neg =>
    have spec : namesE s cs = (schE s, []) := by simp [namesE, h0]
    rw [spec]
    refine sat_of_body tyOk Tryz.func7 rfl (by kernel_rfl) ⟨Nat.le_of_ble_eq_true rfl, Nat.le_of_ble_eq_true rfl⟩ fun w0 m0 F0 => ?_
    simp only [Tryz.ntmps7, envOf, Nat.reduceAdd]
    repeat' (first | ((first | with_reducible refine qV tyOk fun K hK => ?_ | (with_reducible first | refine qG ?_ | refine qH ?_ | refine qP ?_ | refine qGx ?_ | refine qHx ?_ | refine qPx ?_) | ((with_reducible first | refine qS ?_ ?_ | refine qT ?_ ?_ | refine qU ?_ ?_) <;> (intro h; try simp only [NM] at h)) | with_reducible refine yD tyOk mixed 6 (by kernel_rfl) fun K hK => ?_ | ((with_reducible refine CallJ.is ?_); (first | refine CallJ.pure (schValidate_sat s hf) ?_ | ((apply CallJ.lentI); (focus (simp -dsimp (disch := (first | omega | (simp only [LN]; omega))) only [go_sem, ↓reduceIte, seval, h0]; rfl)); (focus (first | exact (schValidate_sat s hf)))))) | ((with_reducible refine CallH.is ?_); (first | refine CallH.intro (schValidate_sat s hf) ?_))) <;> simp -dsimp (disch := (first | omega | (simp only [LN]; omega))) only [go_sem, ↓reduceIte, seval, h0]) | ((with_reducible refine hK _ ?_); clear hK K) | (with_reducible first | refine qA ?_ | refine qB ?_ | refine qC ?_ | refine qD ?_ | refine qE ?_ | refine qF ?_ | refine qL ?_ | refine qM ?_ | refine qN ?_ | refine qO ?_ | refine qQ ?_) | refine qR rfl ?_ | (with_reducible refine AI ?_) | ((with_reducible refine qW (T := TT) (b := ?_) ?_ ?_); rotate_left; exact rfl) | (with_reducible first | refine qX ?_ | refine qY ?_ | refine qZ ?_) | (with_reducible first | refine qI ?_ | refine qIx ?_ | fail) | ((with_reducible refine yS ?_ ?_) <;> (intro h; try simp only [NM] at h)))
    all_goals simp -dsimp (disch := (first | omega | (simp only [LN]; omega))) only [retQ, Tryz.results7, resVals, cellRV, resOf, St.rest, St.freeze, RT, go_sem, ↓reduceIte, seval]
  have sm := small_of h0
  have m1 := sm.tables
  have c1 := hcs.1
  refine sat_of_body tyOk Tryz.func7 rfl (by kernel_rfl) ⟨Nat.le_of_ble_eq_true rfl, Nat.le_of_ble_eq_true rfl⟩ fun w0 m0 F0 => ?_
  simp only [Tryz.ntmps7, envOf, Nat.reduceAdd]
  repeat' (first | ((first | with_reducible refine qV tyOk fun K hK => ?_ | (with_reducible first | refine qG ?_ | refine qH ?_ | refine qP ?_ | refine qGx ?_ | refine qHx ?_ | refine qPx ?_) | ((with_reducible first | refine qS ?_ ?_ | refine qT ?_ ?_ | refine qU ?_ ?_) <;> (intro h; try simp only [NM] at h)) | ((with_reducible refine CallJ.is ?_); (first | refine CallJ.pure (schValidate_sat s hf) ?_ | ((apply CallJ.lentI); (focus (simp -dsimp (disch := (first | omega | (simp only [LN]; omega))) only [go_sem, ↓reduceIte, seval, h0]; rfl)); (focus (first | exact (schValidate_sat s hf)))))) | ((with_reducible refine CallH.is ?_); (first | refine CallH.intro (schValidate_sat s hf) ?_))) <;> simp -dsimp (disch := (first | omega | (simp only [LN]; omega))) only [go_sem, ↓reduceIte, seval, h0]) | ((with_reducible refine hK _ ?_); clear hK K) | (with_reducible first | refine qA ?_ | refine qB ?_ | refine qC ?_ | refine qD ?_ | refine qE ?_ | refine qF ?_ | refine qL ?_ | refine qM ?_ | refine qN ?_ | refine qO ?_ | refine qQ ?_) | refine qR rfl ?_ | (with_reducible refine AI ?_) | ((with_reducible refine qW (T := TT) (b := ?_) ?_ ?_); rotate_left; exact rfl) | (with_reducible first | refine qX ?_ | refine qY ?_ | refine qZ ?_) | (with_reducible first | refine qI ?_ | refine qIx ?_ | fail) | ((with_reducible refine yS ?_ ?_) <;> (intro h; try simp only [NM] at h)))
  refine AWP.loop (ι := {k : Nat // k ≤ cs.length ∧ ∀ c ∈ cs.take k, chgE s c = 0}) (fun k => ⟨42, [(2, .v (.one (.ptr 2 0))), (7, .v (.one (.ref 7 0 (nubC [] (cs.take k.1)).length))), (16, .v (.one (eChgs cs))), (17, .v (oI cs.length)), (18, .v (oI k.1))], [(2, eSch s)], [(7, ⟨1, (nubC [] (cs.take k.1)).map eNm, []⟩)]⟩) (fun k => cs.length - k.1) ⟨0, Nat.zero_le _, by simp⟩ ?_ fun ⟨k, hkl, hi⟩ => ?_
  · refine St.le_mk ?_ ?_ ?_ <;> simp only [LE, EN, Nat.reduceEqDiff, reduceIte, Nat.reduceSub, eSch, nubC, List.take_zero, List.length_nil, List.map_nil]
  simp only at hkl hi ⊢
  have hnl := nubC_len hi
  rcases Nat.lt_or_ge k cs.length with hc | hc
  · obtain ⟨f1, f2⟩ := hcs.2 cs[k] (List.getElem_mem hc)
    have cv := chgValidate_sat s cs[k] h0 f1 f2
    by_cases hE : chgE s cs[k] = 0
    case neg =>
      have spec : namesE s cs = (chgE s cs[k], []) := by
        unfold namesE
        rw [if_neg (by simpa using h0), find_bad hc hi hE]
      rw [spec]
      repeat' (first | ((first | with_reducible refine qV tyOk fun K hK => ?_ | (with_reducible first | refine qG ?_ | refine qH ?_ | refine qP ?_ | refine qGx ?_ | refine qHx ?_ | refine qPx ?_) | ((with_reducible first | refine qS ?_ ?_ | refine qT ?_ ?_ | refine qU ?_ ?_) <;> (intro h; try simp only [NM] at h)) | ((with_reducible refine CallJ.is ?_); (first | refine CallJ.pure (cv) ?_ | ((apply CallJ.lentI); (focus (simp -dsimp (disch := (first | omega | (simp only [LN]; omega))) only [go_sem, ↓reduceIte, seval, hE]; rfl)); (focus (first | exact (cv)))))) | ((with_reducible refine CallH.is ?_); (first | refine CallH.intro (cv) ?_))) <;> simp -dsimp (disch := (first | omega | (simp only [LN]; omega))) only [go_sem, ↓reduceIte, seval, hE]) | ((with_reducible refine hK _ ?_); clear hK K) | (with_reducible first | refine qA ?_ | refine qB ?_ | refine qC ?_ | refine qD ?_ | refine qE ?_ | refine qF ?_ | refine qL ?_ | refine qM ?_ | refine qN ?_ | refine qO ?_ | refine qQ ?_) | refine qR rfl ?_ | (with_reducible refine AI ?_) | ((with_reducible refine qW (T := TT) (b := ?_) ?_ ?_); rotate_left; exact rfl) | (with_reducible first | refine qX ?_ | refine qY ?_ | refine qZ ?_) | (with_reducible first | refine qI ?_ | refine qIx ?_ | fail) | ((with_reducible refine yS ?_ ?_) <;> (intro h; try simp only [NM] at h)))
      all_goals simp -dsimp (disch := (first | omega | (simp only [LN]; omega))) only [retQ, Tryz.results7, resVals, cellRV, resOf, St.rest, St.freeze, RT, go_sem, ↓reduceIte, seval]
    have es := take_snoc cs k hc
    have en := nubC_snoc [] (cs.take k) cs[k]
    rw [← es] at en
    have cn := containsNm_sat (nubC [] (cs.take k)) cs[k].table (by omega)
    cases hA : hasName (nubC [] (cs.take k)) cs[k].table with
    | true =>
      rw [hA] at en cn
      simp only [if_true] at en
      repeat' (first | ((first | with_reducible refine qV tyOk fun K hK => ?_ | (with_reducible first | refine qG ?_ | refine qH ?_ | refine qP ?_ | refine qGx ?_ | refine qHx ?_ | refine qPx ?_) | ((with_reducible first | refine qS ?_ ?_ | refine qT ?_ ?_ | refine qU ?_ ?_) <;> (intro h; try simp only [NM] at h)) | ((with_reducible refine CallJ.is ?_); (first | refine CallJ.pure (cv) ?_ | refine CallJ.pure (cn) ?_ | ((apply CallJ.lentI); (focus (simp -dsimp (disch := (first | omega | (simp only [LN]; omega))) only [go_sem, ↓reduceIte, seval, hE, frz_eNm]; rfl)); (focus (first | exact (cv) | exact (cn)))))) | ((with_reducible refine CallH.is ?_); (first | refine CallH.intro (cv) ?_ | refine CallH.intro (cn) ?_))) <;> simp -dsimp (disch := (first | omega | (simp only [LN]; omega))) only [go_sem, ↓reduceIte, seval, hE, frz_eNm]) | ((with_reducible refine hK _ ?_); clear hK K) | (with_reducible first | refine qA ?_ | refine qB ?_ | refine qC ?_ | refine qD ?_ | refine qE ?_ | refine qF ?_ | refine qL ?_ | refine qM ?_ | refine qN ?_ | refine qO ?_ | refine qQ ?_) | refine qR rfl ?_ | (with_reducible refine AI ?_) | ((with_reducible refine qW (T := TT) (b := ?_) ?_ ?_); rotate_left; exact rfl) | (with_reducible first | refine qX ?_ | refine qY ?_ | refine qZ ?_) | (with_reducible first | refine qI ?_ | refine qIx ?_ | fail) | ((with_reducible refine yS ?_ ?_) <;> (intro h; try simp only [NM] at h)))
      refine ⟨⟨k + 1, by omega, take_next' hc hi hE⟩, by simp only; omega, ?_⟩
      refine St.le_mk ?_ ?_ ?_ <;> simp only [LE, EN, Nat.reduceEqDiff, reduceIte, Nat.reduceSub, eSch, en]
    | false =>
      rw [hA] at en cn
      simp only [Bool.false_eq_true, if_false] at en
      repeat' (first | ((first | with_reducible refine qV tyOk fun K hK => ?_ | (with_reducible first | refine qG ?_ | refine qH ?_ | refine qP ?_ | refine qGx ?_ | refine qHx ?_ | refine qPx ?_) | ((with_reducible first | refine qS ?_ ?_ | refine qT ?_ ?_ | refine qU ?_ ?_) <;> (intro h; try simp only [NM] at h)) | ((with_reducible refine CallJ.is ?_); (first | refine CallJ.pure (cv) ?_ | refine CallJ.pure (cn) ?_ | ((apply CallJ.lentI); (focus (simp -dsimp (disch := (first | omega | (simp only [LN]; omega))) only [go_sem, ↓reduceIte, seval, hE, frz_eNm]; rfl)); (focus (first | exact (cv) | exact (cn)))))) | ((with_reducible refine CallH.is ?_); (first | refine CallH.intro (cv) ?_ | refine CallH.intro (cn) ?_))) <;> simp -dsimp (disch := (first | omega | (simp only [LN]; omega))) only [go_sem, ↓reduceIte, seval, hE, frz_eNm]) | ((with_reducible refine hK _ ?_); clear hK K) | (with_reducible first | refine qA ?_ | refine qB ?_ | refine qC ?_ | refine qD ?_ | refine qE ?_ | refine qF ?_ | refine qL ?_ | refine qM ?_ | refine qN ?_ | refine qO ?_ | refine qQ ?_) | refine qR rfl ?_ | (with_reducible refine AI ?_) | ((with_reducible refine qW (T := TT) (b := ?_) ?_ ?_); rotate_left; exact rfl) | (with_reducible first | refine qX ?_ | refine qY ?_ | refine qZ ?_) | (with_reducible first | refine qI ?_ | refine qIx ?_ | fail) | ((with_reducible refine yS ?_ ?_) <;> (intro h; try simp only [NM] at h)))
      refine ⟨⟨k + 1, by omega, take_next' hc hi hE⟩, by simp only; omega, ?_⟩
      refine St.le_mk ?_ ?_ ?_ <;> simp only [LE, EN, Nat.reduceEqDiff, reduceIte, Nat.reduceSub, eSch, en, eNm, List.map_append, List.map_cons, List.map_nil, List.length_append, List.length_cons, List.length_nil]
  · rw [List.take_of_length_le hc] at hi hnl ⊢
    have h3 : cs.find? (fun c => !(chgE s c == 0)) = none := List.find?_eq_none.2 fun c hc => by simp [hi c hc]
    have spec : namesE s cs = (0, insS cmpName 0 (nubC [] cs).length (nubC [] cs)) := by
      unfold namesE
      rw [if_neg (by simpa using h0), h3]
    rw [spec]
    have st := sortN_satM (nubC [] cs) (by omega)
    unfold rowN at st
    have hle := (insS_perm cmpName 0 (nubC [] cs).length (nubC [] cs)).length_eq
    repeat' (first | ((first | with_reducible refine qV tyOk fun K hK => ?_ | (with_reducible first | refine qG ?_ | refine qH ?_ | refine qP ?_ | refine qGx ?_ | refine qHx ?_ | refine qPx ?_) | ((with_reducible first | refine qS ?_ ?_ | refine qT ?_ ?_ | refine qU ?_ ?_) <;> (intro h; try simp only [NM] at h)) | ((with_reducible refine CallJ.is ?_); refine CallJ.io [] [(1000, 7)] [] [(1000, 7)] [] [] [] [7, 7] (st) rfl ⟨rfl, rfl, rfl, rfl⟩ ?_ ?_ ?_; (focus (simp -dsimp (disch := (first | omega | (simp only [LN]; omega))) only [go_sem, ↓reduceIte, seval, dropL_nil, dropL_nil', dropL_cons]; done)); (focus (simp -dsimp (disch := (first | omega | (simp only [LN]; omega))) only [go_sem, ↓reduceIte, seval, dropL_nil, dropL_nil', dropL_cons]; done)))) <;> simp -dsimp (disch := (first | omega | (simp only [LN]; omega))) only [go_sem, ↓reduceIte, seval, dropL_nil, dropL_nil', dropL_cons]) | ((with_reducible refine hK _ ?_); clear hK K) | (with_reducible first | refine qA ?_ | refine qB ?_ | refine qC ?_ | refine qD ?_ | refine qE ?_ | refine qF ?_ | refine qL ?_ | refine qM ?_ | refine qN ?_ | refine qO ?_ | refine qQ ?_) | refine qR rfl ?_ | (with_reducible refine AI ?_) | ((with_reducible refine qW (T := TT) (b := ?_) ?_ ?_); rotate_left; exact rfl) | (with_reducible first | refine qX ?_ | refine qY ?_ | refine qZ ?_) | (with_reducible first | refine qI ?_ | refine qIx ?_ | fail) | ((with_reducible refine yS ?_ ?_) <;> (intro h; try simp only [NM] at h)))
    simp -dsimp (disch := (first | omega | (simp only [LN]; omega))) only [retQ, Tryz.results7, resVals, cellRV, resOf, St.rest, St.freeze, RT, go_sem, ↓reduceIte, seval]
    rw [if_pos (by omega), frz_eNm]
set_option maxHeartbeats 16000000 in
theorem keys_sat (s : Sch) (cs : List Chg) (table : ByteArray) (hf : s.Fits) (hcs : ChgsFit cs) (h72 : cs.length * 72 ≤ 140737488355328) :
    Sat Tryz.prog 8 [.agg (eSch s), .one (eChgs cs), oS table] (.tup [.one (eRows (keysE s cs table).2), oI (keysE s cs table).1]) := by
  have cc := compact_sat s cs hf hcs h72
  have lc := compactE_length s cs
  have mC : ∀ c ∈ (compactE s cs).2, schE s = 0 ∧ chgE s c = 0 := fun c hc => ⟨(compactE_mem hc).1, (compactE_mem hc).2.2⟩
  have fs := findTable_sat s table hf.tables
  unfold keysE
  by_cases h1 : (compactE s cs).1 = 0
  case neg =>
    rw [if_pos h1]
    refine sat_of_body tyOk Tryz.func8 rfl (by kernel_rfl) ⟨Nat.le_of_ble_eq_true rfl, Nat.le_of_ble_eq_true rfl⟩ fun w0 m0 F0 => ?_
    simp only [Tryz.ntmps8, envOf, Nat.reduceAdd]
    repeat' (first | ((first | with_reducible refine qV tyOk fun K hK => ?_ | (with_reducible first | refine qG ?_ | refine qH ?_ | refine qP ?_ | refine qGx ?_ | refine qHx ?_ | refine qPx ?_) | ((with_reducible first | refine qS ?_ ?_ | refine qT ?_ ?_ | refine qU ?_ ?_) <;> (intro h; try simp only [NM] at h)) | ((with_reducible refine CallJ.is ?_); (first | refine CallJ.pure (cc) ?_ | ((apply CallJ.lentI); (focus (simp -dsimp (disch := (first | omega | (simp only [LN]; omega))) only [go_sem, ↓reduceIte, seval, h1]; rfl)); (focus (first | exact (cc)))))) | ((with_reducible refine CallH.is ?_); (first | refine CallH.intro (cc) ?_))) <;> simp -dsimp (disch := (first | omega | (simp only [LN]; omega))) only [go_sem, ↓reduceIte, seval, h1]) | ((with_reducible refine hK _ ?_); clear hK K) | (with_reducible first | refine qA ?_ | refine qB ?_ | refine qC ?_ | refine qD ?_ | refine qE ?_ | refine qF ?_ | refine qL ?_ | refine qM ?_ | refine qN ?_ | refine qO ?_ | refine qQ ?_) | refine qR rfl ?_ | (with_reducible refine AI ?_) | ((with_reducible refine qW (T := TT) (b := ?_) ?_ ?_); rotate_left; exact rfl) | (with_reducible first | refine qX ?_ | refine qY ?_ | refine qZ ?_) | (with_reducible first | refine qI ?_ | refine qIx ?_ | fail) | ((with_reducible refine yS ?_ ?_) <;> (intro h; try simp only [NM] at h)))
    all_goals simp -dsimp (disch := (first | omega | (simp only [LN]; omega))) only [retQ, Tryz.results8, resVals, cellRV, resOf, St.rest, St.freeze, RT, go_sem, ↓reduceIte, seval]
  have h0 : schE s = 0 := (compactE_ok h1).1
  rw [if_neg (by simpa using h1)]
  obtain ⟨A, hA⟩ : ∃ A, (compactE s cs).2 = A := ⟨_, rfl⟩
  rw [h1, hA] at cc
  rw [hA] at lc mC ⊢
  have sm := small_of h0
  have m1 := sm.tables
  rcases idx_cases (fun t => sEq t.name table) s.tables 0 with ⟨e1, _⟩ | ⟨j, hj, e1, _, _⟩
  · have e1 : tblAt s.tables table = -1 := e1
    rw [e1, mx0_neg] at fs
    rw [if_pos (by omega)]
    refine sat_of_body tyOk Tryz.func8 rfl (by kernel_rfl) ⟨Nat.le_of_ble_eq_true rfl, Nat.le_of_ble_eq_true rfl⟩ fun w0 m0 F0 => ?_
    simp only [Tryz.ntmps8, envOf, Nat.reduceAdd]
    repeat' (first | ((first | with_reducible refine qV tyOk fun K hK => ?_ | (with_reducible first | refine qG ?_ | refine qH ?_ | refine qP ?_ | refine qGx ?_ | refine qHx ?_ | refine qPx ?_) | ((with_reducible first | refine qS ?_ ?_ | refine qT ?_ ?_ | refine qU ?_ ?_) <;> (intro h; try simp only [NM] at h)) | ((with_reducible refine CallJ.is ?_); (first | refine CallJ.pure (cc) ?_ | refine CallJ.pure (fs) ?_ | ((apply CallJ.lentI); (focus (simp -dsimp (disch := (first | omega | (simp only [LN]; omega))) only [go_sem, ↓reduceIte, seval]; rfl)); (focus (first | exact (cc) | exact (fs)))))) | ((with_reducible refine CallH.is ?_); (first | refine CallH.intro (cc) ?_ | refine CallH.intro (fs) ?_))) <;> simp -dsimp (disch := (first | omega | (simp only [LN]; omega))) only [go_sem, ↓reduceIte, seval]) | ((with_reducible refine hK _ ?_); clear hK K) | (with_reducible first | refine qA ?_ | refine qB ?_ | refine qC ?_ | refine qD ?_ | refine qE ?_ | refine qF ?_ | refine qL ?_ | refine qM ?_ | refine qN ?_ | refine qO ?_ | refine qQ ?_) | refine qR rfl ?_ | (with_reducible refine AI ?_) | ((with_reducible refine qW (T := TT) (b := ?_) ?_ ?_); rotate_left; exact rfl) | (with_reducible first | refine qX ?_ | refine qY ?_ | refine qZ ?_) | (with_reducible first | refine qI ?_ | refine qIx ?_ | fail) | ((with_reducible refine yS ?_ ?_) <;> (intro h; try simp only [NM] at h)))
    all_goals simp -dsimp (disch := (first | omega | (simp only [LN]; omega))) only [retQ, Tryz.results8, resVals, cellRV, resOf, St.rest, St.freeze, RT, go_sem, ↓reduceIte, seval]
  have e1 : tblAt s.tables table = (j : Int) := by unfold tblAt; simpa using e1
  rw [e1, mx0_nat] at fs
  rw [if_neg (by omega)]
  have et : tblOf s table = s.tables[j] := by simp only [tblOf, e1, Int.toNat_natCast]; exact getD_lt _ hj
  rw [et]
  have hpk := (sm.table _ (List.getElem_mem hj)).2
  refine sat_of_body tyOk Tryz.func8 rfl (by kernel_rfl) ⟨Nat.le_of_ble_eq_true rfl, Nat.le_of_ble_eq_true rfl⟩ fun w0 m0 F0 => ?_
  simp only [Tryz.ntmps8, envOf, Nat.reduceAdd]
  repeat' (first | ((first | with_reducible refine qV tyOk fun K hK => ?_ | (with_reducible first | refine qG ?_ | refine qH ?_ | refine qP ?_ | refine qGx ?_ | refine qHx ?_ | refine qPx ?_) | ((with_reducible first | refine qS ?_ ?_ | refine qT ?_ ?_ | refine qU ?_ ?_) <;> (intro h; try simp only [NM] at h)) | ((with_reducible refine CallJ.is ?_); (first | refine CallJ.pure (cc) ?_ | refine CallJ.pure (fs) ?_ | ((apply CallJ.lentI); (focus (simp -dsimp (disch := (first | omega | (simp only [LN]; omega))) only [go_sem, ↓reduceIte, seval]; rfl)); (focus (first | exact (cc) | exact (fs)))))) | ((with_reducible refine CallH.is ?_); (first | refine CallH.intro (cc) ?_ | refine CallH.intro (fs) ?_))) <;> simp -dsimp (disch := (first | omega | (simp only [LN]; omega))) only [go_sem, ↓reduceIte, seval]) | ((with_reducible refine hK _ ?_); clear hK K) | (with_reducible first | refine qA ?_ | refine qB ?_ | refine qC ?_ | refine qD ?_ | refine qE ?_ | refine qF ?_ | refine qL ?_ | refine qM ?_ | refine qN ?_ | refine qO ?_ | refine qQ ?_) | refine qR rfl ?_ | (with_reducible refine AI ?_) | ((with_reducible refine qW (T := TT) (b := ?_) ?_ ?_); rotate_left; exact rfl) | (with_reducible first | refine qX ?_ | refine qY ?_ | refine qZ ?_) | (with_reducible first | refine qI ?_ | refine qIx ?_ | fail) | ((with_reducible refine yS ?_ ?_) <;> (intro h; try simp only [NM] at h)))
  refine AWP.loop (ι := {p : Nat × List Row // p.1 ≤ A.length ∧ p.2.length ≤ p.1 ∧ p.2 = ((A.take p.1).filter fun c => sEq c.table table).map fun c => tgt s.tables[j] c}) (fun p => ⟨63, [(2, .v (oS table)), (3, .v (.one (.ptr 3 0))), (10, .v (oI j)), (12, .v (.one (.ref 12 0 p.1.2.length))), (32, .v (.one (eChgs A))), (33, .v (oI A.length)), (34, .v (oI p.1.1))], [(3, eSch s)], [(12, ⟨1, p.1.2.map eRow1, []⟩)]⟩) (fun p => A.length - p.1.1) ⟨(0, []), Nat.zero_le _, Nat.le_refl _, by simp⟩ ?_ fun ⟨(k, out), hkl, hol, hi⟩ => ?_
  · refine St.le_mk ?_ ?_ ?_ <;> simp only [LE, EN, Nat.reduceEqDiff, reduceIte, Nat.reduceSub, eSch, List.length_nil, List.map_nil]
  simp only at hkl hol hi ⊢
  rcases Nat.lt_or_ge k A.length with hc | hc
  · have es := take_snoc A k hc
    have ek := (mC _ (List.getElem_mem hc)).2
    have o := okChg_of ek
    obtain ⟨s1, s2⟩ := chg_small sm ek
    cases hT : sEq A[k].table table with
    | false =>
      have hT' : ¬ A[k].table.toList = table.toList := by simpa [sEq] using hT
      have hn : ((A.take (k + 1)).filter fun c => sEq c.table table).map (fun c => tgt s.tables[j] c) = out := by
        rw [es, List.filter_append, List.filter_cons, hT, hi]
        simp
      repeat' (first | ((first | with_reducible refine qV tyOk fun K hK => ?_ | (with_reducible first | refine qG ?_ | refine qH ?_ | refine qP ?_ | refine qGx ?_ | refine qHx ?_ | refine qPx ?_) | ((with_reducible first | refine qS ?_ ?_ | refine qT ?_ ?_ | refine qU ?_ ?_) <;> (intro h; try simp only [NM] at h))) <;> simp -dsimp (disch := (first | omega | (simp only [LN]; omega))) only [go_sem, ↓reduceIte, seval, hT']) | ((with_reducible refine hK _ ?_); clear hK K) | (with_reducible first | refine qA ?_ | refine qB ?_ | refine qC ?_ | refine qD ?_ | refine qE ?_ | refine qF ?_ | refine qL ?_ | refine qM ?_ | refine qN ?_ | refine qO ?_ | refine qQ ?_) | refine qR rfl ?_ | (with_reducible refine AI ?_) | ((with_reducible refine qW (T := TT) (b := ?_) ?_ ?_); rotate_left; exact rfl) | (with_reducible first | refine qX ?_ | refine qY ?_ | refine qZ ?_) | (with_reducible first | refine qI ?_ | refine qIx ?_ | fail) | ((with_reducible refine yS ?_ ?_) <;> (intro h; try simp only [NM] at h)))
      refine ⟨⟨(k + 1, out), by simp only; omega, by simp only; omega, hn.symm⟩, by simp only; omega, ?_⟩
      refine St.le_mk ?_ ?_ ?_ <;> simp only [LE, EN, Nat.reduceEqDiff, reduceIte, Nat.reduceSub, eSch]
    | true =>
      have hT' : A[k].table.toList = table.toList := by simpa [sEq] using hT
      have hn : ((A.take (k + 1)).filter fun c => sEq c.table table).map (fun c => tgt s.tables[j] c) = out ++ [tgt s.tables[j] A[k]] := by
        rw [es, List.filter_append, List.filter_cons, hT, hi]
        simp
      rcases o.kind with hk1 | hk1
      · have hg : tgt s.tables[j] A[k] = keyOf s.tables[j].pk A[k].row := by unfold tgt; rw [if_pos hk1]
        have kk := key_sat s.tables[j] A[k].row (by omega)
        repeat' (first | ((first | with_reducible refine qV tyOk fun K hK => ?_ | (with_reducible first | refine qG ?_ | refine qH ?_ | refine qP ?_ | refine qGx ?_ | refine qHx ?_ | refine qPx ?_) | ((with_reducible first | refine qS ?_ ?_ | refine qT ?_ ?_ | refine qU ?_ ?_) <;> (intro h; try simp only [NM] at h))) <;> simp -dsimp (disch := (first | omega | (simp only [LN]; omega))) only [go_sem, ↓reduceIte, seval, hT', hk1]) | ((with_reducible refine hK _ ?_); clear hK K) | (with_reducible first | refine qA ?_ | refine qB ?_ | refine qC ?_ | refine qD ?_ | refine qE ?_ | refine qF ?_ | refine qL ?_ | refine qM ?_ | refine qN ?_ | refine qO ?_ | refine qQ ?_) | refine qR rfl ?_ | (with_reducible refine AI ?_) | ((with_reducible refine qW (T := TT) (b := ?_) ?_ ?_); rotate_left; exact rfl) | (with_reducible first | refine qX ?_ | refine qY ?_ | refine qZ ?_) | (with_reducible first | refine qI ?_ | refine qIx ?_ | fail) | ((with_reducible refine yS ?_ ?_) <;> (intro h; try simp only [NM] at h)))
        refine AWP.drawX tyOk mixed [(0, 8)] [(8, [], [(0, 1)]), (9, [], [(0, 1)]), (10, [], []), (11, [], [])] [8, 9, 10, 11] 8 (by decide) (by kernel_rfl) (by kernel_rfl) (by kernel_rfl) (by kernel_rfl) fun K hK => ?_
        simp only [segx_nil, segx_cons, segs, List.drop_succ_cons, List.drop_zero, List.take_succ_cons, List.take_zero, List.getElem?_cons_zero, List.getElem?_cons_succ, List.cons_append, List.nil_append, List.append_nil] at hK ⊢
        simp -dsimp (disch := (first | omega | (simp only [LN]; omega))) only [go_sem, ↓reduceIte, seval, Option.getD_none, List.getD_cons_zero]
        repeat' (first | ((first | with_reducible refine qV tyOk fun K hK => ?_ | (with_reducible first | refine qG ?_ | refine qH ?_ | refine qP ?_ | refine qGx ?_ | refine qHx ?_ | refine qPx ?_) | ((with_reducible first | refine qS ?_ ?_ | refine qT ?_ ?_ | refine qU ?_ ?_) <;> (intro h; try simp only [NM] at h)) | ((with_reducible refine CallJ.is ?_); (first | refine CallJ.pure (kk) ?_ | ((apply CallJ.lentI); (focus (simp -dsimp (disch := (first | omega | (simp only [LN]; omega))) only [go_sem, ↓reduceIte, seval, Option.getD_none, List.getD_cons_zero]; rfl)); (focus (first | exact (kk)))))) | ((with_reducible refine CallH.is ?_); (first | refine CallH.intro (kk) ?_))) <;> simp -dsimp (disch := (first | omega | (simp only [LN]; omega))) only [go_sem, ↓reduceIte, seval, Option.getD_none, List.getD_cons_zero]) | ((with_reducible refine hK _ ?_); clear hK K) | (with_reducible first | refine qA ?_ | refine qB ?_ | refine qC ?_ | refine qD ?_ | refine qE ?_ | refine qF ?_ | refine qL ?_ | refine qM ?_ | refine qN ?_ | refine qO ?_ | refine qQ ?_) | refine qR rfl ?_ | ((with_reducible refine VCy.intro fun K0 hK0 => ?_)) | ((with_reducible refine VCy.fin ?_); (refine hK0 _ ?_); clear hK0 K0) | (with_reducible first | refine VCy.quiet ?_ | refine VCy.none ?_) | ((with_reducible first | refine VCy.some fun K hK => ?_ | refine VCy.step fun K hK => ?_); simp -dsimp (disch := (first | omega | (simp only [LN]; omega))) only [go_sem, ↓reduceIte, seval, Option.getD_none, List.getD_cons_zero]) | ((with_reducible refine VCy.keep ?_ ?_); focus ((simp -dsimp (disch := (first | omega | (simp only [LN]; omega))) only [go_sem, ↓reduceIte, seval, Stable_cons, Stable_nil, sameA_some, sameA_none, Option.getD_none, List.getD_cons_zero]); first | done | with_reducible assumption | omega | (repeat' with_reducible refine And.intro ?_ ?_) <;> first | with_reducible rfl | with_reducible assumption | omega)) | (with_reducible refine AI ?_) | ((with_reducible refine qW (T := TT) (b := ?_) ?_ ?_); rotate_left; exact rfl) | (with_reducible first | refine qX ?_ | refine qY ?_ | refine qZ ?_) | (with_reducible first | refine qI ?_ | refine qIx ?_ | fail) | ((with_reducible refine yS ?_ ?_) <;> (intro h; try simp only [NM] at h)))
        refine ⟨⟨(k + 1, out ++ [tgt s.tables[j] A[k]]), by simp only; omega, by simp; omega, hn.symm⟩, by simp only; omega, ?_⟩
        refine St.le_mk ?_ ?_ ?_ <;> simp only [LE, EN, Nat.reduceEqDiff, reduceIte, Nat.reduceSub, eSch, hg, eRow1, List.map_append, List.map_cons, List.map_nil, List.length_append, List.length_cons, List.length_nil]
      · have hg : tgt s.tables[j] A[k] = A[k].key := by unfold tgt; rw [if_neg (by omega)]
        repeat' (first | ((first | with_reducible refine qV tyOk fun K hK => ?_ | (with_reducible first | refine qG ?_ | refine qH ?_ | refine qP ?_ | refine qGx ?_ | refine qHx ?_ | refine qPx ?_) | ((with_reducible first | refine qS ?_ ?_ | refine qT ?_ ?_ | refine qU ?_ ?_) <;> (intro h; try simp only [NM] at h))) <;> simp -dsimp (disch := (first | omega | (simp only [LN]; omega))) only [go_sem, ↓reduceIte, seval, hT', hk1]) | ((with_reducible refine hK _ ?_); clear hK K) | (with_reducible first | refine qA ?_ | refine qB ?_ | refine qC ?_ | refine qD ?_ | refine qE ?_ | refine qF ?_ | refine qL ?_ | refine qM ?_ | refine qN ?_ | refine qO ?_ | refine qQ ?_) | refine qR rfl ?_ | (with_reducible refine AI ?_) | ((with_reducible refine qW (T := TT) (b := ?_) ?_ ?_); rotate_left; exact rfl) | (with_reducible first | refine qX ?_ | refine qY ?_ | refine qZ ?_) | (with_reducible first | refine qI ?_ | refine qIx ?_ | fail) | ((with_reducible refine yS ?_ ?_) <;> (intro h; try simp only [NM] at h)))
        refine ⟨⟨(k + 1, out ++ [tgt s.tables[j] A[k]]), by simp only; omega, by simp; omega, hn.symm⟩, by simp only; omega, ?_⟩
        refine St.le_mk ?_ ?_ ?_ <;> simp only [LE, EN, Nat.reduceEqDiff, reduceIte, Nat.reduceSub, eSch, hg, eRow1, List.map_append, List.map_cons, List.map_nil, List.length_append, List.length_cons, List.length_nil]
  · rw [List.take_of_length_le hc] at hi
    subst hi
    repeat' (first | ((first | with_reducible refine qV tyOk fun K hK => ?_ | (with_reducible first | refine qG ?_ | refine qH ?_ | refine qP ?_ | refine qGx ?_ | refine qHx ?_ | refine qPx ?_) | ((with_reducible first | refine qS ?_ ?_ | refine qT ?_ ?_ | refine qU ?_ ?_) <;> (intro h; try simp only [NM] at h))) <;> simp -dsimp (disch := (first | omega | (simp only [LN]; omega))) only [go_sem, ↓reduceIte, seval]) | ((with_reducible refine hK _ ?_); clear hK K) | (with_reducible first | refine qA ?_ | refine qB ?_ | refine qC ?_ | refine qD ?_ | refine qE ?_ | refine qF ?_ | refine qL ?_ | refine qM ?_ | refine qN ?_ | refine qO ?_ | refine qQ ?_) | refine qR rfl ?_ | (with_reducible refine AI ?_) | ((with_reducible refine qW (T := TT) (b := ?_) ?_ ?_); rotate_left; exact rfl) | (with_reducible first | refine qX ?_ | refine qY ?_ | refine qZ ?_) | (with_reducible first | refine qI ?_ | refine qIx ?_ | fail) | ((with_reducible refine yS ?_ ?_) <;> (intro h; try simp only [NM] at h)))
    simp -dsimp (disch := (first | omega | (simp only [LN]; omega))) only [retQ, Tryz.results8, resVals, cellRV, resOf, St.rest, St.freeze, RT, go_sem, ↓reduceIte, seval]

theorem assignK_nilp {s : St} {n : Nat} {K : St → Prop} : assignK s (some n) K (some (.v (.one .nilp))) = (n < s.n ∧ K (s.put n (.v (.one .nilp)))) := rfl
attribute [local go_sem ↓] assignK_nilp
attribute [local go_sem] assignK_nilp

def refL : Option Tbl → L
  | some t => .fz (eTbl t)
  | none => .nilp
def refT (s : Sch) (name : ByteArray) : Option Tbl := s.tables.find? fun t => sEq t.name name
set_option maxHeartbeats 8000000 in
theorem rFindTable_sat (s : Sch) (name : ByteArray) (hlen : s.tables.length ≤ 140737488355328) : Sat Tryz.prog 30 [.agg (eSch s), oS name] (.v (.one (refL (refT s name)))) := by
  refine sat_of_body tyOk Tryz.func30 rfl (by kernel_rfl) ⟨Nat.le_of_ble_eq_true rfl, Nat.le_of_ble_eq_true rfl⟩ fun w0 m0 F0 => ?_
  simp only [Tryz.ntmps30, envOf, Nat.reduceAdd]
  repeat' (first | ((first | with_reducible refine qV tyOk fun K hK => ?_ | (with_reducible first | refine qG ?_ | refine qH ?_ | refine qP ?_ | refine qGx ?_ | refine qHx ?_ | refine qPx ?_) | ((with_reducible first | refine qS ?_ ?_ | refine qT ?_ ?_ | refine qU ?_ ?_) <;> (intro h; try simp only [NM] at h)) | with_reducible refine yD tyOk mixed 6 (by kernel_rfl) fun K hK => ?_) <;> simp -dsimp (disch := (first | omega | (simp only [LN]; omega))) only [go_sem, ↓reduceIte, seval]) | ((with_reducible refine hK _ ?_); clear hK K) | (with_reducible first | refine qA ?_ | refine qB ?_ | refine qC ?_ | refine qD ?_ | refine qE ?_ | refine qF ?_ | refine qL ?_ | refine qM ?_ | refine qN ?_ | refine qO ?_ | refine qQ ?_) | refine qR rfl ?_ | (with_reducible refine AI ?_) | ((with_reducible refine qW (T := TT) (b := ?_) ?_ ?_); rotate_left; exact rfl) | (with_reducible first | refine qX ?_ | refine qY ?_ | refine qZ ?_) | (with_reducible first | refine qI ?_ | refine qIx ?_ | fail) | ((with_reducible refine yS ?_ ?_) <;> (intro h; try simp only [NM] at h)))
  refine AWP.loop (ι := {k : Nat // k ≤ s.tables.length ∧ (s.tables.drop k).find? (fun t => sEq t.name name) = refT s name}) (fun k => ⟨25, [(1, .v (oS name)), (2, .v (.one (.ptr 2 0))), (8, .v (oI s.tables.length)), (9, .v (oI k.1))], [(2, eSch s)], []⟩) (fun k => s.tables.length - k.1) ⟨0, Nat.zero_le _, rfl⟩ ?_ fun ⟨k, hkl, hi⟩ => ?_
  · refine St.le_mk ?_ ?_ ?_ <;> simp only [LE, EN, Nat.reduceEqDiff, reduceIte, Nat.reduceSub, eSch]
  simp only at hkl ⊢
  rcases Nat.lt_or_ge k s.tables.length with hc | hc
  · have e : s.tables.drop k = s.tables[k] :: s.tables.drop (k + 1) := List.drop_eq_getElem_cons hc
    rw [e, List.find?_cons] at hi
    repeat' (first | ((first | with_reducible refine qV tyOk fun K hK => ?_ | (with_reducible first | refine qG ?_ | refine qH ?_ | refine qP ?_ | refine qGx ?_ | refine qHx ?_ | refine qPx ?_) | ((with_reducible first | refine qS ?_ ?_ | refine qT ?_ ?_ | refine qU ?_ ?_) <;> (intro h; try simp only [NM] at h)) | with_reducible refine yD tyOk mixed 6 (by kernel_rfl) fun K hK => ?_) <;> simp -dsimp (disch := (first | omega | (simp only [LN]; omega))) only [go_sem, ↓reduceIte, seval]) | ((with_reducible refine hK _ ?_); clear hK K) | (with_reducible first | refine qA ?_ | refine qB ?_ | refine qC ?_ | refine qD ?_ | refine qE ?_ | refine qF ?_ | refine qL ?_ | refine qM ?_ | refine qN ?_ | refine qO ?_ | refine qQ ?_) | refine qR rfl ?_ | (with_reducible refine AI ?_) | ((with_reducible refine qW (T := TT) (b := ?_) ?_ ?_); rotate_left; exact rfl) | (with_reducible first | refine qX ?_ | refine qY ?_ | refine qZ ?_) | (with_reducible first | refine qI ?_ | refine qIx ?_ | fail) | ((with_reducible refine yS ?_ ?_) <;> (intro h; try simp only [NM] at h)))
    · simp -dsimp (disch := (first | omega | (simp only [LN]; omega))) only [retQ, Tryz.results30, resVals, cellRV, resOf, St.rest, St.freeze, RT, go_sem, ↓reduceIte, seval]
      rename_i h
      have h : sEq s.tables[k].name name = true := by unfold sEq; rw [h]; exact beq_self_eq_true _
      rw [h] at hi
      rw [← hi]
      rfl
    · rename_i h
      have h : sEq s.tables[k].name name = false := by
        rw [Bool.eq_false_iff]
        exact fun q => h (by rw [sEq_iff.1 q])
      rw [h] at hi
      refine ⟨⟨k + 1, by omega, hi⟩, by simp only; omega, ?_⟩
      refine St.le_mk ?_ ?_ ?_ <;> simp only [LE, EN, Nat.reduceEqDiff, reduceIte, Nat.reduceSub, eSch]
  · rw [List.drop_of_length_le hc] at hi
    repeat' (first | ((first | with_reducible refine qV tyOk fun K hK => ?_ | (with_reducible first | refine qG ?_ | refine qH ?_ | refine qP ?_ | refine qGx ?_ | refine qHx ?_ | refine qPx ?_) | ((with_reducible first | refine qS ?_ ?_ | refine qT ?_ ?_ | refine qU ?_ ?_) <;> (intro h; try simp only [NM] at h)) | with_reducible refine yD tyOk mixed 6 (by kernel_rfl) fun K hK => ?_) <;> simp -dsimp (disch := (first | omega | (simp only [LN]; omega))) only [go_sem, ↓reduceIte, seval]) | ((with_reducible refine hK _ ?_); clear hK K) | (with_reducible first | refine qA ?_ | refine qB ?_ | refine qC ?_ | refine qD ?_ | refine qE ?_ | refine qF ?_ | refine qL ?_ | refine qM ?_ | refine qN ?_ | refine qO ?_ | refine qQ ?_) | refine qR rfl ?_ | (with_reducible refine AI ?_) | ((with_reducible refine qW (T := TT) (b := ?_) ?_ ?_); rotate_left; exact rfl) | (with_reducible first | refine qX ?_ | refine qY ?_ | refine qZ ?_) | (with_reducible first | refine qI ?_ | refine qIx ?_ | fail) | ((with_reducible refine yS ?_ ?_) <;> (intro h; try simp only [NM] at h)))
    simp -dsimp (disch := (first | omega | (simp only [LN]; omega))) only [retQ, Tryz.results30, resVals, cellRV, resOf, St.rest, St.freeze, RT, go_sem, ↓reduceIte, seval]
    rw [← hi]
    rfl
set_option maxHeartbeats 8000000 in
theorem affected_sat (s : Sch) (c : Chg) (hlen : s.tables.length ≤ 140737488355328) (h1 : ∀ t ∈ s.tables, t.pk.length ≤ 1099511627776) (h2 : c.row.length ≤ 140737488355328) :
    Sat Tryz.prog 10 [.agg (eSch s), .agg (eChg c)] (.v (.one (eRow (match refT s c.table with | some t => tgt t c | none => c.key)))) := by
  have hp : ptrTy Tryz.prog 86 = true := by kernel_rfl
  have hf := rFindTable_sat s c.table hlen
  cases ht : refT s c.table with
  | some t =>
    have hm : t ∈ s.tables := List.mem_of_find?_eq_some ht
    rw [ht] at hf
    have hk := rKeyOf_sat t c.row (h1 t hm) h2
    refine sat_of_body tyOk Tryz.func10 rfl (by kernel_rfl) ⟨Nat.le_of_ble_eq_true rfl, Nat.le_of_ble_eq_true rfl⟩ fun w0 m0 F0 => ?_
    simp only [Tryz.ntmps10, envOf, Nat.reduceAdd]
    repeat' (first | ((first | with_reducible refine qV tyOk fun K hK => ?_ | (with_reducible first | refine qG ?_ | refine qH ?_ | refine qP ?_ | refine qGx ?_ | refine qHx ?_ | refine qPx ?_) | ((with_reducible first | refine qS ?_ ?_ | refine qT ?_ ?_ | refine qU ?_ ?_) <;> (intro h; try simp only [NM] at h)) | with_reducible refine yD tyOk mixed 6 (by kernel_rfl) fun K hK => ?_ | ((with_reducible refine CallJ.is ?_); (first | refine CallJ.pure (hf) ?_ | refine CallJ.pure (hk) ?_ | ((apply CallJ.lentI); (focus (simp -dsimp (disch := (first | omega | (simp only [LN]; omega))) only [go_sem, ↓reduceIte, seval, refL, hp]; rfl)); (focus (first | exact (hf) | exact (hk)))))) | ((with_reducible refine CallH.is ?_); (first | refine CallH.intro (hf) ?_ | refine CallH.intro (hk) ?_))) <;> simp -dsimp (disch := (first | omega | (simp only [LN]; omega))) only [go_sem, ↓reduceIte, seval, refL, hp]) | ((with_reducible refine hK _ ?_); clear hK K) | (with_reducible first | refine qA ?_ | refine qB ?_ | refine qC ?_ | refine qD ?_ | refine qE ?_ | refine qF ?_ | refine qL ?_ | refine qM ?_ | refine qN ?_ | refine qO ?_ | refine qQ ?_) | refine qR rfl ?_ | (with_reducible refine AI ?_) | ((with_reducible refine qW (T := TT) (b := ?_) ?_ ?_); rotate_left; exact rfl) | (with_reducible first | refine qX ?_ | refine qY ?_ | refine qZ ?_) | (with_reducible first | refine qI ?_ | refine qIx ?_ | fail) | ((with_reducible refine yS ?_ ?_) <;> (intro h; try simp only [NM] at h)))
    all_goals simp -dsimp (disch := (first | omega | (simp only [LN]; omega))) only [retQ, Tryz.results10, resVals, cellRV, resOf, St.rest, St.freeze, RT, go_sem, ↓reduceIte, seval]
    all_goals simp_all [tgt]
  | none =>
    rw [ht] at hf
    refine sat_of_body tyOk Tryz.func10 rfl (by kernel_rfl) ⟨Nat.le_of_ble_eq_true rfl, Nat.le_of_ble_eq_true rfl⟩ fun w0 m0 F0 => ?_
    simp only [Tryz.ntmps10, envOf, Nat.reduceAdd]
    repeat' (first | ((first | with_reducible refine qV tyOk fun K hK => ?_ | (with_reducible first | refine qG ?_ | refine qH ?_ | refine qP ?_ | refine qGx ?_ | refine qHx ?_ | refine qPx ?_) | ((with_reducible first | refine qS ?_ ?_ | refine qT ?_ ?_ | refine qU ?_ ?_) <;> (intro h; try simp only [NM] at h)) | with_reducible refine yD tyOk mixed 6 (by kernel_rfl) fun K hK => ?_ | ((with_reducible refine CallJ.is ?_); (first | refine CallJ.pure (hf) ?_ | ((apply CallJ.lentI); (focus (simp -dsimp (disch := (first | omega | (simp only [LN]; omega))) only [go_sem, ↓reduceIte, seval, refL, hp]; rfl)); (focus (first | exact (hf)))))) | ((with_reducible refine CallH.is ?_); (first | refine CallH.intro (hf) ?_))) <;> simp -dsimp (disch := (first | omega | (simp only [LN]; omega))) only [go_sem, ↓reduceIte, seval, refL, hp]) | ((with_reducible refine hK _ ?_); clear hK K) | (with_reducible first | refine qA ?_ | refine qB ?_ | refine qC ?_ | refine qD ?_ | refine qE ?_ | refine qF ?_ | refine qL ?_ | refine qM ?_ | refine qN ?_ | refine qO ?_ | refine qQ ?_) | refine qR rfl ?_ | (with_reducible refine AI ?_) | ((with_reducible refine qW (T := TT) (b := ?_) ?_ ?_); rotate_left; exact rfl) | (with_reducible first | refine qX ?_ | refine qY ?_ | refine qZ ?_) | (with_reducible first | refine qI ?_ | refine qIx ?_ | fail) | ((with_reducible refine yS ?_ ?_) <;> (intro h; try simp only [NM] at h)))
    all_goals simp -dsimp (disch := (first | omega | (simp only [LN]; omega))) only [retQ, Tryz.results10, resVals, cellRV, resOf, St.rest, St.freeze, RT, go_sem, ↓reduceIte, seval]

set_option maxHeartbeats 16000000 in
theorem diffRows_sat (t : Tbl) (a b : List Row) (h0 : t.pk.length ≤ 1099511627776) (h1 : a.length ≤ 1048576) (h2 : b.length ≤ 1048576) (h3 : ∀ y ∈ b, y.length ≤ 1099511627776) (h4 : ∀ y ∈ a, y.length ≤ 1099511627776) :
    Sat Tryz.prog 23 [.agg (eTbl t), .one (eRows a), .one (eRows b)] (.v (.one (eChgs (diffR t a b)))) := by
  refine sat_of_body tyOk Tryz.func23 rfl (by kernel_rfl) ⟨Nat.le_of_ble_eq_true rfl, Nat.le_of_ble_eq_true rfl⟩ fun w0 m0 F0 => ?_
  simp only [Tryz.ntmps23, envOf, Nat.reduceAdd]
  repeat' (first | ((first | with_reducible refine qV tyOk fun K hK => ?_ | (with_reducible first | refine qG ?_ | refine qH ?_ | refine qP ?_ | refine qGx ?_ | refine qHx ?_ | refine qPx ?_) | ((with_reducible first | refine qS ?_ ?_ | refine qT ?_ ?_ | refine qU ?_ ?_) <;> (intro h; try simp only [NM] at h))) <;> simp -dsimp (disch := (first | omega | (simp only [LN]; omega))) only [go_sem, ↓reduceIte, seval]) | ((with_reducible refine hK _ ?_); clear hK K) | (with_reducible first | refine qA ?_ | refine qB ?_ | refine qC ?_ | refine qD ?_ | refine qE ?_ | refine qF ?_ | refine qL ?_ | refine qM ?_ | refine qN ?_ | refine qO ?_ | refine qQ ?_) | refine qR rfl ?_ | (with_reducible refine AI ?_) | ((with_reducible refine qW (T := TT) (b := ?_) ?_ ?_); rotate_left; exact rfl) | (with_reducible first | refine qX ?_ | refine qY ?_ | refine qZ ?_) | (with_reducible first | refine qI ?_ | refine qIx ?_ | fail) | ((with_reducible refine yS ?_ ?_) <;> (intro h; try simp only [NM] at h)))
  refine AWP.loop (ι := {p : List Row × List Row × List Chg // p.2.2 ++ diffR t p.1 p.2.1 = diffR t a b ∧ p.2.2.length + p.1.length + p.2.1.length ≤ a.length + b.length ∧ (∀ y ∈ p.1, y.length ≤ 1099511627776) ∧ ∀ y ∈ p.2.1, y.length ≤ 1099511627776})
    (fun p => ⟨88, [(1, .v (.one (eRows p.1.1))), (2, .v (.one (eRows p.1.2.1))), (3, .v (.one (.ptr 3 0))), (7, .v (.one (.ref 7 0 p.1.2.2.length)))], [(3, eTbl t)], [(7, ⟨4, p.1.2.2.map eChg, []⟩)]⟩) (fun p => p.1.1.length + p.1.2.1.length) ⟨(a, b, []), rfl, by simp, h4, h3⟩ ?_ fun ⟨(x, y, c), hap, hln, hx, hy⟩ => ?_
  · refine St.le_mk ?_ ?_ ?_ <;> simp only [LE, EN, Nat.reduceEqDiff, reduceIte, Nat.reduceSub, eTbl, List.length_nil]
  simp only at hap hln hx hy ⊢
  match x, y with
  | [], [] =>
    repeat' (first | ((first | with_reducible refine qV tyOk fun K hK => ?_ | (with_reducible first | refine qG ?_ | refine qH ?_ | refine qP ?_ | refine qGx ?_ | refine qHx ?_ | refine qPx ?_) | ((with_reducible first | refine qS ?_ ?_ | refine qT ?_ ?_ | refine qU ?_ ?_) <;> (intro h; try simp only [NM] at h))) <;> simp -dsimp (disch := (first | omega | (simp only [LN]; omega))) only [go_sem, ↓reduceIte, seval]) | ((with_reducible refine hK _ ?_); clear hK K) | (with_reducible first | refine qA ?_ | refine qB ?_ | refine qC ?_ | refine qD ?_ | refine qE ?_ | refine qF ?_ | refine qL ?_ | refine qM ?_ | refine qN ?_ | refine qO ?_ | refine qQ ?_) | refine qR rfl ?_ | (with_reducible refine AI ?_) | ((with_reducible refine qW (T := TT) (b := ?_) ?_ ?_); rotate_left; exact rfl) | (with_reducible first | refine qX ?_ | refine qY ?_ | refine qZ ?_) | (with_reducible first | refine qI ?_ | refine qIx ?_ | fail) | ((with_reducible refine yS ?_ ?_) <;> (intro h; try simp only [NM] at h)))
    rw [diffR, List.append_nil] at hap
    simp -dsimp (disch := (first | omega | (simp only [LN]; omega))) only [retQ, Tryz.results23, resVals, cellRV, resOf, St.rest, St.freeze, RT, go_sem, ↓reduceIte, seval]
    rw [hap]
  | [], v :: y =>
    simp only [List.length_cons, List.length_nil] at hln
    have hv := hy v (by simp)
    have e : (c ++ [⟨1, t.name, [], v⟩] : List Chg) ++ diffR t [] y = diffR t a b := by rw [← hap, diffR]; simp
    repeat' (first | ((first | with_reducible refine qV tyOk fun K hK => ?_ | (with_reducible first | refine qG ?_ | refine qH ?_ | refine qP ?_ | refine qGx ?_ | refine qHx ?_ | refine qPx ?_) | ((with_reducible first | refine qS ?_ ?_ | refine qT ?_ ?_ | refine qU ?_ ?_) <;> (intro h; try simp only [NM] at h))) <;> simp -dsimp (disch := (first | omega | (simp only [LN]; omega))) only [go_sem, ↓reduceIte, seval]) | ((with_reducible refine hK _ ?_); clear hK K) | (with_reducible first | refine qA ?_ | refine qB ?_ | refine qC ?_ | refine qD ?_ | refine qE ?_ | refine qF ?_ | refine qL ?_ | refine qM ?_ | refine qN ?_ | refine qO ?_ | refine qQ ?_) | refine qR rfl ?_ | (with_reducible refine AI ?_) | ((with_reducible refine qW (T := TT) (b := ?_) ?_ ?_); rotate_left; exact rfl) | (with_reducible first | refine qX ?_ | refine qY ?_ | refine qZ ?_) | (with_reducible first | refine qI ?_ | refine qIx ?_ | fail) | ((with_reducible refine yS ?_ ?_) <;> (intro h; try simp only [NM] at h)))
    refine AWP.keep [1, 2, 3, 7] ?_
    simp -dsimp (disch := (first | omega | (simp only [LN]; omega))) only [go_sem, ↓reduceIte, seval, RT]
    refine AWP.drawX tyOk mixed [(0, 6)] [(6, [(7, 1)], [(0, 3)]), (8, [], [(0, 1)]), (9, [], []), (10, [], [])] [6, 8, 9, 10] 8 (by decide) (by kernel_rfl) (by kernel_rfl) (by kernel_rfl) (by kernel_rfl) fun K hK => ?_
    simp only [segx_nil, segx_cons, segs, List.drop_succ_cons, List.drop_zero, List.take_succ_cons, List.take_zero, List.getElem?_cons_zero, List.getElem?_cons_succ, List.cons_append, List.nil_append, List.append_nil] at hK ⊢
    simp -dsimp (disch := (first | omega | (simp only [LN]; omega))) only [go_sem, ↓reduceIte, seval, Option.getD_none, List.getD_cons_zero]
    repeat' (first | ((first | with_reducible refine qV tyOk fun K hK => ?_ | (with_reducible first | refine qG ?_ | refine qH ?_ | refine qP ?_ | refine qGx ?_ | refine qHx ?_ | refine qPx ?_) | ((with_reducible first | refine qS ?_ ?_ | refine qT ?_ ?_ | refine qU ?_ ?_) <;> (intro h; try simp only [NM] at h)) | ((with_reducible refine CallJ.is ?_); (first | refine CallJ.pure (cloneRow_sat v hv) ?_ | ((apply CallJ.lentI); (focus (simp -dsimp (disch := (first | omega | (simp only [LN]; omega))) only [go_sem, ↓reduceIte, seval, Option.getD_none, List.getD_cons_zero]; rfl)); (focus (first | exact (cloneRow_sat v hv)))))) | ((with_reducible refine CallH.is ?_); (first | refine CallH.intro (cloneRow_sat v hv) ?_))) <;> simp -dsimp (disch := (first | omega | (simp only [LN]; omega))) only [go_sem, ↓reduceIte, seval, Option.getD_none, List.getD_cons_zero]) | ((with_reducible refine hK _ ?_); clear hK K) | (with_reducible first | refine qA ?_ | refine qB ?_ | refine qC ?_ | refine qD ?_ | refine qE ?_ | refine qF ?_ | refine qL ?_ | refine qM ?_ | refine qN ?_ | refine qO ?_ | refine qQ ?_) | refine qR rfl ?_ | ((with_reducible refine VCy.intro fun K0 hK0 => ?_)) | ((with_reducible refine VCy.fin ?_); (refine hK0 _ ?_); clear hK0 K0) | (with_reducible first | refine VCy.quiet ?_ | refine VCy.none ?_) | ((with_reducible first | refine VCy.some fun K hK => ?_ | refine VCy.step fun K hK => ?_); simp -dsimp (disch := (first | omega | (simp only [LN]; omega))) only [go_sem, ↓reduceIte, seval, Option.getD_none, List.getD_cons_zero]) | ((with_reducible refine VCy.keep ?_ ?_); focus ((simp -dsimp (disch := (first | omega | (simp only [LN]; omega))) only [go_sem, ↓reduceIte, seval, Stable_cons, Stable_nil, sameA_some, sameA_none, Option.getD_none, List.getD_cons_zero]); first | done | with_reducible assumption | omega | (repeat' with_reducible refine And.intro ?_ ?_) <;> first | with_reducible rfl | with_reducible assumption | omega)) | (with_reducible refine AI ?_) | ((with_reducible refine qW (T := TT) (b := ?_) ?_ ?_); rotate_left; exact rfl) | (with_reducible first | refine qX ?_ | refine qY ?_ | refine qZ ?_) | (with_reducible first | refine qI ?_ | refine qIx ?_ | fail) | ((with_reducible refine yS ?_ ?_) <;> (intro h; try simp only [NM] at h)))
    refine ⟨⟨([], y, c ++ [⟨1, t.name, [], v⟩]), e, by simp; omega, hx, fun z hz => hy z (by simp [hz])⟩, by simp, ?_⟩
    refine St.le_mk ?_ ?_ ?_ <;> simp only [LE, EN, Nat.reduceEqDiff, reduceIte, Nat.reduceSub, eTbl, eChg, List.map_append, List.map_cons, List.map_nil, List.length_append, List.length_cons, List.length_nil]
  | u :: x, [] =>
    simp only [List.length_cons, List.length_nil] at hln
    have e : (c ++ [⟨2, t.name, keyOf t.pk u, []⟩] : List Chg) ++ diffR t x [] = diffR t a b := by rw [← hap, diffR]; simp
    repeat' (first | ((first | with_reducible refine qV tyOk fun K hK => ?_ | (with_reducible first | refine qG ?_ | refine qH ?_ | refine qP ?_ | refine qGx ?_ | refine qHx ?_ | refine qPx ?_) | ((with_reducible first | refine qS ?_ ?_ | refine qT ?_ ?_ | refine qU ?_ ?_) <;> (intro h; try simp only [NM] at h))) <;> simp -dsimp (disch := (first | omega | (simp only [LN]; omega))) only [go_sem, ↓reduceIte, seval]) | ((with_reducible refine hK _ ?_); clear hK K) | (with_reducible first | refine qA ?_ | refine qB ?_ | refine qC ?_ | refine qD ?_ | refine qE ?_ | refine qF ?_ | refine qL ?_ | refine qM ?_ | refine qN ?_ | refine qO ?_ | refine qQ ?_) | refine qR rfl ?_ | (with_reducible refine AI ?_) | ((with_reducible refine qW (T := TT) (b := ?_) ?_ ?_); rotate_left; exact rfl) | (with_reducible first | refine qX ?_ | refine qY ?_ | refine qZ ?_) | (with_reducible first | refine qI ?_ | refine qIx ?_ | fail) | ((with_reducible refine yS ?_ ?_) <;> (intro h; try simp only [NM] at h)))
    refine AWP.keep [1, 2, 3, 7] ?_
    simp -dsimp (disch := (first | omega | (simp only [LN]; omega))) only [go_sem, ↓reduceIte, seval, RT]
    refine AWP.drawX tyOk mixed [(0, 7)] [(7, [(8, 1)], [(0, 3)]), (9, [], [(0, 1)]), (10, [], []), (11, [], [])] [7, 9, 10, 11] 8 (by decide) (by kernel_rfl) (by kernel_rfl) (by kernel_rfl) (by kernel_rfl) fun K hK => ?_
    simp only [segx_nil, segx_cons, segs, List.drop_succ_cons, List.drop_zero, List.take_succ_cons, List.take_zero, List.getElem?_cons_zero, List.getElem?_cons_succ, List.cons_append, List.nil_append, List.append_nil] at hK ⊢
    simp -dsimp (disch := (first | omega | (simp only [LN]; omega))) only [go_sem, ↓reduceIte, seval, Option.getD_none, List.getD_cons_zero]
    repeat' (first | ((first | with_reducible refine qV tyOk fun K hK => ?_ | (with_reducible first | refine qG ?_ | refine qH ?_ | refine qP ?_ | refine qGx ?_ | refine qHx ?_ | refine qPx ?_) | ((with_reducible first | refine qS ?_ ?_ | refine qT ?_ ?_ | refine qU ?_ ?_) <;> (intro h; try simp only [NM] at h)) | ((with_reducible refine CallJ.is ?_); (first | refine CallJ.pure (key_sat t u h0) ?_ | ((apply CallJ.lentI); (focus (simp -dsimp (disch := (first | omega | (simp only [LN]; omega))) only [go_sem, ↓reduceIte, seval, Option.getD_none, List.getD_cons_zero]; rfl)); (focus (first | exact (key_sat t u h0)))))) | ((with_reducible refine CallH.is ?_); (first | refine CallH.intro (key_sat t u h0) ?_))) <;> simp -dsimp (disch := (first | omega | (simp only [LN]; omega))) only [go_sem, ↓reduceIte, seval, Option.getD_none, List.getD_cons_zero]) | ((with_reducible refine hK _ ?_); clear hK K) | (with_reducible first | refine qA ?_ | refine qB ?_ | refine qC ?_ | refine qD ?_ | refine qE ?_ | refine qF ?_ | refine qL ?_ | refine qM ?_ | refine qN ?_ | refine qO ?_ | refine qQ ?_) | refine qR rfl ?_ | ((with_reducible refine VCy.intro fun K0 hK0 => ?_)) | ((with_reducible refine VCy.fin ?_); (refine hK0 _ ?_); clear hK0 K0) | (with_reducible first | refine VCy.quiet ?_ | refine VCy.none ?_) | ((with_reducible first | refine VCy.some fun K hK => ?_ | refine VCy.step fun K hK => ?_); simp -dsimp (disch := (first | omega | (simp only [LN]; omega))) only [go_sem, ↓reduceIte, seval, Option.getD_none, List.getD_cons_zero]) | ((with_reducible refine VCy.keep ?_ ?_); focus ((simp -dsimp (disch := (first | omega | (simp only [LN]; omega))) only [go_sem, ↓reduceIte, seval, Stable_cons, Stable_nil, sameA_some, sameA_none, Option.getD_none, List.getD_cons_zero]); first | done | with_reducible assumption | omega | (repeat' with_reducible refine And.intro ?_ ?_) <;> first | with_reducible rfl | with_reducible assumption | omega)) | (with_reducible refine AI ?_) | ((with_reducible refine qW (T := TT) (b := ?_) ?_ ?_); rotate_left; exact rfl) | (with_reducible first | refine qX ?_ | refine qY ?_ | refine qZ ?_) | (with_reducible first | refine qI ?_ | refine qIx ?_ | fail) | ((with_reducible refine yS ?_ ?_) <;> (intro h; try simp only [NM] at h)))
    refine ⟨⟨(x, [], c ++ [⟨2, t.name, keyOf t.pk u, []⟩]), e, by simp; omega, fun z hz => hx z (by simp [hz]), hy⟩, by simp, ?_⟩
    refine St.le_mk ?_ ?_ ?_ <;> simp only [LE, EN, Nat.reduceEqDiff, reduceIte, Nat.reduceSub, eTbl, eChg, List.map_append, List.map_cons, List.map_nil, List.length_append, List.length_cons, List.length_nil]
  | u :: x, v :: y =>
    simp only [List.length_cons, List.length_nil] at hln
    have hv := hy v (by simp)
    have hu := hx u (by simp)
    have k1 := keyOf_length t.pk u
    have k2 := keyOf_length t.pk v
    repeat' (first | ((first | with_reducible refine qV tyOk fun K hK => ?_ | (with_reducible first | refine qG ?_ | refine qH ?_ | refine qP ?_ | refine qGx ?_ | refine qHx ?_ | refine qPx ?_) | ((with_reducible first | refine qS ?_ ?_ | refine qT ?_ ?_ | refine qU ?_ ?_) <;> (intro h; try simp only [NM] at h))) <;> simp -dsimp (disch := (first | omega | (simp only [LN]; omega))) only [go_sem, ↓reduceIte, seval]) | ((with_reducible refine hK _ ?_); clear hK K) | (with_reducible first | refine qA ?_ | refine qB ?_ | refine qC ?_ | refine qD ?_ | refine qE ?_ | refine qF ?_ | refine qL ?_ | refine qM ?_ | refine qN ?_ | refine qO ?_ | refine qQ ?_) | refine qR rfl ?_ | (with_reducible refine AI ?_) | ((with_reducible refine qW (T := TT) (b := ?_) ?_ ?_); rotate_left; exact rfl) | (with_reducible first | refine qX ?_ | refine qY ?_ | refine qZ ?_) | (with_reducible first | refine qI ?_ | refine qIx ?_ | fail) | ((with_reducible refine yS ?_ ?_) <;> (intro h; try simp only [NM] at h)))
    refine yD tyOk mixed 8 (by kernel_rfl) fun K hK => ?_
    simp -dsimp (disch := (first | omega | (simp only [LN]; omega))) only [go_sem, ↓reduceIte, seval, Option.getD_none, List.getD_cons_zero]
    repeat' (first | ((first | with_reducible refine qV tyOk fun K hK => ?_ | (with_reducible first | refine qG ?_ | refine qH ?_ | refine qP ?_ | refine qGx ?_ | refine qHx ?_ | refine qPx ?_) | ((with_reducible refine CallJ.is ?_); (first | refine CallJ.pure (key_sat t u h0) ?_ | refine CallJ.pure (key_sat t v h0) ?_ | refine CallJ.pure (compareRows_sat (keyOf t.pk u) (keyOf t.pk v) (by omega) (by omega)) ?_ | ((apply CallJ.lentI); (focus (simp -dsimp (disch := (first | omega | (simp only [LN]; omega))) only [go_sem, ↓reduceIte, seval, Option.getD_none, List.getD_cons_zero]; rfl)); (focus (first | exact (key_sat t u h0) | exact (key_sat t v h0) | exact (compareRows_sat (keyOf t.pk u) (keyOf t.pk v) (by omega) (by omega))))))) | ((with_reducible refine CallH.is ?_); (first | refine CallH.intro (key_sat t u h0) ?_ | refine CallH.intro (key_sat t v h0) ?_ | refine CallH.intro (compareRows_sat (keyOf t.pk u) (keyOf t.pk v) (by omega) (by omega)) ?_))) <;> simp -dsimp (disch := (first | omega | (simp only [LN]; omega))) only [go_sem, ↓reduceIte, seval, Option.getD_none, List.getD_cons_zero]) | ((with_reducible refine hK _ ?_); clear hK K) | (with_reducible first | refine qA ?_ | refine qB ?_ | refine qC ?_ | refine qD ?_ | refine qE ?_ | refine qF ?_ | refine qL ?_ | refine qM ?_ | refine qN ?_ | refine qO ?_ | refine qQ ?_) | refine qR rfl ?_ | (with_reducible refine AI ?_) | ((with_reducible refine qW (T := TT) (b := ?_) ?_ ?_); rotate_left; exact rfl) | (with_reducible first | refine qX ?_ | refine qY ?_ | refine qZ ?_) | (with_reducible first | refine qI ?_ | refine qIx ?_ | fail))
    rcases Int.lt_trichotomy (cmpRows (keyOf t.pk u) (keyOf t.pk v)) 0 with hlt | heq | hgt
    · have e : (c ++ [⟨2, t.name, keyOf t.pk u, []⟩] : List Chg) ++ diffR t x (v :: y) = diffR t a b := by rw [← hap, diffR, if_pos hlt]; simp
      repeat' (first | ((first | with_reducible refine qV tyOk fun K hK => ?_ | (with_reducible first | refine qG ?_ | refine qH ?_ | refine qP ?_ | refine qGx ?_ | refine qHx ?_ | refine qPx ?_)) <;> simp -dsimp (disch := (first | omega | (simp only [LN]; omega))) only [go_sem, ↓reduceIte, seval]) | ((with_reducible refine hK _ ?_); clear hK K) | (with_reducible first | refine qA ?_ | refine qB ?_ | refine qC ?_ | refine qD ?_ | refine qE ?_ | refine qF ?_ | refine qL ?_ | refine qM ?_ | refine qN ?_ | refine qO ?_ | refine qQ ?_) | refine qR rfl ?_ | (with_reducible refine AI ?_) | ((with_reducible refine qW (T := TT) (b := ?_) ?_ ?_); rotate_left; exact rfl) | (with_reducible first | refine qX ?_ | refine qY ?_ | refine qZ ?_) | (with_reducible first | refine qI ?_ | refine qIx ?_ | fail))
      refine AWP.keep [1, 2, 3, 7] ?_
      simp -dsimp (disch := (first | omega | (simp only [LN]; omega))) only [go_sem, ↓reduceIte, seval, RT]
      refine AWP.drawX tyOk mixed [(0, 7)] [(7, [(8, 1)], [(0, 3)]), (9, [], [(0, 1)]), (10, [], []), (11, [], [])] [7, 9, 10, 11] 8 (by decide) (by kernel_rfl) (by kernel_rfl) (by kernel_rfl) (by kernel_rfl) fun K hK => ?_
      simp only [segx_nil, segx_cons, segs, List.drop_succ_cons, List.drop_zero, List.take_succ_cons, List.take_zero, List.getElem?_cons_zero, List.getElem?_cons_succ, List.cons_append, List.nil_append, List.append_nil] at hK ⊢
      simp -dsimp (disch := (first | omega | (simp only [LN]; omega))) only [go_sem, ↓reduceIte, seval, Option.getD_none, List.getD_cons_zero]
      repeat' (first | ((first | with_reducible refine qV tyOk fun K hK => ?_ | (with_reducible first | refine qG ?_ | refine qH ?_ | refine qP ?_ | refine qGx ?_ | refine qHx ?_ | refine qPx ?_) | ((with_reducible first | refine qS ?_ ?_ | refine qT ?_ ?_ | refine qU ?_ ?_) <;> (intro h; try simp only [NM] at h)) | ((with_reducible refine CallJ.is ?_); (first | refine CallJ.pure (key_sat t u h0) ?_ | ((apply CallJ.lentI); (focus (simp -dsimp (disch := (first | omega | (simp only [LN]; omega))) only [go_sem, ↓reduceIte, seval, Option.getD_none, List.getD_cons_zero]; rfl)); (focus (first | exact (key_sat t u h0)))))) | ((with_reducible refine CallH.is ?_); (first | refine CallH.intro (key_sat t u h0) ?_))) <;> simp -dsimp (disch := (first | omega | (simp only [LN]; omega))) only [go_sem, ↓reduceIte, seval, Option.getD_none, List.getD_cons_zero]) | ((with_reducible refine hK _ ?_); clear hK K) | (with_reducible first | refine qA ?_ | refine qB ?_ | refine qC ?_ | refine qD ?_ | refine qE ?_ | refine qF ?_ | refine qL ?_ | refine qM ?_ | refine qN ?_ | refine qO ?_ | refine qQ ?_) | refine qR rfl ?_ | ((with_reducible refine VCy.intro fun K0 hK0 => ?_)) | ((with_reducible refine VCy.fin ?_); (refine hK0 _ ?_); clear hK0 K0) | (with_reducible first | refine VCy.quiet ?_ | refine VCy.none ?_) | ((with_reducible first | refine VCy.some fun K hK => ?_ | refine VCy.step fun K hK => ?_); simp -dsimp (disch := (first | omega | (simp only [LN]; omega))) only [go_sem, ↓reduceIte, seval, Option.getD_none, List.getD_cons_zero]) | ((with_reducible refine VCy.keep ?_ ?_); focus ((simp -dsimp (disch := (first | omega | (simp only [LN]; omega))) only [go_sem, ↓reduceIte, seval, Stable_cons, Stable_nil, sameA_some, sameA_none, Option.getD_none, List.getD_cons_zero]); first | done | with_reducible assumption | omega | (repeat' with_reducible refine And.intro ?_ ?_) <;> first | with_reducible rfl | with_reducible assumption | omega)) | (with_reducible refine AI ?_) | ((with_reducible refine qW (T := TT) (b := ?_) ?_ ?_); rotate_left; exact rfl) | (with_reducible first | refine qX ?_ | refine qY ?_ | refine qZ ?_) | (with_reducible first | refine qI ?_ | refine qIx ?_ | fail) | ((with_reducible refine yS ?_ ?_) <;> (intro h; try simp only [NM] at h)))
      refine ⟨⟨(x, v :: y, c ++ [⟨2, t.name, keyOf t.pk u, []⟩]), e, by simp; omega, fun z hz => hx z (by simp [hz]), hy⟩, by simp, ?_⟩
      refine St.le_mk ?_ ?_ ?_ <;> simp only [LE, EN, Nat.reduceEqDiff, reduceIte, Nat.reduceSub, eTbl, eChg, List.map_append, List.map_cons, List.map_nil, List.length_append, List.length_cons, List.length_nil]
    · have n1 : ¬ cmpRows (keyOf t.pk u) (keyOf t.pk v) < 0 := by omega
      have n2 : ¬ 0 < cmpRows (keyOf t.pk u) (keyOf t.pk v) := by omega
      have hu' : u.length ≤ 140737488355328 := by omega
      have hv' : v.length ≤ 140737488355328 := by omega
      by_cases huv : u = v
      · have e : c ++ diffR t x y = diffR t a b := by rw [← hap, diffR, if_neg n1, if_neg n2, if_pos huv]; simp
        repeat' (first | ((first | with_reducible refine qV tyOk fun K hK => ?_ | (with_reducible first | refine qG ?_ | refine qH ?_ | refine qP ?_ | refine qGx ?_ | refine qHx ?_ | refine qPx ?_)) <;> simp -dsimp (disch := (first | omega | (simp only [LN]; omega))) only [go_sem, ↓reduceIte, seval]) | ((with_reducible refine hK _ ?_); clear hK K) | (with_reducible first | refine qA ?_ | refine qB ?_ | refine qC ?_ | refine qD ?_ | refine qE ?_ | refine qF ?_ | refine qL ?_ | refine qM ?_ | refine qN ?_ | refine qO ?_ | refine qQ ?_) | refine qR rfl ?_ | (with_reducible refine AI ?_) | ((with_reducible refine qW (T := TT) (b := ?_) ?_ ?_); rotate_left; exact rfl) | (with_reducible first | refine qX ?_ | refine qY ?_ | refine qZ ?_) | (with_reducible first | refine qI ?_ | refine qIx ?_ | fail))
        refine yD tyOk mixed 8 (by kernel_rfl) fun K hK => ?_
        simp -dsimp (disch := (first | omega | (simp only [LN]; omega))) only [go_sem, ↓reduceIte, seval, Option.getD_none, List.getD_cons_zero]
        repeat' (first | ((first | with_reducible refine qV tyOk fun K hK => ?_ | (with_reducible first | refine qG ?_ | refine qH ?_ | refine qP ?_ | refine qGx ?_ | refine qHx ?_ | refine qPx ?_) | ((with_reducible refine CallJ.is ?_); (first | refine CallJ.pure (equalRow_sat u v hu' hv') ?_ | ((apply CallJ.lentI); (focus (simp -dsimp (disch := (first | omega | (simp only [LN]; omega))) only [go_sem, ↓reduceIte, seval, Option.getD_none, List.getD_cons_zero]; rfl)); (focus (first | exact (equalRow_sat u v hu' hv')))))) | ((with_reducible refine CallH.is ?_); (first | refine CallH.intro (equalRow_sat u v hu' hv') ?_))) <;> simp -dsimp (disch := (first | omega | (simp only [LN]; omega))) only [go_sem, ↓reduceIte, seval, Option.getD_none, List.getD_cons_zero]) | ((with_reducible refine hK _ ?_); clear hK K) | (with_reducible first | refine qA ?_ | refine qB ?_ | refine qC ?_ | refine qD ?_ | refine qE ?_ | refine qF ?_ | refine qL ?_ | refine qM ?_ | refine qN ?_ | refine qO ?_ | refine qQ ?_) | refine qR rfl ?_ | (with_reducible refine AI ?_) | ((with_reducible refine qW (T := TT) (b := ?_) ?_ ?_); rotate_left; exact rfl) | (with_reducible first | refine qX ?_ | refine qY ?_ | refine qZ ?_) | (with_reducible first | refine qI ?_ | refine qIx ?_ | fail))
        refine yD tyOk mixed 8 (by kernel_rfl) fun K hK => ?_
        simp -dsimp (disch := (first | omega | (simp only [LN]; omega))) only [go_sem, ↓reduceIte, seval, Option.getD_none, List.getD_cons_zero]
        repeat' (first | ((first | with_reducible refine qV tyOk fun K hK => ?_ | (with_reducible first | refine qG ?_ | refine qH ?_ | refine qP ?_ | refine qGx ?_ | refine qHx ?_ | refine qPx ?_)) <;> simp -dsimp (disch := (first | omega | (simp only [LN]; omega))) only [go_sem, ↓reduceIte, seval, Option.getD_none, List.getD_cons_zero]) | ((with_reducible refine hK _ ?_); clear hK K) | (with_reducible first | refine qA ?_ | refine qB ?_ | refine qC ?_ | refine qD ?_ | refine qE ?_ | refine qF ?_ | refine qL ?_ | refine qM ?_ | refine qN ?_ | refine qO ?_ | refine qQ ?_) | refine qR rfl ?_ | (with_reducible refine AI ?_) | ((with_reducible refine qW (T := TT) (b := ?_) ?_ ?_); rotate_left; exact rfl) | (with_reducible first | refine qX ?_ | refine qY ?_ | refine qZ ?_) | (with_reducible first | refine qI ?_ | refine qIx ?_ | fail))
        refine ⟨⟨(x, y, c), e, by simp only; omega, fun z hz => hx z (by simp [hz]), fun z hz => hy z (by simp [hz])⟩, by simp; omega, ?_⟩
        refine St.le_mk ?_ ?_ ?_ <;> simp only [LE, EN, Nat.reduceEqDiff, reduceIte, Nat.reduceSub, eTbl]
      · have e : (c ++ [⟨1, t.name, [], v⟩] : List Chg) ++ diffR t x y = diffR t a b := by rw [← hap, diffR, if_neg n1, if_neg n2, if_neg huv]; simp
        repeat' (first | ((first | with_reducible refine qV tyOk fun K hK => ?_ | (with_reducible first | refine qG ?_ | refine qH ?_ | refine qP ?_ | refine qGx ?_ | refine qHx ?_ | refine qPx ?_)) <;> simp -dsimp (disch := (first | omega | (simp only [LN]; omega))) only [go_sem, ↓reduceIte, seval]) | ((with_reducible refine hK _ ?_); clear hK K) | (with_reducible first | refine qA ?_ | refine qB ?_ | refine qC ?_ | refine qD ?_ | refine qE ?_ | refine qF ?_ | refine qL ?_ | refine qM ?_ | refine qN ?_ | refine qO ?_ | refine qQ ?_) | refine qR rfl ?_ | (with_reducible refine AI ?_) | ((with_reducible refine qW (T := TT) (b := ?_) ?_ ?_); rotate_left; exact rfl) | (with_reducible first | refine qX ?_ | refine qY ?_ | refine qZ ?_) | (with_reducible first | refine qI ?_ | refine qIx ?_ | fail))
        refine yD tyOk mixed 8 (by kernel_rfl) fun K hK => ?_
        simp -dsimp (disch := (first | omega | (simp only [LN]; omega))) only [go_sem, ↓reduceIte, seval, Option.getD_none, List.getD_cons_zero]
        repeat' (first | ((first | with_reducible refine qV tyOk fun K hK => ?_ | (with_reducible first | refine qG ?_ | refine qH ?_ | refine qP ?_ | refine qGx ?_ | refine qHx ?_ | refine qPx ?_) | ((with_reducible refine CallJ.is ?_); (first | refine CallJ.pure (equalRow_sat u v hu' hv') ?_ | ((apply CallJ.lentI); (focus (simp -dsimp (disch := (first | omega | (simp only [LN]; omega))) only [go_sem, ↓reduceIte, seval, Option.getD_none, List.getD_cons_zero]; rfl)); (focus (first | exact (equalRow_sat u v hu' hv')))))) | ((with_reducible refine CallH.is ?_); (first | refine CallH.intro (equalRow_sat u v hu' hv') ?_))) <;> simp -dsimp (disch := (first | omega | (simp only [LN]; omega))) only [go_sem, ↓reduceIte, seval, Option.getD_none, List.getD_cons_zero]) | ((with_reducible refine hK _ ?_); clear hK K) | (with_reducible first | refine qA ?_ | refine qB ?_ | refine qC ?_ | refine qD ?_ | refine qE ?_ | refine qF ?_ | refine qL ?_ | refine qM ?_ | refine qN ?_ | refine qO ?_ | refine qQ ?_) | refine qR rfl ?_ | (with_reducible refine AI ?_) | ((with_reducible refine qW (T := TT) (b := ?_) ?_ ?_); rotate_left; exact rfl) | (with_reducible first | refine qX ?_ | refine qY ?_ | refine qZ ?_) | (with_reducible first | refine qI ?_ | refine qIx ?_ | fail))
        refine AWP.keep [1, 2, 3, 7] ?_
        simp -dsimp (disch := (first | omega | (simp only [LN]; omega))) only [go_sem, ↓reduceIte, seval, RT]
        refine AWP.drawX tyOk mixed [(0, 6)] [(6, [(7, 1)], [(0, 3)]), (8, [], [(0, 1)]), (9, [], []), (10, [], [])] [6, 8, 9, 10] 8 (by decide) (by kernel_rfl) (by kernel_rfl) (by kernel_rfl) (by kernel_rfl) fun K hK => ?_
        simp only [segx_nil, segx_cons, segs, List.drop_succ_cons, List.drop_zero, List.take_succ_cons, List.take_zero, List.getElem?_cons_zero, List.getElem?_cons_succ, List.cons_append, List.nil_append, List.append_nil] at hK ⊢
        simp -dsimp (disch := (first | omega | (simp only [LN]; omega))) only [go_sem, ↓reduceIte, seval, Option.getD_none, List.getD_cons_zero]
        repeat' (first | ((first | with_reducible refine qV tyOk fun K hK => ?_ | (with_reducible first | refine qG ?_ | refine qH ?_ | refine qP ?_ | refine qGx ?_ | refine qHx ?_ | refine qPx ?_) | ((with_reducible first | refine qS ?_ ?_ | refine qT ?_ ?_ | refine qU ?_ ?_) <;> (intro h; try simp only [NM] at h)) | ((with_reducible refine CallJ.is ?_); (first | refine CallJ.pure (cloneRow_sat v hv) ?_ | ((apply CallJ.lentI); (focus (simp -dsimp (disch := (first | omega | (simp only [LN]; omega))) only [go_sem, ↓reduceIte, seval, Option.getD_none, List.getD_cons_zero]; rfl)); (focus (first | exact (cloneRow_sat v hv)))))) | ((with_reducible refine CallH.is ?_); (first | refine CallH.intro (cloneRow_sat v hv) ?_))) <;> simp -dsimp (disch := (first | omega | (simp only [LN]; omega))) only [go_sem, ↓reduceIte, seval, Option.getD_none, List.getD_cons_zero]) | ((with_reducible refine hK _ ?_); clear hK K) | (with_reducible first | refine qA ?_ | refine qB ?_ | refine qC ?_ | refine qD ?_ | refine qE ?_ | refine qF ?_ | refine qL ?_ | refine qM ?_ | refine qN ?_ | refine qO ?_ | refine qQ ?_) | refine qR rfl ?_ | ((with_reducible refine VCy.intro fun K0 hK0 => ?_)) | ((with_reducible refine VCy.fin ?_); (refine hK0 _ ?_); clear hK0 K0) | (with_reducible first | refine VCy.quiet ?_ | refine VCy.none ?_) | ((with_reducible first | refine VCy.some fun K hK => ?_ | refine VCy.step fun K hK => ?_); simp -dsimp (disch := (first | omega | (simp only [LN]; omega))) only [go_sem, ↓reduceIte, seval, Option.getD_none, List.getD_cons_zero]) | ((with_reducible refine VCy.keep ?_ ?_); focus ((simp -dsimp (disch := (first | omega | (simp only [LN]; omega))) only [go_sem, ↓reduceIte, seval, Stable_cons, Stable_nil, sameA_some, sameA_none, Option.getD_none, List.getD_cons_zero]); first | done | with_reducible assumption | omega | (repeat' with_reducible refine And.intro ?_ ?_) <;> first | with_reducible rfl | with_reducible assumption | omega)) | (with_reducible refine AI ?_) | ((with_reducible refine qW (T := TT) (b := ?_) ?_ ?_); rotate_left; exact rfl) | (with_reducible first | refine qX ?_ | refine qY ?_ | refine qZ ?_) | (with_reducible first | refine qI ?_ | refine qIx ?_ | fail) | ((with_reducible refine yS ?_ ?_) <;> (intro h; try simp only [NM] at h)))
        refine yD tyOk mixed 8 (by kernel_rfl) fun K hK => ?_
        simp -dsimp (disch := (first | omega | (simp only [LN]; omega))) only [go_sem, ↓reduceIte, seval, Option.getD_none, List.getD_cons_zero]
        repeat' (first | ((first | with_reducible refine qV tyOk fun K hK => ?_ | (with_reducible first | refine qG ?_ | refine qH ?_ | refine qP ?_ | refine qGx ?_ | refine qHx ?_ | refine qPx ?_)) <;> simp -dsimp (disch := (first | omega | (simp only [LN]; omega))) only [go_sem, ↓reduceIte, seval, Option.getD_none, List.getD_cons_zero]) | ((with_reducible refine hK _ ?_); clear hK K) | (with_reducible first | refine qA ?_ | refine qB ?_ | refine qC ?_ | refine qD ?_ | refine qE ?_ | refine qF ?_ | refine qL ?_ | refine qM ?_ | refine qN ?_ | refine qO ?_ | refine qQ ?_) | refine qR rfl ?_ | (with_reducible refine AI ?_) | ((with_reducible refine qW (T := TT) (b := ?_) ?_ ?_); rotate_left; exact rfl) | (with_reducible first | refine qX ?_ | refine qY ?_ | refine qZ ?_) | (with_reducible first | refine qI ?_ | refine qIx ?_ | fail))
        refine ⟨⟨(x, y, c ++ [⟨1, t.name, [], v⟩]), e, by simp; omega, fun z hz => hx z (by simp [hz]), fun z hz => hy z (by simp [hz])⟩, by simp; omega, ?_⟩
        refine St.le_mk ?_ ?_ ?_ <;> simp only [LE, EN, Nat.reduceEqDiff, reduceIte, Nat.reduceSub, eTbl, eChg, List.map_append, List.map_cons, List.map_nil, List.length_append, List.length_cons, List.length_nil]
    · have n1 : ¬ cmpRows (keyOf t.pk u) (keyOf t.pk v) < 0 := by omega
      have e : (c ++ [⟨1, t.name, [], v⟩] : List Chg) ++ diffR t (u :: x) y = diffR t a b := by rw [← hap, diffR, if_neg n1, if_pos hgt]; simp
      repeat' (first | ((first | with_reducible refine qV tyOk fun K hK => ?_ | (with_reducible first | refine qG ?_ | refine qH ?_ | refine qP ?_ | refine qGx ?_ | refine qHx ?_ | refine qPx ?_)) <;> simp -dsimp (disch := (first | omega | (simp only [LN]; omega))) only [go_sem, ↓reduceIte, seval]) | ((with_reducible refine hK _ ?_); clear hK K) | (with_reducible first | refine qA ?_ | refine qB ?_ | refine qC ?_ | refine qD ?_ | refine qE ?_ | refine qF ?_ | refine qL ?_ | refine qM ?_ | refine qN ?_ | refine qO ?_ | refine qQ ?_) | refine qR rfl ?_ | (with_reducible refine AI ?_) | ((with_reducible refine qW (T := TT) (b := ?_) ?_ ?_); rotate_left; exact rfl) | (with_reducible first | refine qX ?_ | refine qY ?_ | refine qZ ?_) | (with_reducible first | refine qI ?_ | refine qIx ?_ | fail))
      refine AWP.keep [1, 2, 3, 7] ?_
      simp -dsimp (disch := (first | omega | (simp only [LN]; omega))) only [go_sem, ↓reduceIte, seval, RT]
      refine AWP.drawX tyOk mixed [(0, 6)] [(6, [(7, 1)], [(0, 3)]), (8, [], [(0, 1)]), (9, [], []), (10, [], [])] [6, 8, 9, 10] 8 (by decide) (by kernel_rfl) (by kernel_rfl) (by kernel_rfl) (by kernel_rfl) fun K hK => ?_
      simp only [segx_nil, segx_cons, segs, List.drop_succ_cons, List.drop_zero, List.take_succ_cons, List.take_zero, List.getElem?_cons_zero, List.getElem?_cons_succ, List.cons_append, List.nil_append, List.append_nil] at hK ⊢
      simp -dsimp (disch := (first | omega | (simp only [LN]; omega))) only [go_sem, ↓reduceIte, seval, Option.getD_none, List.getD_cons_zero]
      repeat' (first | ((first | with_reducible refine qV tyOk fun K hK => ?_ | (with_reducible first | refine qG ?_ | refine qH ?_ | refine qP ?_ | refine qGx ?_ | refine qHx ?_ | refine qPx ?_) | ((with_reducible first | refine qS ?_ ?_ | refine qT ?_ ?_ | refine qU ?_ ?_) <;> (intro h; try simp only [NM] at h)) | ((with_reducible refine CallJ.is ?_); (first | refine CallJ.pure (cloneRow_sat v hv) ?_ | ((apply CallJ.lentI); (focus (simp -dsimp (disch := (first | omega | (simp only [LN]; omega))) only [go_sem, ↓reduceIte, seval, Option.getD_none, List.getD_cons_zero]; rfl)); (focus (first | exact (cloneRow_sat v hv)))))) | ((with_reducible refine CallH.is ?_); (first | refine CallH.intro (cloneRow_sat v hv) ?_))) <;> simp -dsimp (disch := (first | omega | (simp only [LN]; omega))) only [go_sem, ↓reduceIte, seval, Option.getD_none, List.getD_cons_zero]) | ((with_reducible refine hK _ ?_); clear hK K) | (with_reducible first | refine qA ?_ | refine qB ?_ | refine qC ?_ | refine qD ?_ | refine qE ?_ | refine qF ?_ | refine qL ?_ | refine qM ?_ | refine qN ?_ | refine qO ?_ | refine qQ ?_) | refine qR rfl ?_ | ((with_reducible refine VCy.intro fun K0 hK0 => ?_)) | ((with_reducible refine VCy.fin ?_); (refine hK0 _ ?_); clear hK0 K0) | (with_reducible first | refine VCy.quiet ?_ | refine VCy.none ?_) | ((with_reducible first | refine VCy.some fun K hK => ?_ | refine VCy.step fun K hK => ?_); simp -dsimp (disch := (first | omega | (simp only [LN]; omega))) only [go_sem, ↓reduceIte, seval, Option.getD_none, List.getD_cons_zero]) | ((with_reducible refine VCy.keep ?_ ?_); focus ((simp -dsimp (disch := (first | omega | (simp only [LN]; omega))) only [go_sem, ↓reduceIte, seval, Stable_cons, Stable_nil, sameA_some, sameA_none, Option.getD_none, List.getD_cons_zero]); first | done | with_reducible assumption | omega | (repeat' with_reducible refine And.intro ?_ ?_) <;> first | with_reducible rfl | with_reducible assumption | omega)) | (with_reducible refine AI ?_) | ((with_reducible refine qW (T := TT) (b := ?_) ?_ ?_); rotate_left; exact rfl) | (with_reducible first | refine qX ?_ | refine qY ?_ | refine qZ ?_) | (with_reducible first | refine qI ?_ | refine qIx ?_ | fail) | ((with_reducible refine yS ?_ ?_) <;> (intro h; try simp only [NM] at h)))
      refine ⟨⟨(u :: x, y, c ++ [⟨1, t.name, [], v⟩]), e, by simp; omega, hx, fun z hz => hy z (by simp [hz])⟩, by simp, ?_⟩
      refine St.le_mk ?_ ?_ ?_ <;> simp only [LE, EN, Nat.reduceEqDiff, reduceIte, Nat.reduceSub, eTbl, eChg, List.map_append, List.map_cons, List.map_nil, List.length_append, List.length_cons, List.length_nil]

section
variable {w : World}
theorem cells_Change : Tryz.prog.cellsOf 42 = 4 := by kernel_rfl
theorem bytes_Change : Tryz.prog.bytesOf 42 = 72 := by kernel_rfl
theorem rd_chg : Rd Tryz.prog w 42 eChg Chg.Ok :=
  (rd_struct4 Tryz.underlying42 ⟨rfl, rfl, rfl, rfl⟩ ⟨cells_int, cells_string, cells_Row, cells_Row⟩ cells_Change rd_I rd_S rd_row rd_row).to (fun p => ⟨p.1, p.2.1, p.2.2.1, p.2.2.2.1⟩) (fun _ => by simp [eChg]) fun _ h => ⟨h.1, h.2.1, h.2.2.1, h.2.2.2.1⟩
theorem rd_chgs : Rd Tryz.prog w 29 (fun l => [eChgs l]) ChgsOk :=
  rd_slice Tryz.underlying29 cells_Change bytes_Change (fun _ => rfl) rd_chg
theorem ChgsOk.fits {l : List Chg} (h : ChgsOk l) : ChgsFit l := by
  obtain ⟨a1, a2⟩ := h
  rw [reachBytes_eq] at a1
  refine ⟨by omega, fun c hc => ?_⟩
  obtain ⟨_, _, ⟨b1, _⟩, ⟨b2, _⟩⟩ := a2 c hc
  rw [reachBytes_eq] at b1 b2
  omega
end
end Go.Bw
