/-
  WHAT IS PROVED HERE, of this translation: containsFK_sat, indexCon_sat, containsCon_sat, idx_cases, scan_none, mx0_nat, mx0_neg, okTbl_of, validateFK_sat, satisfies_sat, validate_sat, bytes_ext, zV_iff, validateCon_sat, scan_all_none, cloneCons_own, cloneCols_own, cloneInts_own, Agree.refl, Agree.put, Agree.putOf, Agree.ghost, wp_agree, eval_agree, wanted_agree, CI.same, Stable.get, VCh.step, Stable_nil, Stable_cons, .., nilBoxR_mk, cloneTable_own, setCell_last, schClone_own, sat_of_calls, args1, erep_int, erep_bool, itoa_sat, formatBool_sat, ERep.whf, VRep.whf, ARep.whf, XRep.whf, RCell.whf, CI.boxGrow, bytesAt_of, byT_own, byT_of, erep_str', ws_call, args2, bld_box, bld_after, strCells_bytes, byteCells_app, arep_ws, writeString_satM, string_satM.
  A theorem that ends in sat says what the function it names returns, whatever the state it is called in; the bounds on its arguments stand ahead of it.
-/
import Derived.Lib.AppendZerosOnto
import Derived.Lib.AppendIntMem
import Derived.Test.YtmmbghbkpjmifaaDoorN20d
set_option linter.unusedSimpArgs false
set_option linter.unusedVariables false

namespace Go.Bw
open Go.Proofs
attribute [local go_sem ↓] VOps_nil VOps_cons VOp_callJ VVal_callH VOps_guard GOn_tt GOn_ff GOn_tf GOn_ft GOn_not GOn_none HOn_none HOn_tt HOn_ff HOn_tf HOn_ft HOn_not VHead_nil VHead_cons VHead_guard VVal_move VVal_assign VVal_pickE pickK_true pickK_false VVal_not VVal_neg negK_int VVal_load loadK_fz loadK_ptr loadK_eptr VVal_fieldAddr VVal_field VVal_indexAddr idxK_sl idxK_ref VVal_index indexK_str VVal_extract VVal_binOp binK_one binK_agg VVal_build VVal_buildSlice VVal_makeFunc VVal_slice sliceK_str sliceK_sl sliceK_nil sliceK_ref VVal_slice3 VVal_nilCheck VVal_convert convKk_int convKk_str VVal_len VVal_max VVal_min VOp_assign assignK_int assignK_bool assignK_str assignK_clo assignK_sl assignK_nil assignK_ref assignK_agg assignK_fz assignK_ptr assignK_eptr assignK_any VOp_box VOp_alloc VOp_store storeK_ptr storeK_eptr VOp_buildSlice VOp_append appK_rr appK_rs appK_rn appK_ri appK_nr appK_ns appK_nn appK_ni appStd_eq VOp_copy copyK_ref VOp_clear clearK_ref VOp_cap VOp_eqNil VOp_move VOp_pick VOp_not VOp_neg VOp_load VOp_fieldAddr VOp_field VOp_indexAddr VOp_index VOp_extract VOp_binTmp VOp_binInt VOp_binStr VOp_binPtr VOp_build VOp_makeFunc VOp_slice VOp_nilCheck VOp_convert VOp_len VOp_max VOp_min mO_some mT_some pk_some pk_none look_cons del_cons
attribute [local go_sem] guardB gOf int_bne beq_true beq_false Bool.not_not gSlot pickK_true pickK_false negK_int loadK_fz loadK_ptr loadK_eptr idxK_sl idxK_ref indexK_str binK_one binK_agg sliceK_str sliceK_sl sliceK_nil sliceK_ref convKk_int convKk_str maxL minL assignK_int assignK_bool assignK_str assignK_clo assignK_sl assignK_nil assignK_ref assignK_agg assignK_fz assignK_ptr assignK_eptr assignK_any nilRow_eq takeRow_eq appended_eq storeK_ptr storeK_eptr store_mk appIn_eq appMk_eq marked_eq ovOut_nil ovOut_cons ovIn_nil ovIn_cons padRow_eq ysC capK_nil capK_ref ioSt_mk outB_nil outR_nil outB outR inB_nil inB_cons inR_nil inR_cons L.kl L.kl0 L.ids L.ids0 Option.getD_some evalO constA mO_some mT_some put_mk putO_some putO_none okD_some okD_none pk_some pk_none look_nil del_nil sput noBox_mk noRow_mk newBox_eq newRow0_eq St.killRow RowC.kill rowMap_mk rowOf ovAll ovAdd ovDel ovGet ovShift dstOf ysOf overlay_nil overlay_nil' overlay A.map V.map L.noPtr L.noPtr0 L.noRow L.noRow0 L.peek L.norm L.flat clos_int clos_bool clos_str clos_sl clos_nil clos_any clos_fz L.clos L.isFz L.kd moveL fieldOff eqCells eqCell eqOp oneOf boolOf intOfA tupOf vOf aggOf isPtrLike isSlice lenKind lenL nL elemTI loadV asV binL intBin intDivL shrL boolBin strBin strAdd ptrNil boundN partCells fillL placesOf setL chunks repL capsOf capL callOf argsOf frzV_int frzV_bool frzV_str frzV_sl frzV_nil frzV_fz frzV_any frzV_own frzV_clo frzV_ref frzV_eptr frzV_ptr frzRow_nil frzRow_ov frzRs_nil frzRs_cons frzCs_nil frzCs_cons frzO_some frzO_none frzN_int frzN_bool frzN_str frzN_sl frzN_nil frzN_any frzN_own List.map_cons List.map_nil List.cons_append List.nil_append List.append_nil List.length_cons List.length_nil List.length_map List.length_append List.headD_cons List.tail_cons List.getElem?_cons_zero List.getElem?_cons_succ List.drop_zero List.drop_succ_cons List.drop_nil List.take_succ_cons List.take_zero List.take_nil List.take_length List.filter_cons List.filter_nil List.elem_cons List.elem_nil List.all_cons List.all_nil Option.bind_some Option.map_some Option.some.injEq bne_self_eq_false beq_self_eq_true if_true if_false Bool.false_eq_true true_and and_true and_self Nat.zero_add Nat.add_zero Nat.zero_le Int.toNat_natCast Int.toNat_zero Option.isSome_some List.getElem?_toArray decide_true decide_false ge_iff_le gt_iff_lt Bool.not_true Bool.not_false Nat.le_refl Bool.and_true Bool.true_and Bool.and_false Bool.false_and eVal eRow eRow1 eRows eInt1 eInts eCol eCols eTbl eTbls eFK eFKs eCon eCons eSch eRel eInst eChg eChgs szOf getD_map_lt wrap_nat wrap_in List.take_of_length_le frz_eVal frz_eRow1 frz_eInt1 frz_eCol frz_eTbl frz_eFK frz_eCon frz_eRel frz_eChg noOwn_nil noOwn_cons noOwn_append L.isOwn noOwn_eVal noOwn_eRow1 noOwn_eInt1 noOwn_eCol noOwn_eTbl noOwn_eFK noOwn_eCon noOwn_eRel noOwn_eChg convK_2 convK_3 convK_5 convK_12 convK_21 convK_57 convK_155 convK_162 convK_166 TT_2 TT_3 TT_4 TT_5 TT_9 TT_12 TT_13 TT_21 TT_22 TT_23 TT_24 TT_25 TT_26 TT_27 TT_28 TT_38 TT_39 TT_40 TT_41 TT_42 TT_45 TT_46 TT_47 TT_48 TT_49 TT_50 TT_51 TT_52 TT_54 TT_55 TT_56 TT_57 TT_65 TT_66 TT_82 TT_83 TT_84 TT_100 TT_101 TT_118 TT_155 TT_162 TT_166 boolTy_4 eqK_46 eqK_50 eqK_52
attribute [local congr] VOps.congr VHead.congr VOp.congr VVal.congr pk.congr assignK.congr appK.congr appStd.congr copyK.congr clearK.congr storeK.congr loadK.congr idxK.congr sliceK.congr indexK.congr binK.congr convKk.congr
theorem containsFK_sat (l : List FK) (f : Nat) (cs : List L) (p : FK → Bool) (hlen : l.length ≤ 140737488355328) (hp : ∀ t ∈ l, Sat Tryd.prog f (.agg (eFK t) :: cs.map .one) (.v (oB (p t)))) :
    Sat Tryd.prog 78 [.one (eFKs l), .one (.clo f cs)] (.v (oB (decide (0 ≤ idx p l 0)))) := by
  refine sat_of_body tyOk Tryd.func78 rfl (by kernel_rfl) ⟨Nat.le_of_ble_eq_true rfl, Nat.le_of_ble_eq_true rfl⟩ fun w0 m0 F0 => ?_
  simp only [Tryd.ntmps78, envOf, Nat.reduceAdd]
  repeat' (first | ((first | with_reducible refine qV tyOk fun K hK => ?_ | (with_reducible first | refine qG ?_ | refine qH ?_ | refine qP ?_ | refine qGx ?_ | refine qHx ?_ | refine qPx ?_) | ((with_reducible first | refine qS ?_ ?_ | refine qT ?_ ?_ | refine qU ?_ ?_) <;> (intro h; try simp only [NM] at h)) | with_reducible refine yD tyOk mixed 6 (by kernel_rfl) fun K hK => ?_ | ((with_reducible refine CallJ.is ?_); (first | refine CallJ.pure (indexFuncFK_sat l _ _ _ hlen hp) ?_ | ((apply CallJ.lentI); (focus (simp -dsimp (disch := (first | omega | (simp only [LN]; omega))) only [go_sem, ↓reduceIte, seval]; rfl)); (focus (first | exact (indexFuncFK_sat l _ _ _ hlen hp)))))) | ((with_reducible refine CallH.is ?_); (first | refine CallH.intro (indexFuncFK_sat l _ _ _ hlen hp) ?_))) <;> simp -dsimp (disch := (first | omega | (simp only [LN]; omega))) only [go_sem, ↓reduceIte, seval]) | ((with_reducible refine hK _ ?_); clear hK K) | (with_reducible first | refine qA ?_ | refine qB ?_ | refine qC ?_ | refine qD ?_ | refine qE ?_ | refine qF ?_ | refine qL ?_ | refine qM ?_ | refine qN ?_ | refine qO ?_ | refine qQ ?_) | refine qR rfl ?_ | (with_reducible refine AI ?_) | ((with_reducible refine qW (T := TT) (b := ?_) ?_ ?_); rotate_left; exact rfl) | (with_reducible first | refine qX ?_ | refine qY ?_ | refine qZ ?_) | (with_reducible first | refine qI ?_ | refine qIx ?_ | fail) | ((with_reducible refine yS ?_ ?_) <;> (intro h; try simp only [NM] at h)))
  simp -dsimp (disch := (first | omega | (simp only [LN]; omega))) only [retQ, Tryd.results78, resVals, cellRV, resOf, St.rest, St.freeze, RT, go_sem, ↓reduceIte, seval]

def conEq (a b : Con) : Bool := sEq a.table b.table && (a.left == b.left) && sEq a.op b.op && (a.right == b.right) && (a.value.kind == b.value.kind) && (a.value.int == b.value.int) && sEq a.value.text b.value.text

set_option maxHeartbeats 4000000 in
theorem indexCon_sat (l : List Con) (c : Con) (hlen : l.length ≤ 140737488355328) :
    Sat Tryd.prog 103 [.one (eCons l), .agg (eCon c)] (.v (oI (idx (conEq c) l 0))) := by
  refine sat_of_body tyOk Tryd.func103 rfl (by kernel_rfl) ⟨Nat.le_of_ble_eq_true rfl, Nat.le_of_ble_eq_true rfl⟩ fun w0 m0 F0 => ?_
  simp only [Tryd.ntmps103, envOf, Nat.reduceAdd]
  repeat' (first | ((first | with_reducible refine qV tyOk fun K hK => ?_ | (with_reducible first | refine qG ?_ | refine qH ?_ | refine qP ?_ | refine qGx ?_ | refine qHx ?_ | refine qPx ?_) | ((with_reducible first | refine qS ?_ ?_ | refine qT ?_ ?_ | refine qU ?_ ?_) <;> (intro h; try simp only [NM] at h)) | with_reducible refine yD tyOk mixed 6 (by kernel_rfl) fun K hK => ?_) <;> simp -dsimp (disch := (first | omega | (simp only [LN]; omega))) only [go_sem, ↓reduceIte, seval]) | ((with_reducible refine hK _ ?_); clear hK K) | (with_reducible first | refine qA ?_ | refine qB ?_ | refine qC ?_ | refine qD ?_ | refine qE ?_ | refine qF ?_ | refine qL ?_ | refine qM ?_ | refine qN ?_ | refine qO ?_ | refine qQ ?_) | refine qR rfl ?_ | (with_reducible refine AI ?_) | ((with_reducible refine qW (T := TT) (b := ?_) ?_ ?_); rotate_left; exact rfl) | (with_reducible first | refine qX ?_ | refine qY ?_ | refine qZ ?_) | (with_reducible first | refine qI ?_ | refine qIx ?_ | fail) | ((with_reducible refine yS ?_ ?_) <;> (intro h; try simp only [NM] at h)))
  refine AWP.loop (ι := {k : Nat // k ≤ l.length ∧ idx (conEq c) (l.drop k) k = idx (conEq c) l 0}) (fun k => ⟨19, [(0, .v (.one (eCons l))), (3, .v (.one (.ptr 3 0))), (7, .v (oI l.length)), (8, .v (oI k.1))], [(3, eCon c)], []⟩) (fun k => l.length - k.1) ⟨0, Nat.zero_le _, rfl⟩ ?_ fun ⟨k, hkl, hi⟩ => ?_
  · refine St.le_mk ?_ ?_ ?_ <;> simp only [LE, EN, Nat.reduceEqDiff, reduceIte, Nat.reduceSub]
  repeat' (first | ((first | with_reducible refine qV tyOk fun K hK => ?_ | (with_reducible first | refine qG ?_ | refine qH ?_ | refine qP ?_ | refine qGx ?_ | refine qHx ?_ | refine qPx ?_) | ((with_reducible first | refine qS ?_ ?_ | refine qT ?_ ?_ | refine qU ?_ ?_) <;> (intro h; try simp only [NM] at h)) | with_reducible refine yD tyOk mixed 6 (by kernel_rfl) fun K hK => ?_) <;> simp -dsimp (disch := (first | omega | (simp only [LN]; omega))) only [go_sem, ↓reduceIte, seval]) | ((with_reducible refine hK _ ?_); clear hK K) | (with_reducible first | refine qA ?_ | refine qB ?_ | refine qC ?_ | refine qD ?_ | refine qE ?_ | refine qF ?_ | refine qL ?_ | refine qM ?_ | refine qN ?_ | refine qO ?_ | refine qQ ?_) | refine qR rfl ?_ | (with_reducible refine AI ?_) | ((with_reducible refine qW (T := TT) (b := ?_) ?_ ?_); rotate_left; exact rfl) | (with_reducible first | refine qX ?_ | refine qY ?_ | refine qZ ?_) | (with_reducible first | refine qI ?_ | refine qIx ?_ | fail) | ((with_reducible refine yS ?_ ?_) <;> (intro h; try simp only [NM] at h)))
  all_goals first
    | (have hk : ¬ k < l.length := by omega
       simp -dsimp (disch := (first | omega | (simp only [LN]; omega))) only [retQ, Tryd.results103, resVals, cellRV, resOf, St.rest, St.freeze, RT, go_sem, ↓reduceIte, seval]
       rw [← hi, idx_end hk]
       done)
    | (have hk : k < l.length := by omega
       have he : conEq c l[k] = true := by simp_all [conEq, sEq]
       simp -dsimp (disch := (first | omega | (simp only [LN]; omega))) only [retQ, Tryd.results103, resVals, cellRV, resOf, St.rest, St.freeze, RT, go_sem, ↓reduceIte, seval]
       rw [← hi, idx_hit hk he]
       done)
    | (have hk : k < l.length := by omega
       have he : conEq c l[k] = false := by simp_all [conEq, sEq]
       refine ⟨⟨k + 1, by omega, by rw [idx_step hk he, hi]⟩, by simp only; omega, ?_⟩
       refine St.le_mk ?_ ?_ ?_ <;> simp only [LE, EN, Nat.reduceEqDiff, reduceIte, Nat.reduceSub]
       )

theorem containsCon_sat (l : List Con) (c : Con) (hlen : l.length ≤ 140737488355328) :
    Sat Tryd.prog 82 [.one (eCons l), .agg (eCon c)] (.v (oB (decide (0 ≤ idx (conEq c) l 0)))) := by
  refine sat_of_body tyOk Tryd.func82 rfl (by kernel_rfl) ⟨Nat.le_of_ble_eq_true rfl, Nat.le_of_ble_eq_true rfl⟩ fun w0 m0 F0 => ?_
  simp only [Tryd.ntmps82, envOf, Nat.reduceAdd]
  repeat' (first | ((first | with_reducible refine qV tyOk fun K hK => ?_ | (with_reducible first | refine qG ?_ | refine qH ?_ | refine qP ?_ | refine qGx ?_ | refine qHx ?_ | refine qPx ?_) | ((with_reducible first | refine qS ?_ ?_ | refine qT ?_ ?_ | refine qU ?_ ?_) <;> (intro h; try simp only [NM] at h)) | with_reducible refine yD tyOk mixed 6 (by kernel_rfl) fun K hK => ?_ | ((with_reducible refine CallJ.is ?_); (first | refine CallJ.pure (indexCon_sat l _ hlen) ?_ | ((apply CallJ.lentI); (focus (simp -dsimp (disch := (first | omega | (simp only [LN]; omega))) only [go_sem, ↓reduceIte, seval]; rfl)); (focus (first | exact (indexCon_sat l _ hlen)))))) | ((with_reducible refine CallH.is ?_); (first | refine CallH.intro (indexCon_sat l _ hlen) ?_))) <;> simp -dsimp (disch := (first | omega | (simp only [LN]; omega))) only [go_sem, ↓reduceIte, seval]) | ((with_reducible refine hK _ ?_); clear hK K) | (with_reducible first | refine qA ?_ | refine qB ?_ | refine qC ?_ | refine qD ?_ | refine qE ?_ | refine qF ?_ | refine qL ?_ | refine qM ?_ | refine qN ?_ | refine qO ?_ | refine qQ ?_) | refine qR rfl ?_ | (with_reducible refine AI ?_) | ((with_reducible refine qW (T := TT) (b := ?_) ?_ ?_); rotate_left; exact rfl) | (with_reducible first | refine qX ?_ | refine qY ?_ | refine qZ ?_) | (with_reducible first | refine qI ?_ | refine qIx ?_ | fail) | ((with_reducible refine yS ?_ ?_) <;> (intro h; try simp only [NM] at h)))
  simp -dsimp (disch := (first | omega | (simp only [LN]; omega))) only [retQ, Tryd.results82, resVals, cellRV, resOf, St.rest, St.freeze, RT, go_sem, ↓reduceIte, seval]

theorem idx_cases {α : Type} (p : α → Bool) : ∀ (l : List α) (k : Nat), (idx p l k = -1 ∧ ∀ x ∈ l, p x = false) ∨ ∃ j, ∃ h : j < l.length, idx p l k = ((k + j : Nat) : Int) ∧ p l[j] = true ∧ ∀ i, ∀ hi : i < j, p (l[i]'(by omega)) = false
  | [], k => .inl ⟨rfl, fun x hx => by cases hx⟩
  | x :: l, k => by
    cases hx : p x with
    | true => exact .inr ⟨0, by simp, by simp [idx, hx], by simpa using hx, fun i hi => by omega⟩
    | false =>
      rcases idx_cases p l (k + 1) with ⟨h1, h2⟩ | ⟨j, hj, h1, h2, h3⟩
      · refine .inl ⟨by simp [idx, hx, h1], fun y hy => ?_⟩
        rcases List.mem_cons.1 hy with rfl | hy
        · exact hx
        · exact h2 y hy
      · refine .inr ⟨j + 1, by simpa using hj, ?_, by simpa using h2, fun i hi => ?_⟩
        · simp only [idx, hx, Bool.false_eq_true, if_false, h1]
          omega
        · cases i with
          | zero => simpa using hx
          | succ i => simpa using h3 i (by omega)

theorem scan_none {α : Type} {f : Nat → α → Option Int} : ∀ {l : List α} {k : Nat}, scan f l k = none → ∀ j, ∀ h : j < l.length, f (k + j) l[j] = none
  | [], k, _, j, h => by simp at h
  | x :: l, k, hs, j, h => by
    unfold scan at hs
    split at hs
    · cases hs
    · rename_i hx
      cases j with
      | zero => simpa using hx
      | succ j =>
        have := scan_none hs j (by simpa using h)
        rw [show k + (j + 1) = k + 1 + j by omega]
        simpa using this

theorem mx0_nat (i : Nat) : mx0 (i : Int) = i := by simp [mx0]; omega
theorem mx0_neg : mx0 (-1) = 0 := rfl

structure OkTbl (t : Tbl) : Prop where
  name : validName t.name = true
  cols0 : t.cols.length ≠ 0
  cols6 : t.cols.length ≤ 6
  col : ∀ k, ∀ h : k < t.cols.length, validName t.cols[k].name = true ∧ (k : Int) ≤ mx0 (colAt t.cols t.cols[k].name) ∧ 1 ≤ t.cols[k].kind ∧ t.cols[k].kind ≤ 3
  key : ∀ k, ∀ h : k < t.pk.length, 0 ≤ t.pk[k] ∧ t.pk[k] < t.cols.length ∧ (t.cols.getD t.pk[k].toNat zCol).nullable = false ∧ ∀ h0 : 0 < k, t.pk[k - 1] < t.pk[k]
  pk0 : t.pk.length ≠ 0

theorem okTbl_of {t : Tbl} (h : tblE t = 0) : OkTbl t := by
  unfold tblE at h
  split at h
  · cases h
  split at h
  · cases h
  split at h
  · cases h
  rename_i h1 h2 h3
  cases hc : scan (colE t) t.cols 0 with
  | some e =>
    rw [hc] at h
    simp only at h
    subst h
    exfalso
    -- no code of a column is 0
    have : ∀ (l : List Col) (k : Nat) (e : Int), scan (colE t) l k = some e → e ≠ 0 := by
      intro l
      induction l with
      | nil => intro k e he; cases he
      | cons x l ih =>
        intro k e he
        unfold scan at he
        split at he
        · rename_i e' he'
          injection he with he
          subst he
          unfold colE at he'
          split at he'
          · injection he' with he'; omega
          split at he'
          · injection he' with he'; omega
          split at he'
          · injection he' with he'; omega
          · cases he'
        · exact ih _ _ he
    exact this _ _ _ hc rfl
  | none =>
    rw [hc] at h
    simp only at h
    cases hp : scan (pkE t) t.pk 0 with
    | some e =>
      rw [hp] at h
      simp only at h
      subst h
      exfalso
      have : ∀ (l : List Int) (k : Nat) (e : Int), scan (pkE t) l k = some e → e ≠ 0 := by
        intro l
        induction l with
        | nil => intro k e he; cases he
        | cons x l ih =>
          intro k e he
          unfold scan at he
          split at he
          · rename_i e' he'
            injection he with he
            subst he
            unfold pkE at he'
            split at he'
            · injection he' with he'; omega
            · cases he'
          · exact ih _ _ he
      exact this _ _ _ hp rfl
    | none =>
      rw [hp] at h
      simp only at h
      split at h
      · cases h
      rename_i h4
      refine ⟨by simpa using h1, h2, by omega, fun k hk => ?_, fun k hk => ?_, h4⟩
      · have := scan_none hc k hk
        simp only [Nat.zero_add, colE] at this
        split at this
        · cases this
        split at this
        · cases this
        split at this
        · cases this
        rename_i a b c
        exact ⟨by simpa using a, by omega, by omega, by omega⟩
      · have := scan_none hp k hk
        simp only [Nat.zero_add, pkE] at this
        split at this
        · cases this
        rename_i a
        simp only [not_or, Int.not_lt, Int.not_le, Bool.not_eq_true, not_and] at a
        refine ⟨a.1, a.2.1, a.2.2.1, fun h0 => ?_⟩
        have := a.2.2.2 (by omega)
        rw [show ((k : Int) - 1).toNat = k - 1 by omega, List.getD_eq_getElem?_getD, List.getElem?_eq_getElem (by omega)] at this
        simpa using this

def zTbl : Tbl := ⟨ByteArray.empty, [], []⟩

def fkColE (t r : Tbl) (j : Nat) (c : Int) : Option Int :=
  if c < 0 ∨ (t.cols.length : Int) ≤ c then some 3 else if (t.cols.getD c.toNat zCol).kind ≠ (r.cols.getD (r.pk.getD j 0).toNat zCol).kind then some 7 else none
def fkTE (fk : FK) (t r : Tbl) : Int := if fk.cols.length ≠ r.pk.length then 3 else match scan (fkColE t r) fk.cols 0 with | some e => e | none => 0
def fkE (s : Sch) (fk : FK) : Int :=
  if tblAt s.tables fk.table < 0 ∨ tblAt s.tables fk.ref < 0 then 4 else fkTE fk (s.tables.getD (tblAt s.tables fk.table).toNat zTbl) (s.tables.getD (tblAt s.tables fk.ref).toNat zTbl)

set_option maxHeartbeats 8000000 in
theorem validateFK_sat (s : Sch) (fk : FK) (h1 : s.tables.length ≤ 140737488355328) (h2 : fk.cols.length ≤ 140737488355328) (hok : ∀ t ∈ s.tables, OkTbl t) :
    Sat Tryd.prog 77 [.agg (eSch s), .agg (eFK fk)] (.v (oI (fkE s fk))) := by
  rcases idx_cases (fun t => sEq t.name fk.table) s.tables 0 with ⟨e1, _⟩ | ⟨i, hi, e1, _⟩
  · have e1 : tblAt s.tables fk.table = -1 := e1
    refine sat_of_body tyOk Tryd.func77 rfl (by kernel_rfl) ⟨Nat.le_of_ble_eq_true rfl, Nat.le_of_ble_eq_true rfl⟩ fun w0 m0 F0 => ?_
    simp only [Tryd.ntmps77, envOf, Nat.reduceAdd]
    repeat' (first | ((first | with_reducible refine qV tyOk fun K hK => ?_ | (with_reducible first | refine qG ?_ | refine qH ?_ | refine qP ?_ | refine qGx ?_ | refine qHx ?_ | refine qPx ?_) | ((with_reducible first | refine qS ?_ ?_ | refine qT ?_ ?_ | refine qU ?_ ?_) <;> (intro h; try simp only [NM] at h)) | ((with_reducible refine CallJ.is ?_); (first | refine CallJ.pure (findTable_sat _ _ h1) ?_ | ((apply CallJ.lentI); (focus (simp -dsimp (disch := (first | omega | (simp only [LN]; omega))) only [go_sem, ↓reduceIte, seval, e1, mx0_neg]; rfl)); (focus (first | exact (findTable_sat _ _ h1)))))) | ((with_reducible refine CallH.is ?_); (first | refine CallH.intro (findTable_sat _ _ h1) ?_))) <;> simp -dsimp (disch := (first | omega | (simp only [LN]; omega))) only [go_sem, ↓reduceIte, seval, e1, mx0_neg]) | ((with_reducible refine hK _ ?_); clear hK K) | (with_reducible first | refine qA ?_ | refine qB ?_ | refine qC ?_ | refine qD ?_ | refine qE ?_ | refine qF ?_ | refine qL ?_ | refine qM ?_ | refine qN ?_ | refine qO ?_ | refine qQ ?_) | refine qR rfl ?_ | (with_reducible refine AI ?_) | ((with_reducible refine qW (T := TT) (b := ?_) ?_ ?_); rotate_left; exact rfl) | (with_reducible first | refine qX ?_ | refine qY ?_ | refine qZ ?_) | (with_reducible first | refine qI ?_ | refine qIx ?_ | fail) | ((with_reducible refine yS ?_ ?_) <;> (intro h; try simp only [NM] at h)))
    simp -dsimp (disch := (first | omega | (simp only [LN]; omega))) only [retQ, Tryd.results77, resVals, cellRV, resOf, St.rest, St.freeze, RT, go_sem, ↓reduceIte, seval]
    simp [fkE, e1]
  have e1 : tblAt s.tables fk.table = (i : Int) := by unfold tblAt; simpa using e1
  rcases idx_cases (fun t => sEq t.name fk.ref) s.tables 0 with ⟨e2, _⟩ | ⟨q, hq, e2, _⟩
  · have e2 : tblAt s.tables fk.ref = -1 := e2
    refine sat_of_body tyOk Tryd.func77 rfl (by kernel_rfl) ⟨Nat.le_of_ble_eq_true rfl, Nat.le_of_ble_eq_true rfl⟩ fun w0 m0 F0 => ?_
    simp only [Tryd.ntmps77, envOf, Nat.reduceAdd]
    repeat' (first | ((first | with_reducible refine qV tyOk fun K hK => ?_ | (with_reducible first | refine qG ?_ | refine qH ?_ | refine qP ?_ | refine qGx ?_ | refine qHx ?_ | refine qPx ?_) | ((with_reducible first | refine qS ?_ ?_ | refine qT ?_ ?_ | refine qU ?_ ?_) <;> (intro h; try simp only [NM] at h)) | ((with_reducible refine CallJ.is ?_); (first | refine CallJ.pure (findTable_sat _ _ h1) ?_ | ((apply CallJ.lentI); (focus (simp -dsimp (disch := (first | omega | (simp only [LN]; omega))) only [go_sem, ↓reduceIte, seval, e1, e2, mx0_neg, mx0_nat]; rfl)); (focus (first | exact (findTable_sat _ _ h1)))))) | ((with_reducible refine CallH.is ?_); (first | refine CallH.intro (findTable_sat _ _ h1) ?_))) <;> simp -dsimp (disch := (first | omega | (simp only [LN]; omega))) only [go_sem, ↓reduceIte, seval, e1, e2, mx0_neg, mx0_nat]) | ((with_reducible refine hK _ ?_); clear hK K) | (with_reducible first | refine qA ?_ | refine qB ?_ | refine qC ?_ | refine qD ?_ | refine qE ?_ | refine qF ?_ | refine qL ?_ | refine qM ?_ | refine qN ?_ | refine qO ?_ | refine qQ ?_) | refine qR rfl ?_ | (with_reducible refine AI ?_) | ((with_reducible refine qW (T := TT) (b := ?_) ?_ ?_); rotate_left; exact rfl) | (with_reducible first | refine qX ?_ | refine qY ?_ | refine qZ ?_) | (with_reducible first | refine qI ?_ | refine qIx ?_ | fail) | ((with_reducible refine yS ?_ ?_) <;> (intro h; try simp only [NM] at h)))
    simp -dsimp (disch := (first | omega | (simp only [LN]; omega))) only [retQ, Tryd.results77, resVals, cellRV, resOf, St.rest, St.freeze, RT, go_sem, ↓reduceIte, seval]
    simp [fkE, e2]
  have e2 : tblAt s.tables fk.ref = (q : Int) := by unfold tblAt; simpa using e2
  have g1 : s.tables.getD i zTbl = s.tables[i] := by simp [List.getD, hi]
  have g2 : s.tables.getD q zTbl = s.tables[q] := by simp [List.getD, hq]
  have spec : fkE s fk = fkTE fk s.tables[i] s.tables[q] := by
    simp only [fkE, e1, e2, Int.toNat_natCast, g1, g2]
    rw [if_neg (by omega)]
  have okr := hok _ (List.getElem_mem hq)
  rw [spec]
  refine sat_of_body tyOk Tryd.func77 rfl (by kernel_rfl) ⟨Nat.le_of_ble_eq_true rfl, Nat.le_of_ble_eq_true rfl⟩ fun w0 m0 F0 => ?_
  simp only [Tryd.ntmps77, envOf, Nat.reduceAdd]
  repeat' (first | ((first | with_reducible refine qV tyOk fun K hK => ?_ | (with_reducible first | refine qG ?_ | refine qH ?_ | refine qP ?_ | refine qGx ?_ | refine qHx ?_ | refine qPx ?_) | ((with_reducible first | refine qS ?_ ?_ | refine qT ?_ ?_ | refine qU ?_ ?_) <;> (intro h; try simp only [NM] at h)) | ((with_reducible refine CallJ.is ?_); (first | refine CallJ.pure (findTable_sat _ _ h1) ?_ | ((apply CallJ.lentI); (focus (simp -dsimp (disch := (first | omega | (simp only [LN]; omega))) only [go_sem, ↓reduceIte, seval, e1, e2, mx0_neg, mx0_nat]; rfl)); (focus (first | exact (findTable_sat _ _ h1)))))) | ((with_reducible refine CallH.is ?_); (first | refine CallH.intro (findTable_sat _ _ h1) ?_))) <;> simp -dsimp (disch := (first | omega | (simp only [LN]; omega))) only [go_sem, ↓reduceIte, seval, e1, e2, mx0_neg, mx0_nat]) | ((with_reducible refine hK _ ?_); clear hK K) | (with_reducible first | refine qA ?_ | refine qB ?_ | refine qC ?_ | refine qD ?_ | refine qE ?_ | refine qF ?_ | refine qL ?_ | refine qM ?_ | refine qN ?_ | refine qO ?_ | refine qQ ?_) | refine qR rfl ?_ | (with_reducible refine AI ?_) | ((with_reducible refine qW (T := TT) (b := ?_) ?_ ?_); rotate_left; exact rfl) | (with_reducible first | refine qX ?_ | refine qY ?_ | refine qZ ?_) | (with_reducible first | refine qI ?_ | refine qIx ?_ | fail) | ((with_reducible refine yS ?_ ?_) <;> (intro h; try simp only [NM] at h)))
  refine AWP.drawF tyOk mixed 10 2 8 (bx := [(9, [.str ByteArray.empty, .nil 3, .nil 1]), (10, [.str ByteArray.empty, .nil 3, .nil 1])]) (by kernel_rfl) rfl rfl rfl rfl rfl rfl (fun p hp q hq => ?_) (fun p hp => ?_) fun K2 hK2 => ?_
  · simp only [List.mem_cons, List.not_mem_nil, or_false] at hp hq
    (rcases hp with rfl | rfl) <;> (rcases hq with rfl | rfl) <;> rfl
  · simp only [List.mem_cons, List.not_mem_nil, or_false] at hp
    (rcases hp with rfl | rfl) <;> (simp -dsimp (disch := (first | omega | (simp only [LN]; omega))) only [go_sem, ↓reduceIte, seval])
  simp -dsimp (disch := (first | omega | (simp only [LN]; omega))) only [go_sem, ↓reduceIte, seval]
  repeat (with_reducible refine AI ?_)
  refine hK2 _ (fun p hp => ?_) fun K hK => ?_
  · simp only [List.mem_cons, List.not_mem_nil, or_false] at hp
    (rcases hp with rfl | rfl) <;> (simp -dsimp (disch := (first | omega | (simp only [LN]; omega))) only [go_sem, ↓reduceIte, seval])
  clear hK2 K2
  simp -dsimp (disch := (first | omega | (simp only [LN]; omega))) only [go_sem, ↓reduceIte, seval]
  repeat (with_reducible refine AI ?_)
  refine hK _ ?_
  clear hK K
  repeat' (first | ((first | with_reducible refine qV tyOk fun K hK => ?_ | (with_reducible first | refine qG ?_ | refine qH ?_ | refine qP ?_ | refine qGx ?_ | refine qHx ?_ | refine qPx ?_) | ((with_reducible first | refine qS ?_ ?_ | refine qT ?_ ?_ | refine qU ?_ ?_) <;> (intro h; try simp only [NM] at h)) | with_reducible refine yD tyOk mixed 6 (by kernel_rfl) fun K hK => ?_) <;> simp -dsimp (disch := (first | omega | (simp only [LN]; omega))) only [go_sem, ↓reduceIte, seval]) | ((with_reducible refine hK _ ?_); clear hK K) | (with_reducible first | refine qA ?_ | refine qB ?_ | refine qC ?_ | refine qD ?_ | refine qE ?_ | refine qF ?_ | refine qL ?_ | refine qM ?_ | refine qN ?_ | refine qO ?_ | refine qQ ?_) | refine qR rfl ?_ | (with_reducible refine AI ?_) | ((with_reducible refine qW (T := TT) (b := ?_) ?_ ?_); rotate_left; exact rfl) | (with_reducible first | refine qX ?_ | refine qY ?_ | refine qZ ?_) | (with_reducible first | refine qI ?_ | refine qIx ?_ | fail) | ((with_reducible refine yS ?_ ?_) <;> (intro h; try simp only [NM] at h)))
  rotate_left
  · simp -dsimp (disch := (first | omega | (simp only [LN]; omega))) only [retQ, Tryd.results77, resVals, cellRV, resOf, St.rest, St.freeze, RT, go_sem, ↓reduceIte, seval]
    rename_i hl
    have hl' : ¬ fk.cols.length = s.tables[q].pk.length := by omega
    simp [fkTE, hl']
  have hl : fk.cols.length = s.tables[q].pk.length := by omega
  have spec : fkTE fk s.tables[i] s.tables[q] = match scan (fkColE s.tables[i] s.tables[q]) fk.cols 0 with | some e => e | none => 0 := by simp [fkTE, hl]
  rw [spec]
  refine AWP.loop (ι := {k : Nat // k ≤ fk.cols.length ∧ scan (fkColE s.tables[i] s.tables[q]) (fk.cols.drop k) k = scan (fkColE s.tables[i] s.tables[q]) fk.cols 0}) (fun k => ⟨85, [(9, .v (.one (.ptr 9 0))), (10, .v (.one (.ptr 10 0))), (51, .v (.one (eInts fk.cols))), (52, .v (oI fk.cols.length)), (53, .v (oI k.1))], [(9, eTbl s.tables[i]), (10, eTbl s.tables[q])], []⟩) (fun k => fk.cols.length - k.1) ⟨0, Nat.zero_le _, rfl⟩ ?_ fun ⟨k, hkl, hj⟩ => ?_
  · refine St.le_mk ?_ ?_ ?_ <;> simp only [LE, EN, Nat.reduceEqDiff, reduceIte, Nat.reduceSub, eTbl]
  rcases Nat.lt_or_ge k fk.cols.length with hc | hc
  · have hcp : k < s.tables[q].pk.length := by omega
    obtain ⟨p1, p2, -, -⟩ := okr.key k hcp
    repeat' (first | ((first | with_reducible refine qV tyOk fun K hK => ?_ | (with_reducible first | refine qG ?_ | refine qH ?_ | refine qP ?_ | refine qGx ?_ | refine qHx ?_ | refine qPx ?_) | ((with_reducible first | refine qS ?_ ?_ | refine qT ?_ ?_ | refine qU ?_ ?_) <;> (intro h; try simp only [NM] at h)) | with_reducible refine yD tyOk mixed 6 (by kernel_rfl) fun K hK => ?_) <;> simp -dsimp (disch := (first | omega | (simp only [LN]; omega))) only [go_sem, ↓reduceIte, seval]) | ((with_reducible refine hK _ ?_); clear hK K) | (with_reducible first | refine qA ?_ | refine qB ?_ | refine qC ?_ | refine qD ?_ | refine qE ?_ | refine qF ?_ | refine qL ?_ | refine qM ?_ | refine qN ?_ | refine qO ?_ | refine qQ ?_) | refine qR rfl ?_ | (with_reducible refine AI ?_) | ((with_reducible refine qW (T := TT) (b := ?_) ?_ ?_); rotate_left; exact rfl) | (with_reducible first | refine qX ?_ | refine qY ?_ | refine qZ ?_) | (with_reducible first | refine qI ?_ | refine qIx ?_ | fail) | ((with_reducible refine yS ?_ ?_) <;> (intro h; try simp only [NM] at h)))
    all_goals
      first
        | (have hs : (fkColE s.tables[i] s.tables[q]) k fk.cols[k] = none := by
             (simp (disch := omega) only [fkColE, getD_lt]; (repeat' split) <;> first | rfl | with_reducible assumption | omega | (exfalso; omega) | (simp_all; done) | (simp_all; omega))
           refine ⟨⟨k + 1, by omega, by rw [scan_step (by omega) hs, hj]⟩, by simp only; omega, ?_⟩
           refine St.le_mk ?_ ?_ ?_ <;> simp only [LE, EN, Nat.reduceEqDiff, reduceIte, Nat.reduceSub, eTbl]
           done)
        | (simp -dsimp (disch := (first | omega | (simp only [LN]; omega))) only [retQ, Tryd.results77, resVals, cellRV, resOf, St.rest, St.freeze, RT, go_sem, ↓reduceIte, seval]
           rw [scan_leaf (by omega) ?_ hj]
           all_goals first | with_reducible rfl | ((simp (disch := omega) only [fkColE, getD_lt]; (repeat' split) <;> first | rfl | with_reducible assumption | omega | (exfalso; omega) | (simp_all; done) | (simp_all; omega)); done) | rfl
           done)
  · rw [scan_end (by omega)] at hj
    repeat' (first | ((first | with_reducible refine qV tyOk fun K hK => ?_ | (with_reducible first | refine qG ?_ | refine qH ?_ | refine qP ?_ | refine qGx ?_ | refine qHx ?_ | refine qPx ?_) | ((with_reducible first | refine qS ?_ ?_ | refine qT ?_ ?_ | refine qU ?_ ?_) <;> (intro h; try simp only [NM] at h)) | with_reducible refine yD tyOk mixed 6 (by kernel_rfl) fun K hK => ?_) <;> simp -dsimp (disch := (first | omega | (simp only [LN]; omega))) only [go_sem, ↓reduceIte, seval]) | ((with_reducible refine hK _ ?_); clear hK K) | (with_reducible first | refine qA ?_ | refine qB ?_ | refine qC ?_ | refine qD ?_ | refine qE ?_ | refine qF ?_ | refine qL ?_ | refine qM ?_ | refine qN ?_ | refine qO ?_ | refine qQ ?_) | refine qR rfl ?_ | (with_reducible refine AI ?_) | ((with_reducible refine qW (T := TT) (b := ?_) ?_ ?_); rotate_left; exact rfl) | (with_reducible first | refine qX ?_ | refine qY ?_ | refine qZ ?_) | (with_reducible first | refine qI ?_ | refine qIx ?_ | fail) | ((with_reducible refine yS ?_ ?_) <;> (intro h; try simp only [NM] at h)))
    simp -dsimp (disch := (first | omega | (simp only [LN]; omega))) only [retQ, Tryd.results77, resVals, cellRV, resOf, St.rest, St.freeze, RT, go_sem, ↓reduceIte, seval]
    rw [← hj]

set_option maxHeartbeats 4000000 in
theorem satisfies_sat (a b : Val) (op : ByteArray) : Sat Tryd.prog 101 [.agg (eVal a), oS op, .agg (eVal b)] (.tup [oB (satV a op b), oI (satE op)]) := by
  refine sat_of_body tyOk Tryd.func101 rfl (by kernel_rfl) ⟨Nat.le_of_ble_eq_true rfl, Nat.le_of_ble_eq_true rfl⟩ fun w0 m0 F0 => ?_
  simp only [Tryd.ntmps101, envOf, Nat.reduceAdd]
  repeat' (first | ((first | with_reducible refine qV tyOk fun K hK => ?_ | (with_reducible first | refine qG ?_ | refine qH ?_ | refine qP ?_ | refine qGx ?_ | refine qHx ?_ | refine qPx ?_) | ((with_reducible first | refine qS ?_ ?_ | refine qT ?_ ?_ | refine qU ?_ ?_) <;> (intro h; try simp only [NM] at h)) | with_reducible refine yD tyOk mixed 6 (by kernel_rfl) fun K hK => ?_ | ((with_reducible refine CallJ.is ?_); (first | refine CallJ.pure (compare_sat _ _) ?_ | ((apply CallJ.lentI); (focus (simp -dsimp (disch := (first | omega | (simp only [LN]; omega))) only [go_sem, ↓reduceIte, seval]; rfl)); (focus (first | exact (compare_sat _ _)))))) | ((with_reducible refine CallH.is ?_); (first | refine CallH.intro (compare_sat _ _) ?_))) <;> simp -dsimp (disch := (first | omega | (simp only [LN]; omega))) only [go_sem, ↓reduceIte, seval]) | ((with_reducible refine hK _ ?_); clear hK K) | (with_reducible first | refine qA ?_ | refine qB ?_ | refine qC ?_ | refine qD ?_ | refine qE ?_ | refine qF ?_ | refine qL ?_ | refine qM ?_ | refine qN ?_ | refine qO ?_ | refine qQ ?_) | refine qR rfl ?_ | (with_reducible refine AI ?_) | ((with_reducible refine qW (T := TT) (b := ?_) ?_ ?_); rotate_left; exact rfl) | (with_reducible first | refine qX ?_ | refine qY ?_ | refine qZ ?_) | (with_reducible first | refine qI ?_ | refine qIx ?_ | fail) | ((with_reducible refine yS ?_ ?_) <;> (intro h; try simp only [NM] at h)))
  all_goals try simp -dsimp (disch := (first | omega | (simp only [LN]; omega))) only [retQ, Tryd.results101, resVals, cellRV, resOf, St.rest, St.freeze, RT, go_sem, ↓reduceIte, seval]
  all_goals try simp_all [satV, satE, sEq, opOk, opEq, opLt, opLe]

set_option maxHeartbeats 4000000 in
theorem validate_sat (v : Val) : Sat Tryd.prog 102 [.agg (eVal v)] (.v (oI (valE v))) := by
  refine sat_of_body tyOk Tryd.func102 rfl (by kernel_rfl) ⟨Nat.le_of_ble_eq_true rfl, Nat.le_of_ble_eq_true rfl⟩ fun w0 m0 F0 => ?_
  simp only [Tryd.ntmps102, envOf, Nat.reduceAdd]
  repeat' (first | ((first | with_reducible refine qV tyOk fun K hK => ?_ | (with_reducible first | refine qG ?_ | refine qH ?_ | refine qP ?_ | refine qGx ?_ | refine qHx ?_ | refine qPx ?_) | ((with_reducible first | refine qS ?_ ?_ | refine qT ?_ ?_ | refine qU ?_ ?_) <;> (intro h; try simp only [NM] at h)) | with_reducible refine yD tyOk mixed 6 (by kernel_rfl) fun K hK => ?_) <;> simp -dsimp (disch := (first | omega | (simp only [LN]; omega))) only [go_sem, ↓reduceIte, seval]) | ((with_reducible refine hK _ ?_); clear hK K) | (with_reducible first | refine qA ?_ | refine qB ?_ | refine qC ?_ | refine qD ?_ | refine qE ?_ | refine qF ?_ | refine qL ?_ | refine qM ?_ | refine qN ?_ | refine qO ?_ | refine qQ ?_) | refine qR rfl ?_ | (with_reducible refine AI ?_) | ((with_reducible refine qW (T := TT) (b := ?_) ?_ ?_); rotate_left; exact rfl) | (with_reducible first | refine qX ?_ | refine qY ?_ | refine qZ ?_) | (with_reducible first | refine qI ?_ | refine qIx ?_ | fail) | ((with_reducible refine yS ?_ ?_) <;> (intro h; try simp only [NM] at h)))
  all_goals simp -dsimp (disch := (first | omega | (simp only [LN]; omega))) only [retQ, Tryd.results102, resVals, cellRV, resOf, St.rest, St.freeze, RT, go_sem, ↓reduceIte, seval]
  all_goals simp_all [valE, sEq]
  all_goals omega

def conE (s : Sch) (c : Con) : Int :=
  if tblAt s.tables c.table < 0 then 4 else
  let cols := (s.tables.getD (tblAt s.tables c.table).toNat zTbl).cols
  if c.left < 0 ∨ (cols.length : Int) ≤ c.left ∨ opOk c.op = false ∨ c.right < -1 ∨ (cols.length : Int) ≤ c.right ∨ (0 ≤ c.right ∧ c.value ≠ zV) then 3
  else if 0 ≤ c.right then (if (cols.getD c.left.toNat zCol).kind ≠ (cols.getD c.right.toNat zCol).kind then 7 else 0)
  else if c.value.kind ≠ (cols.getD c.left.toNat zCol).kind then 7 else valE c.value

theorem bytes_ext {a b : ByteArray} (h : a.toList = b.toList) : a = b := by
  rw [ByteArray.toList_eq, ByteArray.toList_eq] at h
  obtain ⟨⟨x⟩⟩ := a
  obtain ⟨⟨y⟩⟩ := b
  have h : x = y := h
  rw [h]
theorem zV_iff {v : Val} : v = zV ↔ v.kind = 0 ∧ v.int = 0 ∧ v.text.toList = ByteArray.empty.toList := by
  constructor
  · rintro rfl
    exact ⟨rfl, rfl, rfl⟩
  · rintro ⟨a, b, c⟩
    cases v
    simp only at a b c
    subst a b
    rw [bytes_ext c]
    rfl
set_option maxHeartbeats 8000000 in
theorem validateCon_sat (s : Sch) (c : Con) (h1 : s.tables.length ≤ 140737488355328) (h2 : ∀ t ∈ s.tables, t.cols.length ≤ 140737488355328) :
    Sat Tryd.prog 81 [.agg (eSch s), .agg (eCon c)] (.v (oI (conE s c))) := by
  rcases idx_cases (fun t => sEq t.name c.table) s.tables 0 with ⟨e1, _⟩ | ⟨i, hi, e1, _⟩
  · have e1 : tblAt s.tables c.table = -1 := e1
    refine sat_of_body tyOk Tryd.func81 rfl (by kernel_rfl) ⟨Nat.le_of_ble_eq_true rfl, Nat.le_of_ble_eq_true rfl⟩ fun w0 m0 F0 => ?_
    simp only [Tryd.ntmps81, envOf, Nat.reduceAdd]
    repeat' (first | ((first | with_reducible refine qV tyOk fun K hK => ?_ | (with_reducible first | refine qG ?_ | refine qH ?_ | refine qP ?_ | refine qGx ?_ | refine qHx ?_ | refine qPx ?_) | ((with_reducible first | refine qS ?_ ?_ | refine qT ?_ ?_ | refine qU ?_ ?_) <;> (intro h; try simp only [NM] at h)) | with_reducible refine yD tyOk mixed 6 (by kernel_rfl) fun K hK => ?_ | ((with_reducible refine CallJ.is ?_); (first | refine CallJ.pure (findTable_sat _ _ h1) ?_ | refine CallJ.pure (satisfies_sat zV zV _) ?_ | refine CallJ.pure (validate_sat _) ?_ | ((apply CallJ.lentI); (focus (simp -dsimp (disch := (first | omega | (simp only [LN]; omega))) only [go_sem, ↓reduceIte, seval, e1, mx0_neg]; rfl)); (focus (first | exact (findTable_sat _ _ h1) | exact (satisfies_sat zV zV _) | exact (validate_sat _)))))) | ((with_reducible refine CallH.is ?_); (first | refine CallH.intro (findTable_sat _ _ h1) ?_ | refine CallH.intro (satisfies_sat zV zV _) ?_ | refine CallH.intro (validate_sat _) ?_))) <;> simp -dsimp (disch := (first | omega | (simp only [LN]; omega))) only [go_sem, ↓reduceIte, seval, e1, mx0_neg]) | ((with_reducible refine hK _ ?_); clear hK K) | (with_reducible first | refine qA ?_ | refine qB ?_ | refine qC ?_ | refine qD ?_ | refine qE ?_ | refine qF ?_ | refine qL ?_ | refine qM ?_ | refine qN ?_ | refine qO ?_ | refine qQ ?_) | refine qR rfl ?_ | (with_reducible refine AI ?_) | ((with_reducible refine qW (T := TT) (b := ?_) ?_ ?_); rotate_left; exact rfl) | (with_reducible first | refine qX ?_ | refine qY ?_ | refine qZ ?_) | (with_reducible first | refine qI ?_ | refine qIx ?_ | fail) | ((with_reducible refine yS ?_ ?_) <;> (intro h; try simp only [NM] at h)))
    simp -dsimp (disch := (first | omega | (simp only [LN]; omega))) only [retQ, Tryd.results81, resVals, cellRV, resOf, St.rest, St.freeze, RT, go_sem, ↓reduceIte, seval]
    simp [conE, e1]
  have e1 : tblAt s.tables c.table = (i : Int) := by unfold tblAt; simpa using e1
  have g1 : s.tables.getD i zTbl = s.tables[i] := by simp [List.getD, hi]
  have spec : conE s c = if c.left < 0 ∨ (s.tables[i].cols.length : Int) ≤ c.left ∨ opOk c.op = false ∨ c.right < -1 ∨ (s.tables[i].cols.length : Int) ≤ c.right ∨ (0 ≤ c.right ∧ c.value ≠ zV) then 3
      else if 0 ≤ c.right then (if (s.tables[i].cols.getD c.left.toNat zCol).kind ≠ (s.tables[i].cols.getD c.right.toNat zCol).kind then 7 else 0)
      else if c.value.kind ≠ (s.tables[i].cols.getD c.left.toNat zCol).kind then 7 else valE c.value := by
    simp only [conE, e1, Int.toNat_natCast, g1]
    rw [if_neg (by omega)]
  rw [spec]
  cases ho : opOk c.op with
  | false =>
    have e3 : satE c.op = 3 := by simp [satE, ho]
    refine sat_of_body tyOk Tryd.func81 rfl (by kernel_rfl) ⟨Nat.le_of_ble_eq_true rfl, Nat.le_of_ble_eq_true rfl⟩ fun w0 m0 F0 => ?_
    simp only [Tryd.ntmps81, envOf, Nat.reduceAdd]
    repeat' (first | ((first | with_reducible refine qV tyOk fun K hK => ?_ | (with_reducible first | refine qG ?_ | refine qH ?_ | refine qP ?_ | refine qGx ?_ | refine qHx ?_ | refine qPx ?_) | ((with_reducible first | refine qS ?_ ?_ | refine qT ?_ ?_ | refine qU ?_ ?_) <;> (intro h; try simp only [NM] at h)) | with_reducible refine yD tyOk mixed 6 (by kernel_rfl) fun K hK => ?_ | ((with_reducible refine CallJ.is ?_); (first | refine CallJ.pure (findTable_sat _ _ h1) ?_ | refine CallJ.pure (satisfies_sat zV zV _) ?_ | refine CallJ.pure (validate_sat _) ?_ | ((apply CallJ.lentI); (focus (simp -dsimp (disch := (first | omega | (simp only [LN]; omega))) only [go_sem, ↓reduceIte, seval, e1, mx0_neg, mx0_nat, e3]; rfl)); (focus (first | exact (findTable_sat _ _ h1) | exact (satisfies_sat zV zV _) | exact (validate_sat _)))))) | ((with_reducible refine CallH.is ?_); (first | refine CallH.intro (findTable_sat _ _ h1) ?_ | refine CallH.intro (satisfies_sat zV zV _) ?_ | refine CallH.intro (validate_sat _) ?_))) <;> simp -dsimp (disch := (first | omega | (simp only [LN]; omega))) only [go_sem, ↓reduceIte, seval, e1, mx0_neg, mx0_nat, e3]) | ((with_reducible refine hK _ ?_); clear hK K) | (with_reducible first | refine qA ?_ | refine qB ?_ | refine qC ?_ | refine qD ?_ | refine qE ?_ | refine qF ?_ | refine qL ?_ | refine qM ?_ | refine qN ?_ | refine qO ?_ | refine qQ ?_) | refine qR rfl ?_ | (with_reducible refine AI ?_) | ((with_reducible refine qW (T := TT) (b := ?_) ?_ ?_); rotate_left; exact rfl) | (with_reducible first | refine qX ?_ | refine qY ?_ | refine qZ ?_) | (with_reducible first | refine qI ?_ | refine qIx ?_ | fail) | ((with_reducible refine yS ?_ ?_) <;> (intro h; try simp only [NM] at h)))
    all_goals simp -dsimp (disch := (first | omega | (simp only [LN]; omega))) only [retQ, Tryd.results81, resVals, cellRV, resOf, St.rest, St.freeze, RT, go_sem, ↓reduceIte, seval]
    all_goals
      (simp (disch := omega) only [ho, ne_eq, zV_iff, getD_lt]
       (repeat' split) <;> first
         | rfl
         | omega
         | (exfalso; omega)
         | (exfalso; simp_all; done)
         | (simp_all; done)
         | (simp_all; omega)
         | (exfalso; simp_all; omega))
  | true =>
    have e3 : satE c.op = 0 := by simp [satE, ho]
    refine sat_of_body tyOk Tryd.func81 rfl (by kernel_rfl) ⟨Nat.le_of_ble_eq_true rfl, Nat.le_of_ble_eq_true rfl⟩ fun w0 m0 F0 => ?_
    simp only [Tryd.ntmps81, envOf, Nat.reduceAdd]
    repeat' (first | ((first | with_reducible refine qV tyOk fun K hK => ?_ | (with_reducible first | refine qG ?_ | refine qH ?_ | refine qP ?_ | refine qGx ?_ | refine qHx ?_ | refine qPx ?_) | ((with_reducible first | refine qS ?_ ?_ | refine qT ?_ ?_ | refine qU ?_ ?_) <;> (intro h; try simp only [NM] at h)) | with_reducible refine yD tyOk mixed 6 (by kernel_rfl) fun K hK => ?_ | ((with_reducible refine CallJ.is ?_); (first | refine CallJ.pure (findTable_sat _ _ h1) ?_ | refine CallJ.pure (satisfies_sat zV zV _) ?_ | refine CallJ.pure (validate_sat _) ?_ | ((apply CallJ.lentI); (focus (simp -dsimp (disch := (first | omega | (simp only [LN]; omega))) only [go_sem, ↓reduceIte, seval, e1, mx0_neg, mx0_nat, e3]; rfl)); (focus (first | exact (findTable_sat _ _ h1) | exact (satisfies_sat zV zV _) | exact (validate_sat _)))))) | ((with_reducible refine CallH.is ?_); (first | refine CallH.intro (findTable_sat _ _ h1) ?_ | refine CallH.intro (satisfies_sat zV zV _) ?_ | refine CallH.intro (validate_sat _) ?_))) <;> simp -dsimp (disch := (first | omega | (simp only [LN]; omega))) only [go_sem, ↓reduceIte, seval, e1, mx0_neg, mx0_nat, e3]) | ((with_reducible refine hK _ ?_); clear hK K) | (with_reducible first | refine qA ?_ | refine qB ?_ | refine qC ?_ | refine qD ?_ | refine qE ?_ | refine qF ?_ | refine qL ?_ | refine qM ?_ | refine qN ?_ | refine qO ?_ | refine qQ ?_) | refine qR rfl ?_ | (with_reducible refine AI ?_) | ((with_reducible refine qW (T := TT) (b := ?_) ?_ ?_); rotate_left; exact rfl) | (with_reducible first | refine qX ?_ | refine qY ?_ | refine qZ ?_) | (with_reducible first | refine qI ?_ | refine qIx ?_ | fail) | ((with_reducible refine yS ?_ ?_) <;> (intro h; try simp only [NM] at h)))
    all_goals simp -dsimp (disch := (first | omega | (simp only [LN]; omega))) only [retQ, Tryd.results81, resVals, cellRV, resOf, St.rest, St.freeze, RT, go_sem, ↓reduceIte, seval]
    all_goals
      (simp (disch := omega) only [ho, ne_eq, zV_iff, getD_lt]
       (repeat' split) <;> first
         | rfl
         | omega
         | (exfalso; omega)
         | (exfalso; simp_all; done)
         | (simp_all; done)
         | (simp_all; omega)
         | (exfalso; simp_all; omega))

def cellE (t : Tbl) (k : Nat) (v : Val) : Option Int :=
  if valE v ≠ 0 then some (valE v) else if v.kind = 0 ∧ (t.cols.getD k zCol).nullable = false then some 8 else if v.kind ≠ 0 ∧ v.kind ≠ (t.cols.getD k zCol).kind then some 7 else none
def rowE (t : Tbl) (r : Row) : Int :=
  if r.length ≠ t.cols.length then 3 else match scan (cellE t) r 0 with
    | some e => e
    | none => 0

def cmpCell (b : Row) (k : Nat) (x : Val) : Option Int := if k < b.length ∧ cmpV x (b.getD k zV) ≠ 0 then some (cmpV x (b.getD k zV)) else none
def cmpRows (a b : Row) : Int := match scan (cmpCell b) a 0 with
  | some e => e
  | none => cmpInts a.length b.length
theorem scan_all_none {α : Type} {f : Nat → α → Option Int} : ∀ {l : List α} {k : Nat}, (∀ j x, k ≤ j → f j x = none) → scan f l k = none
  | [], _, _ => rfl
  | x :: l, k, h => by
    rw [scan, h k x (Nat.le_refl _)]
    exact scan_all_none fun j y hj => h j y (by omega)

set_option maxHeartbeats 8000000 in
theorem cloneCons_own (r : List Con) (h1 : r.length ≤ 1099511627776) : SatM Tryd.prog 48 [.one (eCons r)] [] [] (.v (.one (.ref 2 0 r.length))) [] [(2, ⟨7, r.map eCon, []⟩)] := by
  refine satM_of_body tyOk [] [2] Tryd.func48 rfl (by kernel_rfl) ⟨Nat.le_of_ble_eq_true rfl, Nat.le_of_ble_eq_true rfl⟩ fun w0 m0 F0 => ?_
  simp only [Tryd.ntmps48, envOf, Nat.reduceAdd]
  repeat' (first | ((first | with_reducible refine qV tyOk fun K hK => ?_ | (with_reducible first | refine qG ?_ | refine qH ?_ | refine qP ?_ | refine qGx ?_ | refine qHx ?_ | refine qPx ?_) | ((with_reducible first | refine qS ?_ ?_ | refine qT ?_ ?_ | refine qU ?_ ?_) <;> (intro h; try simp only [NM] at h)) | with_reducible refine yD tyOk mixed 6 (by kernel_rfl) fun K hK => ?_) <;> simp -dsimp (disch := (first | omega | (simp only [LN]; omega))) only [go_sem, ↓reduceIte, seval]) | ((with_reducible refine hK _ ?_); clear hK K) | (with_reducible first | refine qA ?_ | refine qB ?_ | refine qC ?_ | refine qD ?_ | refine qE ?_ | refine qF ?_ | refine qL ?_ | refine qM ?_ | refine qN ?_ | refine qO ?_ | refine qQ ?_) | refine qR rfl ?_ | (with_reducible refine AI ?_) | ((with_reducible refine qW (T := TT) (b := ?_) ?_ ?_); rotate_left; exact rfl) | (with_reducible first | refine qX ?_ | refine qY ?_ | refine qZ ?_) | (with_reducible first | refine qI ?_ | refine qIx ?_ | fail) | ((with_reducible refine yS ?_ ?_) <;> (intro h; try simp only [NM] at h)))
  intro b hb
  refine hK _ ?_
  clear hK K
  repeat' (first | ((first | with_reducible refine qV tyOk fun K hK => ?_ | (with_reducible first | refine qG ?_ | refine qH ?_ | refine qP ?_ | refine qGx ?_ | refine qHx ?_ | refine qPx ?_) | ((with_reducible first | refine qS ?_ ?_ | refine qT ?_ ?_ | refine qU ?_ ?_) <;> (intro h; try simp only [NM] at h)) | with_reducible refine yD tyOk mixed 6 (by kernel_rfl) fun K hK => ?_) <;> simp -dsimp (disch := (first | omega | (simp only [LN]; omega))) only [go_sem, ↓reduceIte, seval]) | ((with_reducible refine hK _ ?_); clear hK K) | (with_reducible first | refine qA ?_ | refine qB ?_ | refine qC ?_ | refine qD ?_ | refine qE ?_ | refine qF ?_ | refine qL ?_ | refine qM ?_ | refine qN ?_ | refine qO ?_ | refine qQ ?_) | refine qR rfl ?_ | (with_reducible refine AI ?_) | ((with_reducible refine qW (T := TT) (b := ?_) ?_ ?_); rotate_left; exact rfl) | (with_reducible first | refine qX ?_ | refine qY ?_ | refine qZ ?_) | (with_reducible first | refine qI ?_ | refine qIx ?_ | fail) | ((with_reducible refine yS ?_ ?_) <;> (intro h; try simp only [NM] at h)))
  all_goals simp -dsimp (disch := (first | omega | (simp only [LN]; omega))) only [retQ, Tryd.results48, resVals, cellRV, resOf, St.rest, St.freeze, RT, go_sem, ↓reduceIte, seval]
  have h2 : r = [] := by
    cases r with
    | nil => rfl
    | cons x r => exact absurd ((hb _ rfl (by simp)).symm.trans ‹b = true›) (by decide)
  subst h2
  exact ⟨rfl, rfl⟩
set_option maxHeartbeats 8000000 in
theorem cloneCols_own (r : List Col) (h1 : r.length ≤ 1099511627776) : SatM Tryd.prog 84 [.one (eCols r)] [] [] (.v (.one (.ref 2 0 r.length))) [] [(2, ⟨3, r.map eCol, []⟩)] := by
  refine satM_of_body tyOk [] [2] Tryd.func84 rfl (by kernel_rfl) ⟨Nat.le_of_ble_eq_true rfl, Nat.le_of_ble_eq_true rfl⟩ fun w0 m0 F0 => ?_
  simp only [Tryd.ntmps84, envOf, Nat.reduceAdd]
  repeat' (first | ((first | with_reducible refine qV tyOk fun K hK => ?_ | (with_reducible first | refine qG ?_ | refine qH ?_ | refine qP ?_ | refine qGx ?_ | refine qHx ?_ | refine qPx ?_) | ((with_reducible first | refine qS ?_ ?_ | refine qT ?_ ?_ | refine qU ?_ ?_) <;> (intro h; try simp only [NM] at h)) | with_reducible refine yD tyOk mixed 6 (by kernel_rfl) fun K hK => ?_) <;> simp -dsimp (disch := (first | omega | (simp only [LN]; omega))) only [go_sem, ↓reduceIte, seval]) | ((with_reducible refine hK _ ?_); clear hK K) | (with_reducible first | refine qA ?_ | refine qB ?_ | refine qC ?_ | refine qD ?_ | refine qE ?_ | refine qF ?_ | refine qL ?_ | refine qM ?_ | refine qN ?_ | refine qO ?_ | refine qQ ?_) | refine qR rfl ?_ | (with_reducible refine AI ?_) | ((with_reducible refine qW (T := TT) (b := ?_) ?_ ?_); rotate_left; exact rfl) | (with_reducible first | refine qX ?_ | refine qY ?_ | refine qZ ?_) | (with_reducible first | refine qI ?_ | refine qIx ?_ | fail) | ((with_reducible refine yS ?_ ?_) <;> (intro h; try simp only [NM] at h)))
  intro b hb
  refine hK _ ?_
  clear hK K
  repeat' (first | ((first | with_reducible refine qV tyOk fun K hK => ?_ | (with_reducible first | refine qG ?_ | refine qH ?_ | refine qP ?_ | refine qGx ?_ | refine qHx ?_ | refine qPx ?_) | ((with_reducible first | refine qS ?_ ?_ | refine qT ?_ ?_ | refine qU ?_ ?_) <;> (intro h; try simp only [NM] at h)) | with_reducible refine yD tyOk mixed 6 (by kernel_rfl) fun K hK => ?_) <;> simp -dsimp (disch := (first | omega | (simp only [LN]; omega))) only [go_sem, ↓reduceIte, seval]) | ((with_reducible refine hK _ ?_); clear hK K) | (with_reducible first | refine qA ?_ | refine qB ?_ | refine qC ?_ | refine qD ?_ | refine qE ?_ | refine qF ?_ | refine qL ?_ | refine qM ?_ | refine qN ?_ | refine qO ?_ | refine qQ ?_) | refine qR rfl ?_ | (with_reducible refine AI ?_) | ((with_reducible refine qW (T := TT) (b := ?_) ?_ ?_); rotate_left; exact rfl) | (with_reducible first | refine qX ?_ | refine qY ?_ | refine qZ ?_) | (with_reducible first | refine qI ?_ | refine qIx ?_ | fail) | ((with_reducible refine yS ?_ ?_) <;> (intro h; try simp only [NM] at h)))
  all_goals simp -dsimp (disch := (first | omega | (simp only [LN]; omega))) only [retQ, Tryd.results84, resVals, cellRV, resOf, St.rest, St.freeze, RT, go_sem, ↓reduceIte, seval]
  have h2 : r = [] := by
    cases r with
    | nil => rfl
    | cons x r => exact absurd ((hb _ rfl (by simp)).symm.trans ‹b = true›) (by decide)
  subst h2
  exact ⟨rfl, rfl⟩
set_option maxHeartbeats 8000000 in
theorem cloneInts_own (r : List Int) (h1 : r.length ≤ 1099511627776) : SatM Tryd.prog 50 [.one (eInts r)] [] [] (.v (.one (.ref 2 0 r.length))) [] [(2, ⟨1, r.map eInt1, []⟩)] := by
  refine satM_of_body tyOk [] [2] Tryd.func50 rfl (by kernel_rfl) ⟨Nat.le_of_ble_eq_true rfl, Nat.le_of_ble_eq_true rfl⟩ fun w0 m0 F0 => ?_
  simp only [Tryd.ntmps50, envOf, Nat.reduceAdd]
  repeat' (first | ((first | with_reducible refine qV tyOk fun K hK => ?_ | (with_reducible first | refine qG ?_ | refine qH ?_ | refine qP ?_ | refine qGx ?_ | refine qHx ?_ | refine qPx ?_) | ((with_reducible first | refine qS ?_ ?_ | refine qT ?_ ?_ | refine qU ?_ ?_) <;> (intro h; try simp only [NM] at h)) | with_reducible refine yD tyOk mixed 6 (by kernel_rfl) fun K hK => ?_) <;> simp -dsimp (disch := (first | omega | (simp only [LN]; omega))) only [go_sem, ↓reduceIte, seval]) | ((with_reducible refine hK _ ?_); clear hK K) | (with_reducible first | refine qA ?_ | refine qB ?_ | refine qC ?_ | refine qD ?_ | refine qE ?_ | refine qF ?_ | refine qL ?_ | refine qM ?_ | refine qN ?_ | refine qO ?_ | refine qQ ?_) | refine qR rfl ?_ | (with_reducible refine AI ?_) | ((with_reducible refine qW (T := TT) (b := ?_) ?_ ?_); rotate_left; exact rfl) | (with_reducible first | refine qX ?_ | refine qY ?_ | refine qZ ?_) | (with_reducible first | refine qI ?_ | refine qIx ?_ | fail) | ((with_reducible refine yS ?_ ?_) <;> (intro h; try simp only [NM] at h)))
  intro b hb
  refine hK _ ?_
  clear hK K
  repeat' (first | ((first | with_reducible refine qV tyOk fun K hK => ?_ | (with_reducible first | refine qG ?_ | refine qH ?_ | refine qP ?_ | refine qGx ?_ | refine qHx ?_ | refine qPx ?_) | ((with_reducible first | refine qS ?_ ?_ | refine qT ?_ ?_ | refine qU ?_ ?_) <;> (intro h; try simp only [NM] at h)) | with_reducible refine yD tyOk mixed 6 (by kernel_rfl) fun K hK => ?_) <;> simp -dsimp (disch := (first | omega | (simp only [LN]; omega))) only [go_sem, ↓reduceIte, seval]) | ((with_reducible refine hK _ ?_); clear hK K) | (with_reducible first | refine qA ?_ | refine qB ?_ | refine qC ?_ | refine qD ?_ | refine qE ?_ | refine qF ?_ | refine qL ?_ | refine qM ?_ | refine qN ?_ | refine qO ?_ | refine qQ ?_) | refine qR rfl ?_ | (with_reducible refine AI ?_) | ((with_reducible refine qW (T := TT) (b := ?_) ?_ ?_); rotate_left; exact rfl) | (with_reducible first | refine qX ?_ | refine qY ?_ | refine qZ ?_) | (with_reducible first | refine qI ?_ | refine qIx ?_ | fail) | ((with_reducible refine yS ?_ ?_) <;> (intro h; try simp only [NM] at h)))
  all_goals simp -dsimp (disch := (first | omega | (simp only [LN]; omega))) only [retQ, Tryd.results50, resVals, cellRV, resOf, St.rest, St.freeze, RT, go_sem, ↓reduceIte, seval]
  have h2 : r = [] := by
    cases r with
    | nil => rfl
    | cons x r => exact absurd ((hb _ rfl (by simp)).symm.trans ‹b = true›) (by decide)
  subst h2
  exact ⟨rfl, rfl⟩

section
open Go.RowKit
section
variable {P : Program} {w0 : World} {m0 : Mem} {s s' : St} {a : Act} {w : World} {m : Mem} {ω : Wh} {F0 : Home} {T : TypeId → Option TI}

def Agree (D : Nat → Prop) (a ag : Act) : Prop := ag.defers = a.defers ∧ ag.tmps.size = a.tmps.size ∧ ∀ d, ¬ D d → ag.tmps[d]? = a.tmps[d]?
theorem Agree.refl (D : Nat → Prop) (a : Act) : Agree D a a := ⟨rfl, rfl, fun _ _ => rfl⟩
theorem Agree.put {D : Nat → Prop} {a ag : Act} (h : Agree D a ag) (d : Option Tmp) (v : Value) : Agree D (a.put d v) (ag.put d v) := by
  cases d with
  | none => exact h
  | some d =>
    refine ⟨h.1, by simpa [Act.put] using h.2.1, fun e he => ?_⟩
    simp only [Act.put, Array.getElem?_setIfInBounds, h.2.1, h.2.2 e he]
theorem Agree.putOf {D D' : Nat → Prop} {a ag : Act} (h : Agree D a ag) (d : Option Tmp) (v : Value) (hD : ∀ e, ¬ D' e → D e → d = some e) : Agree D' (a.put d v) (ag.put d v) := by
  cases d with
  | none =>
    refine ⟨h.1, h.2.1, fun e he => h.2.2 e fun hd => ?_⟩
    cases hD e he hd
  | some d =>
    refine ⟨h.1, by simpa [Act.put] using h.2.1, fun e he => ?_⟩
    simp only [Act.put, Array.getElem?_setIfInBounds, h.2.1]
    by_cases hde : d = e
    · simp [hde]
    · rw [if_neg hde, if_neg hde]
      exact h.2.2 e fun hd => hde (by have := hD e he hd; injection this)
theorem Agree.ghost {D : Nat → Prop} {a ag : Act} (h : Agree D a ag) (d : Option Tmp) (v : Value) (hD : ∀ e, d = some e → D e) : Agree D a (ag.put d v) := by
  cases d with
  | none => exact h
  | some d =>
    refine ⟨h.1, by simpa [Act.put] using h.2.1, fun e he => ?_⟩
    have hde : d ≠ e := fun hh => he (hD e (by rw [hh]))
    simp only [Act.put, Array.getElem?_setIfInBounds, if_neg hde, h.2.2 e he]

theorem wp_agree {D : Nat → Prop} {o : Oper} {a ag : Act} {next : Act → World → Prop} {Q : Exit → Act → World → Prop} (he : execOp a.eval o = execOp ag.eval o) (hA : Agree D a ag)
    (h : o.wp P ag w (fun a' w' => ∀ ar, Agree D ar a' → next ar w') (fun e a' w' => ∀ ar, Agree D ar a' → Q e ar w')) : o.wp P a w next Q := by
  unfold Oper.wp at h ⊢
  rw [he]
  unfold Oper.upon at h ⊢
  split at h
  · exact h _ (hA.put _ _)
  · exact h _ (hA.put _ _)
  · rename_i d w1 _
    have h1 : Agree D { a with defers := d :: a.defers } { ag with defers := d :: ag.defers } := ⟨by show d :: ag.defers = d :: a.defers; rw [hA.1], hA.2.1, hA.2.2⟩
    exact h _ (h1.put _ _)
  · refine h.mono fun e w' hr => ?_
    cases e with
    | returned v => exact hr _ (hA.put _ _)
    | panicked c => exact hr _ hA
    | outgrown =>
      obtain ⟨a1, w1, h1⟩ := hr
      exact ⟨a1, w1, h1 _ (Agree.refl _ _)⟩
  · exact h.mono fun v w' hr => hr _ (hA.put _ _)
  · exact h _ hA
  · exact h.elim

theorem eval_agree {D : Nat → Prop} {ops : Array Oper} {o : Oper} {a ag : Act} (hA : Agree D a ag) (hs : ∀ cs b, o.op ≠ .select cs b) (hl : ∀ t ∈ o.looksAt ops, ¬ D t) : execOp a.eval o = execOp ag.eval o := by
  refine execOp_congr o hs fun x hx => ?_
  cases x with
  | tmp t =>
    have := hA.2.2 t (hl t (operand_looks (by simpa using hx)))
    simp only [Act.eval, Array.getD_eq_getD_getElem?, this]
  | _ => rfl
theorem wanted_agree {D : Nat → Prop} {ops : Array Oper} {o : Oper} {a ag : Act} (hA : Agree D a ag) (hl : ∀ t ∈ o.looksAt ops, ¬ D t) : Region.wanted o (yielded ops a.tmps) = Region.wanted o (yielded ops ag.tmps) := by
  unfold Region.wanted
  cases hg : o.guard with
  | none => rfl
  | some p =>
    obtain ⟨j, b⟩ := p
    have : yielded ops a.tmps j = yielded ops ag.tmps j := by
      unfold yielded
      cases hd : (ops[j]?).bind (·.dst) with
      | none => rfl
      | some t =>
        have := hA.2.2 t (hl t (by simp [Oper.looksAt, hg, hd]))
        simp only [Option.bind_some, this]
    simp only [this]

def sameA (t : St) (d : Option Tmp) (y : A) : Prop := match d with | some d => d < t.n ∧ look t.env d = some y | none => True
theorem CI.same (h : CI P w0 m0 F0 s a w m ω) {d : Option Tmp} {y : A} {v : Value} (hs : sameA s d y) (hv : ARep m ω v y) : CI P w0 m0 F0 s (a.put d v) w m ω := by
  cases d with
  | none => exact h
  | some d =>
    obtain ⟨h1, h2⟩ := hs
    refine (h.put h1 hv).ext rfl (fun t => ?_) rfl rfl
    show look s.env t = if d = t then some y else look s.env t
    split
    · rename_i e; subst e; exact h2
    · rfl
def Stable (P : Program) (T : TypeId → Option TI) (ops : Array Oper) : List Oper → St → Prop
  | [], _ => True
  | o :: l, t => (match guardOf ops t o with | some true => VVal P T o t (sameA t o.dst) | some false => sameA t o.dst (.tup []) | none => False) ∧ Stable P T ops l t
theorem Stable.get {ops : Array Oper} {t : St} {o : Oper} : ∀ {l : List Oper}, Stable P T ops l t → o ∈ l → (match guardOf ops t o with | some true => VVal P T o t (sameA t o.dst) | some false => sameA t o.dst (.tup []) | none => False)
  | x :: l, h, ho => by
    rcases List.mem_cons.1 ho with rfl | ho
    · exact h.1
    · exact Stable.get h.2 ho
def VCh (P : Program) (T : TypeId → Option TI) (ops : Array Oper) (lq : List Oper) : List Oper → St → (St → Prop) → Prop
  | [], t, K => Stable P T ops lq t ∧ K t
  | o :: l, t, K => Stable P T ops lq t ∧ VOps P T ops [o] t (fun t' => VCh P T ops lq l t' K)
theorem VCh.step {ops : Array Oper} {lq l : List Oper} {o : Oper} {t : St} {K : St → Prop} (h1 : Stable P T ops lq t) (h2 : ∀ K2 : St → Prop, (∀ t', VCh P T ops lq l t' K → K2 t') → VOps P T ops [o] t K2) : VCh P T ops lq (o :: l) t K :=
  ⟨h1, h2 _ fun _ h => h⟩

def noSelect (o : Oper) : Bool := match o.op with | .select .. => false | _ => true
def segs (l : List Oper) : List (Nat × Nat) → List Oper
  | [] => []
  | p :: r => (l.drop p.1).take p.2 ++ segs l r
theorem Stable_nil {ops : Array Oper} (t : St) : Stable P T ops [] t = True := rfl
theorem Stable_cons {ops : Array Oper} {d : Option Tmp} {op : Op} {ty : TypeId} {pos : String} {af : Array Edge} {l : List Oper} (t : St) : Stable P T ops (⟨d, op, ty, pos, af, Option.none⟩ :: l) t = (VVal P T ⟨d, op, ty, pos, af, Option.none⟩ t (sameA t d) ∧ Stable P T ops l t) := rfl
theorem sameA_some (t : St) (d : Nat) (y : A) : sameA t (some d) y = (d < t.n ∧ look t.env d = some y) := rfl
theorem sameA_none (t : St) (y : A) : sameA t Option.none y = True := rfl
end
end

section
variable {P : Program} {w0 : World} {m0 : Mem} {F0 : Home}

theorem St.le_keep (ts : List Nat) (s : St) : St.le ⟨s.n, keepL ts s.env, s.box, s.row⟩ s := by
  refine ⟨rfl, fun t x hx => ?_, fun _ _ h => h, fun _ _ h => h⟩
  simp only [look_keepL] at hx
  split at hx
  · exact hx
  · cases hx
theorem AWP.keep {Q : Exit → St → Prop} {s : St} {c : Code} (ts : List Nat) (h : AWP P w0 m0 F0 c Q ⟨s.n, keepL ts s.env, s.box, s.row⟩) : AWP P w0 m0 F0 c Q s :=
  AWP.weak (St.le_keep ts s) h
end

section
open Go.RowKit
variable {P : Program} {T : TypeId → Option TI} {w0 : World} {m0 : Mem} {F0 : Home} {s : St} {ω : Wh}

def StabX (P : Program) (T : TypeId → Option TI) (ops : Array Oper) (t : St) (o : Oper) : Prop := match guardOf ops t o with
  | some true => ∃ x, sameA t o.dst x ∧ VVal P T o t (fun y => y = x)
  | some false => sameA t o.dst (.tup [])
  | none => False
theorem Stable.x {ops : Array Oper} {t : St} {l : List Oper} (h : Stable P T ops l t) : ∀ o ∈ l, StabX P T ops t o := by
  intro o ho
  have h1 := Stable.get h ho
  unfold StabX
  cases hg : guardOf ops t o with
  | none => rw [hg] at h1; exact h1.elim
  | some b =>
    rw [hg] at h1
    cases b with
    | true =>
      obtain ⟨x, h2, h3⟩ := VVal_pick h1
      exact ⟨x, h2, h3⟩
    | false => exact h1
structure Link where
  op : Oper
  free : List Oper
  rest : List Oper
def VCy (P : Program) (T : TypeId → Option TI) (ops : Array Oper) : List Link → St → (St → Prop) → Prop
  | [], t, K => K t
  | p :: l, t, K => VOps P T ops [p.op] t (fun t' => VHead P T ops p.free t' (fun t'' => Stable P T ops p.rest t'' ∧ VCy P T ops l t'' K))
def VCx (P : Program) (T : TypeId → Option TI) (ops : Array Oper) (lq : List Oper) (l : List Link) (t : St) (K : St → Prop) : Prop := (∀ o ∈ lq, StabX P T ops t o) ∧ VCy P T ops l t K
def unl (ops : Array Oper) (ce : List Nat) (dep : Nat) (l1 : List Nat) (i : Nat) : Bool := ce.all fun j => !(clo ops dep i).elem j || l1.elem j
def pickO (ops : Array Oper) (p : Nat → Bool) : List Oper := (List.range ops.size).filterMap fun i => if p i then ops[i]? else none
theorem mem_pickO {ops : Array Oper} {p : Nat → Bool} {o : Oper} : o ∈ pickO ops p ↔ ∃ i, p i = true ∧ ops[i]? = some o := by
  unfold pickO
  simp only [List.mem_filterMap, List.mem_range]
  constructor
  · rintro ⟨i, hi, ho⟩
    split at ho
    · rename_i hn
      exact ⟨i, hn, ho⟩
    · cases ho
  · rintro ⟨i, hi, ho⟩
    refine ⟨i, (Array.getElem?_eq_some_iff.1 ho).1, ?_⟩
    rw [if_pos hi]
    exact ho
def quiet0 (ops : Array Oper) (ce : List Nat) (dep : Nat) : List Oper := pickO ops fun i => !ce.elem i && unl ops ce dep [] i
def quietNew (ops : Array Oper) (ce : List Nat) (dep : Nat) (l1 : List Nat) (k : Nat) : List Oper := pickO ops fun i => !ce.elem i && !unl ops ce dep l1 i && unl ops ce dep (l1 ++ [k]) i
def quietOld (ops : Array Oper) (ce : List Nat) (dep : Nat) (l1 : List Nat) (k : Nat) : List Oper := pickO ops fun i => !ce.elem i && unl ops ce dep l1 i && !(l1 ++ [k]).any fun j => (clo ops dep j).elem i
def quietAft (ops : Array Oper) (ce : List Nat) (dep : Nat) (l1 : List Nat) : List Oper := pickO ops fun i => !ce.elem i && unl ops ce dep l1 i && !l1.any fun j => (clo ops dep j).elem i
def chainLs (ops : Array Oper) (ce : List Nat) (dep : Nat) : List Nat → List Nat → List Link
  | _, [] => []
  | l1, j :: l2 => (match ops[j]? with | some o => [⟨o, quietNew ops ce dep l1 j, quietOld ops ce dep l1 j⟩] | none => []) ++ chainLs ops ce dep (l1 ++ [j]) l2

def laterOk (ops : Array Oper) (o o' : Oper) : Prop := (∀ t ∈ o.looksAt ops, o'.dst ≠ some t) ∧ ∀ d, o.dst = some d → o'.dst ≠ some d
theorem steps_ghost (hT : TabOk P T) {ops : Array Oper} {w : World} {D : Nat → Prop} {a0 : Act} : ∀ (l : List Oper) (s : St) (ps : List (Option Tmp × A)) (a : Act) (m : Mem), (∀ o ∈ l, plainOp o = true ∧ ∀ d, o.dst = some d → D d) → ps.length = l.length →
    (∀ (i : Nat) (o : Oper), l[i]? = some o → ∃ x, ps[i]? = some (o.dst, x) ∧ StepOK P T ops (puts s (ps.take i)) o x) → CI P w0 m0 F0 s a w m ω → Agree D a0 a → ∃ ag m', CI P w0 m0 F0 (puts s ps) ag w m' ω ∧ Agree D a0 ag
  | [], s, ps, a, m, _, hl, _, hC, hA => by
    have : ps = [] := List.length_eq_zero_iff.1 (by simpa using hl)
    subst this
    exact ⟨a, m, hC, hA⟩
  | o :: l, s, ps, a, m, hp, hl, hs, hC, hA => by
    obtain ⟨p1, p2⟩ := hp o (by simp)
    obtain ⟨x, h1, h2⟩ := hs 0 o rfl
    cases ps with
    | nil => simp at h1
    | cons p ps =>
      simp only [List.getElem?_cons_zero, Option.some.injEq] at h1
      subst h1
      have hrest := fun (a : Act) (m : Mem) (hC : CI P w0 m0 F0 (s.putO o.dst x) a w m ω) (hA : Agree D a0 a) => steps_ghost hT l (s.putO o.dst x) ps a m (fun o ho => hp o (by simp [ho])) (by simpa using hl) (fun i o' ho' => by
        obtain ⟨y, h3, h4⟩ := hs (i + 1) o' (by simpa using ho')
        exact ⟨y, by simpa using h3, by simpa [puts] using h4⟩) hC hA
      simp only [List.take_zero, puts] at h2
      obtain ⟨h0, ⟨hg, hv⟩ | ⟨hg, rfl⟩⟩ := h2
      · obtain ⟨y, rfl, hG⟩ := VVal_sound hT hv hC
        obtain ⟨v, m', _, hC', hv'⟩ := hG.2 p1
        exact hrest _ m' (hC'.putO h0 hv') (hA.ghost _ _ p2)
      · exact hrest _ m (hC.putO h0 arep_undef) (hA.ghost _ _ p2)
theorem steps_stable {ops : Array Oper} {l : List Oper} {ps : List (Option Tmp × A)} {s : St} (hl : ps.length = l.length) (hp : l.Pairwise (laterOk ops)) (hself : ∀ o ∈ l, ∀ t ∈ o.looksAt ops, o.dst ≠ some t)
    (hs : ∀ (i : Nat) (o : Oper), l[i]? = some o → ∃ x, ps[i]? = some (o.dst, x) ∧ StepOK P T ops (puts s (ps.take i)) o x) :
    ∀ o ∈ l, StabX P T ops (puts s ps) o := by
  intro o ho
  obtain ⟨i, hi, rfl⟩ := List.mem_iff_getElem.1 ho
  obtain ⟨x, h1, h2⟩ := hs i l[i] (List.getElem?_eq_getElem hi)
  have hi' : i < ps.length := by omega
  have hpi : ps[i] = (l[i].dst, x) := by rw [List.getElem?_eq_getElem hi'] at h1; injection h1
  have hsplit : ps = ps.take i ++ (l[i].dst, x) :: ps.drop (i + 1) := by
    rw [← hpi, List.getElem_cons_drop, List.take_append_drop]
  have hdst : ∀ p ∈ ps.drop (i + 1), ∃ o', laterOk ops l[i] o' ∧ p.1 = o'.dst := by
    intro p hp'
    obtain ⟨k, hk, rfl⟩ := List.mem_iff_getElem.1 hp'
    rw [List.length_drop] at hk
    have hk' : i + 1 + k < l.length := by omega
    obtain ⟨y, h3, _⟩ := hs (i + 1 + k) l[i + 1 + k] (List.getElem?_eq_getElem hk')
    refine ⟨l[i + 1 + k], List.pairwise_iff_getElem.1 hp i (i + 1 + k) hi hk' (by omega), ?_⟩
    rw [List.getElem?_eq_getElem (by omega)] at h3
    injection h3 with h3
    rw [List.getElem_drop, h3]
  have hlook : ∀ t ∈ l[i].looksAt ops, look (puts s (ps.take i)).env t = look (puts s ps).env t := by
    intro t ht
    conv => rhs; rw [hsplit, puts_append]
    refine (look_puts_ne fun p hp' e => ?_).symm
    rcases List.mem_cons.1 hp' with rfl | hp'
    · exact hself _ ho t ht e
    · obtain ⟨o', h3, h4⟩ := hdst p hp'
      exact h3.1 t ht (h4 ▸ e)
  have hsame : sameA (puts s ps) l[i].dst x := by
    unfold sameA
    split
    · rename_i d hd
      have h0 := h2.1
      rw [hd] at h0
      refine ⟨by rw [puts_n]; have : d < (puts s (ps.take i)).n := h0; rwa [puts_n] at this, ?_⟩
      rw [hsplit, puts_append, puts, look_puts_ne fun p hp' e => by
        obtain ⟨o', h3, h4⟩ := hdst p hp'
        exact h3.2 d hd (h4 ▸ e)]
      rw [hd]
      show (if d = d then some x else _) = some x
      rw [if_pos rfl]
    · trivial
  unfold StabX
  rw [← guardOf_congr hlook]
  have hbox : (puts s (ps.take i)).box = (puts s ps).box := by rw [puts_box, puts_box]
  have hrow : (puts s ps).row = (puts s (ps.take i)).row := by rw [puts_row, puts_row]
  obtain ⟨_, ⟨hg, hv⟩ | ⟨hg, rfl⟩⟩ := h2
  · rw [hg]
    have hv2 := VVal_congr (s' := puts s ps) (fun id ls h => by rw [← hbox]; exact h) hrow (fun y hy ty => evalO_congr (fun t e => hlook t (operand_looks (e ▸ hy))) ty) hv
    exact ⟨x, hsame, hv2⟩
  · rw [hg]
    exact hsame

def linkOk (ops : Array Oper) (ce : List Nat) (dep : Nat) : Bool :=
  (List.range ops.size).all fun i => (ce.elem i || ((ops[i]?).map plainOp).getD true) && ((ops[i]?).map noSelect).getD true &&
    (List.range ops.size).all fun j => (decide (j < i) || ce.elem j || match dstAt ops j with | none => true | some t => !(looksAt ops i).elem t) && (!(ce.elem i && ce.elem j && decide (j < i)) || (clo ops dep i).elem j)
structure LinkFacts (ops : Array Oper) (ce : List Nat) (dep : Nat) : Prop where
  plain : ∀ (i : Nat) (o : Oper), ops[i]? = some o → i ∉ ce → plainOp o = true
  sel : ∀ (i : Nat) (o : Oper), ops[i]? = some o → ∀ cs b, o.op ≠ .select cs b
  later : ∀ i j t, i < ops.size → j < ops.size → i ≤ j → j ∉ ce → dstAt ops j = some t → t ∉ looksAt ops i
  chain : ∀ i j, i < ops.size → j < ops.size → i ∈ ce → j ∈ ce → j < i → j ∈ clo ops dep i
theorem linkFacts {ops : Array Oper} {ce : List Nat} {dep : Nat} (h : linkOk ops ce dep = true) : LinkFacts ops ce dep := by
  unfold linkOk at h
  simp only [List.all_eq_true, List.mem_range, Bool.and_eq_true] at h
  refine ⟨fun i o ho hi => ?_, fun i o ho cs b hb => ?_, fun i j t hi hj hij hjc ht hl => ?_, fun i j hi hj h1 h2 hlt => ?_⟩
  · have hin : i < ops.size := (Array.getElem?_eq_some_iff.1 ho).1
    have h1 := (h i hin).1.1
    rw [ho] at h1
    simp only [Option.map_some, Option.getD_some, Bool.or_eq_true] at h1
    rcases h1 with h1 | h1
    · exact absurd (by simpa using h1) hi
    · exact h1
  · have hin : i < ops.size := (Array.getElem?_eq_some_iff.1 ho).1
    have h1 := (h i hin).1.2
    rw [ho] at h1
    simp only [Option.map_some, Option.getD_some, noSelect, hb] at h1
    cases h1
  · have h1 := ((h i hi).2 j hj).1
    rw [ht] at h1
    simp only [Bool.or_eq_true, decide_eq_true_eq] at h1
    rcases h1 with (h1 | h1) | h1
    · omega
    · exact hjc (by simpa using h1)
    · have : (looksAt ops i).elem t = true := by simpa using hl
      rw [this] at h1
      cases h1
  · have h3 := ((h i hi).2 j hj).2
    have e1 : ce.elem i = true := by simpa using h1
    have e2 : ce.elem j = true := by simpa using h2
    rw [e1, e2] at h3
    simp only [hlt, decide_true, Bool.and_self, Bool.not_true, Bool.false_or] at h3
    simpa using h3
theorem pickO_later {ops : Array Oper} {ce : List Nat} {dep : Nat} (F : DrawFacts ops ops.size dep) (G : LinkFacts ops ce dep) (p : Nat → Bool) (hp : ∀ i, p i = true → ce.elem i = false) : (pickO ops p).Pairwise (laterOk ops) ∧ ∀ o ∈ pickO ops p, ∀ t ∈ o.looksAt ops, o.dst ≠ some t := by
  constructor
  · unfold pickO
    refine List.Pairwise.filterMap _ (fun i j hij o ho o' ho' => ?_) List.pairwise_lt_range
    split at ho
    case isFalse => cases ho
    split at ho'
    case isFalse => cases ho'
    rename_i hpi hpj
    have hjc : j ∉ ce := by simpa using hp j hpj
    have hi : i < ops.size := (Array.getElem?_eq_some_iff.1 ho).1
    have hj : j < ops.size := (Array.getElem?_eq_some_iff.1 ho').1
    refine ⟨fun t ht e => ?_, fun d hd e => ?_⟩
    · exact G.later i j t hi hj (by omega) hjc (by simp [dstAt, ho', e]) (by simpa [looksAt, ho] using ht)
    · exact F.apart i j hi hj (by omega) d (by simp [dstAt, ho, hd]) (by simp [dstAt, ho', e])
  · intro o ho t ht e
    obtain ⟨i, hpi, ho⟩ := mem_pickO.1 ho
    have hi : i < ops.size := (Array.getElem?_eq_some_iff.1 ho).1
    have hic : i ∉ ce := by simpa using hp i hpi
    exact G.later i i t hi hi (Nat.le_refl _) hic (by simp [dstAt, ho, e]) (by simpa [looksAt, ho] using ht)
theorem unl_iff {ops : Array Oper} {ce : List Nat} {dep : Nat} {l1 : List Nat} {i : Nat} : unl ops ce dep l1 i = true ↔ ∀ j ∈ ce, j ∈ clo ops dep i → j ∈ l1 := by
  unfold unl
  simp only [List.all_eq_true, Bool.or_eq_true, Bool.not_eq_true', List.elem_eq_mem, decide_eq_false_iff_not, decide_eq_true_eq]
  exact forall₂_congr fun j _ => ⟨fun h h2 => h.resolve_left fun h3 => h3 h2, fun h => Decidable.or_iff_not_imp_left.2 fun h2 => h (Decidable.of_not_not h2)⟩
theorem AWP.drawX0 (hT : TabOk P T) (hm : P.follows .mixedOrders = true) {Q : Exit → St → Prop} {id : Nat} {ops : Array Oper} (ce : List Nat) (dep : Nat) (hord : ce.Pairwise (· < ·)) (hchk : drawOk ops ops.size dep = true) (hch : linkOk ops ce dep = true)
    (h : VHead P T ops (quiet0 ops ce dep) s fun s' => VCy P T ops (chainLs ops ce dep [] ce) s' (Q .normal)) : AWP P w0 m0 F0 (.region id ops true) Q s := by
  intro a w hc
  have F := drawFacts hchk
  have G := linkFacts hch
  obtain ⟨m, ω, hC⟩ := hc
  refine wp_region_any hm ?_
  have hg0 : ∀ i, (Array.replicate ops.size false).getD i false = false := fun i => by
    rw [Array.getD_eq_getD_getElem?, Array.getElem?_replicate]
    split <;> rfl
  let D : (Nat → Bool) → List Nat → Nat → Prop := fun S l1 d => ∃ i, i ∉ ce ∧ unl ops ce dep l1 i = true ∧ S i = false ∧ dstAt ops i = some d
  have hqa : ∀ (l1 : List Nat) (o : Oper) (i : Nat), i ∉ ce → ops[i]? = some o → unl ops ce dep l1 i = true → (∀ j ∈ l1, i ∉ clo ops dep j) → o ∈ quietAft ops ce dep l1 := by
    intro l1 o i hi ho hu hj
    refine mem_pickO.2 ⟨i, ?_, ho⟩
    have h1 : ce.elem i = false := by simpa using hi
    have h2 : (l1.any fun j => (clo ops dep j).elem i) = false := by
      rw [List.any_eq_false]
      intro j hj'
      simpa using hj j hj'
    rw [h1, h2, hu]
    rfl
  refine draw_headE hT F (K := Q .normal) (Q := PostQ P w0 m0 F0 Q)
    (C := fun S a w => ∃ l1 l2 t, ce = l1 ++ l2 ∧ (∀ j ∈ l1, S j = true) ∧ (∀ j ∈ l2, S j = false) ∧ VCx P T ops (quietAft ops ce dep l1) (chainLs ops ce dep l1 l2) t (Q .normal) ∧ ∃ ag, Conc P w0 m0 F0 t ag w ∧ Agree (D S l1) a ag)
    (fun s a w h1 h2 => ⟨s, h1, h2⟩) (fun S i a w o ho hi hSi htl hcl hcl2 hC' K' Q' hK => ?_) (fun S a w hall htl hC' => ?_) ops.size _ a _ 0 (by omega) (by simp) ?_ ?_ ?_ ?_
  · obtain ⟨l1, l2, t, e1, e2, e3, hV, ag, ⟨m, ω, hA⟩, hag⟩ := hC'
    have hin : i < ops.size := (Array.getElem?_eq_some_iff.1 ho).1
    have hdone : ∀ j ∈ ce, S j = true → j ∈ l1 := by
      intro j hj hSj
      rw [e1] at hj
      rcases List.mem_append.1 hj with h | h
      · exact h
      · rw [e3 j h] at hSj; cases hSj
    have hlook : ∀ t ∈ o.looksAt ops, ¬ D S l1 t := by
      rintro t ht ⟨j, j1, _, j2, j3⟩
      have htl' : t ∈ looksAt ops i := by simpa [looksAt, ho] using ht
      have hjn : j < ops.size := by
        rcases Nat.lt_or_ge j ops.size with h | h
        · exact h
        · simp [dstAt, Array.getElem?_eq_none h] at j3
      rcases Nat.lt_or_ge j i with hlt | hge
      · have := hcl j ((F.reads i j t hin hjn (by omega) j3 htl').1 hlt)
        rw [j2] at this
        cases this
      · exact G.later i j t hin hjn hge j1 j3 htl'
    have hsel := G.sel i o ho
    have hex := eval_agree hag hsel hlook
    have hwa := wanted_agree hag hlook
    rw [hwa]
    by_cases hic : i ∈ ce
    · -- the chain
      have hi2 : i ∈ l2 := by
        rw [e1] at hic
        rcases List.mem_append.1 hic with h | h
        · have := e2 i h; rw [hSi] at this; cases this
        · exact h
      obtain ⟨k, l2', rfl⟩ : ∃ k l2', l2 = k :: l2' := by
        cases l2 with
        | nil => cases hi2
        | cons k l => exact ⟨k, l, rfl⟩
      have hord2 : (k :: l2').Pairwise (· < ·) := by rw [e1] at hord; exact (List.pairwise_append.1 hord).2.1
      have hki : k = i := by
        rcases List.mem_cons.1 hi2 with h | h
        · exact h.symm
        · have hlt := (List.pairwise_cons.1 hord2).1 i h
          have := hcl k (G.chain i k hin (by omega) hic (by rw [e1]; simp) hlt)
          rw [e3 k (by simp)] at this
          cases this
      subst hki
      have hnot : ∀ j ∈ l2', j ≠ k := fun j hj e => by have := (List.pairwise_cons.1 hord2).1 j hj; omega
      have hV := hV.2
      simp only [chainLs, ho, List.cons_append, List.nil_append, VCy] at hV
      have hunew : ∀ i', i' ∉ ce → unl ops ce dep l1 i' = false → S i' = false := by
        intro i' _ hu
        cases hS : S i' with
        | false => rfl
        | true =>
          have : unl ops ce dep l1 i' = true := unl_iff.2 fun j hj hjc => hdone j hj (hcl2 i' hS j hjc)
          rw [hu] at this
          cases this
      have hDD : ∀ d, D S l1 d → D (fun j => if j = k then true else S j) (l1 ++ [k]) d := by
        rintro d ⟨j, j1, ju, j2, j3⟩
        have hjk : j ≠ k := fun e => j1 (e ▸ hic)
        exact ⟨j, j1, unl_iff.2 fun q hq hqc => List.mem_append_left _ (unl_iff.1 ju q hq hqc), by simpa [hjk] using j2, j3⟩
      have hnext : ∀ t' ar ag' w', VHead P T ops (quietNew ops ce dep l1 k) t' (fun t'' => Stable P T ops (quietOld ops ce dep l1 k) t'' ∧ VCy P T ops (chainLs ops ce dep (l1 ++ [k]) l2') t'' (Q .normal)) → Conc P w0 m0 F0 t' ag' w' → Agree (D S l1) ar ag' → K' ar w' := by
        rintro t' ar ag' w' h1 ⟨m2, ω2, h2⟩ h3
        obtain ⟨ps, hl, ⟨hst, hK2⟩, hs⟩ := VHead_chain _ _ h1
        obtain ⟨hidx, hself⟩ := pickO_later F G (fun i => !ce.elem i && !unl ops ce dep l1 i && unl ops ce dep (l1 ++ [k]) i) (fun i hi => by simp only [Bool.and_eq_true, Bool.not_eq_true'] at hi; exact hi.1.1)
        have hstab := steps_stable hl hidx hself hs
        have h3' : Agree (D (fun j => if j = k then true else S j) (l1 ++ [k])) ar ag' := ⟨h3.1, h3.2.1, fun d hd => h3.2.2 d fun h => hd (hDD d h)⟩
        obtain ⟨ag2, m', h4, h5⟩ := steps_ghost (D := D (fun j => if j = k then true else S j) (l1 ++ [k])) (a0 := ar) hT _ t' ps ag' m2 (fun o' ho' => by
          obtain ⟨i', hi', ho'⟩ := mem_pickO.1 ho'
          simp only [Bool.and_eq_true, Bool.not_eq_true', List.elem_eq_mem, decide_eq_false_iff_not] at hi'
          obtain ⟨⟨q1, q2⟩, q3⟩ := hi'
          have hik : i' ≠ k := fun e => q1 (e ▸ hic)
          exact ⟨G.plain i' o' ho' q1, fun d hd => ⟨i', q1, q3, by simpa [hik] using hunew i' q1 q2, by simp [dstAt, ho', hd]⟩⟩) hl hs h2 h3'
        refine hK _ _ ⟨l1 ++ [k], l2', puts t' ps, by rw [e1]; simp, fun j hj => ?_, fun j hj => ?_, ⟨fun o' ho' => ?_, hK2⟩, ag2, ⟨m', ω2, h4⟩, h5⟩
        · rcases List.mem_append.1 hj with h | h
          · simp only [e2 j h, ite_self]
          · have : j = k := by simpa using h
            simp [this]
        · simp only [hnot j hj, if_false]; exact e3 j (by simp [hj])
        · obtain ⟨i', hi', hoo⟩ := mem_pickO.1 ho'
          simp only [Bool.and_eq_true] at hi'
          obtain ⟨⟨q1, q2⟩, q3⟩ := hi'
          cases hu : unl ops ce dep l1 i' with
          | true => exact hst.x o' (mem_pickO.2 ⟨i', by simp only [q1, hu, q3, Bool.and_self], hoo⟩)
          | false => exact hstab o' (mem_pickO.2 ⟨i', by simp only [q1, hu, q2, Bool.not_false, Bool.and_self], hoo⟩)
      simp only [VOps] at hV
      split at hV
      · rename_i hg
        rw [if_pos (guardOf_sound hA hg)]
        exact .inl (wp_agree hex hag (VOp_sound hT hV hA _ _ fun s' a' w' h1 h2 ar har => hnext s' ar a' w' h1 h2 har))
      · rename_i hg
        rw [if_neg (by rw [guardOf_sound hA hg]; simp)]
        obtain ⟨h1, h2⟩ := pk_elim hV
        exact hnext _ _ (ag.put o.dst undef) w h2 ⟨m, ω, hA.putO h1 arep_undef⟩ (hag.put _ _)
      · cases hV
    · -- a quiet one
      have hun : unl ops ce dep l1 i = true := unl_iff.2 fun j hj hjc => hdone j hj (hcl j hjc)
      have hst := hV.1 o (hqa l1 o i hic ho hun fun j hj hij => by
        have := hcl2 j (e2 j hj) i hij
        rw [hSi] at this
        cases this)
      have hfin : ∀ v m', CI P w0 m0 F0 t (ag.put o.dst v) w m' ω → K' (a.put o.dst v) w := fun v m' h1 =>
        hK _ _ ⟨l1, l2, t, e1, fun j hj => by simp only [e2 j hj, ite_self], fun j hj => by
          have : j ≠ i := fun e => hic (by rw [e1]; simp [← e, hj])
          simp only [this, if_false]; exact e3 j hj, hV, ag.put o.dst v, ⟨m', ω, h1⟩, hag.putOf _ _ fun e h1 h2 => by
            obtain ⟨j, j1, ju, j2, j3⟩ := h2
            by_cases hji : j = i
            · subst hji
              simpa [dstAt, ho] using j3
            · exact absurd ⟨j, j1, ju, by simpa [hji] using j2, j3⟩ h1⟩
      unfold StabX at hst
      split at hst
      · rename_i hg
        rw [if_pos (guardOf_sound hA hg)]
        obtain ⟨y, hy, hst⟩ := hst
        obtain ⟨x, hx, hG⟩ := VVal_sound hT hst hA
        have hx : sameA t o.dst x := hx ▸ hy
        obtain ⟨v, m', hrun, hC2, hv⟩ := hG.2 (G.plain i o ho hic)
        refine .inl ?_
        unfold Oper.wp
        rw [hex, hrun, Oper.upon_value]
        exact hfin v m' (hC2.same hx hv)
      · rename_i hg
        rw [if_neg (by rw [guardOf_sound hA hg]; simp)]
        exact hfin _ m (hA.same hst arep_undef)
      · cases hst
  · obtain ⟨l1, l2, t, e1, e2, e3, hV, ag, hA, hag⟩ := hC'
    have hl2 : ∀ (l1 l2 : List Nat), (∀ j ∈ l2, ops[j]? = none) → chainLs ops ce dep l1 l2 = [] := by
      intro l1 l2
      induction l2 generalizing l1 with
      | nil => intro _; rfl
      | cons j l2 ih =>
        intro hj
        simp only [chainLs, hj j (by simp), List.nil_append]
        exact ih _ fun j' hj' => hj j' (by simp [hj'])
    have hl2 := hl2 l1 l2 fun j hj => by
      rcases Nat.lt_or_ge j ops.size with h | h
      · have := hall j h
        rw [e3 j hj] at this
        cases this
      · exact Array.getElem?_eq_none h
    rw [hl2] at hV
    have hD : ∀ d, ¬ D S l1 d := by
      rintro d ⟨j, j1, _, j2, j3⟩
      rcases Nat.lt_or_ge j ops.size with h | h
      · have := hall j h
        rw [j2] at this
        cases this
      · simp [dstAt, Array.getElem?_eq_none h] at j3
    have hea : ag = a := by
      obtain ⟨h1, h2, h3⟩ := hag
      cases ag
      cases a
      simp only at h1 h2 h3
      subst h1
      congr 1
      exact Array.ext_getElem? fun d => h3 d (hD d)
    subst hea
    refine ⟨t, ?_, hA⟩
    have hd : ops.toList.drop ops.size = [] := by apply List.drop_eq_nil_of_le; simp
    rw [hd]
    exact hV.2
  · rw [List.filter_eq_nil_iff.2 (fun i _ => by rw [hg0]; simp)]
    rfl
  · intro i _ hb
    rw [hg0] at hb
    cases hb
  · intro i _
    exact hg0 i
  · obtain ⟨ps, hl, hK, hs⟩ := VHead_chain _ _ h
    obtain ⟨hidx, hself⟩ := pickO_later F G (fun i => !ce.elem i && unl ops ce dep [] i) (fun i hi => by simp only [Bool.and_eq_true, Bool.not_eq_true'] at hi; exact hi.1)
    have hstab := steps_stable hl hidx hself hs
    obtain ⟨ag, m', h2, h3⟩ := steps_ghost (D := D (fun i => (Array.replicate ops.size false).getD i false) []) (a0 := a) hT _ s ps a m (fun o ho => by
      obtain ⟨i, hi, ho⟩ := mem_pickO.1 ho
      simp only [Bool.and_eq_true, Bool.not_eq_true', List.elem_eq_mem, decide_eq_false_iff_not] at hi
      exact ⟨G.plain i o ho hi.1, fun d hd => ⟨i, hi.1, hi.2, hg0 i, by simp [dstAt, ho, hd]⟩⟩) hl hs hC.draw (Agree.refl _ _)
    refine ⟨[], ce, puts s ps, rfl, fun j hj => (by cases hj), fun j _ => hg0 j, ⟨fun o ho => hstab o ?_, hK⟩, ag, ⟨m', ω, h2⟩, h3⟩
    obtain ⟨i, hi, ho⟩ := mem_pickO.1 ho
    simp only [Bool.and_eq_true] at hi
    exact mem_pickO.2 ⟨i, by simp only [hi.1, Bool.and_self], ho⟩

def segx (l : List Oper) : List (Nat × List (Nat × Nat) × List (Nat × Nat)) → List Link
  | [] => []
  | p :: r => (match l[p.1]? with | some o => [⟨o, segs l p.2.1, segs l p.2.2⟩] | none => []) ++ segx l r
theorem segx_nil (l : List Oper) : segx l [] = [] := rfl
theorem segx_cons (l : List Oper) (i : Nat) (q f : List (Nat × Nat)) (r : List (Nat × List (Nat × Nat) × List (Nat × Nat))) : segx l ((i, f, q) :: r) = (match l[i]? with | some o => [⟨o, segs l f, segs l q⟩] | none => []) ++ segx l r := rfl
theorem AWP.drawX (hT : TabOk P T) (hm : P.follows .mixedOrders = true) {Q : Exit → St → Prop} {id : Nat} {l : List Oper} (sq : List (Nat × Nat)) (sx : List (Nat × List (Nat × Nat) × List (Nat × Nat))) (ce : List Nat) (dep : Nat) (hord : ce.Pairwise (· < ·)) (hchk : drawOk l.toArray l.toArray.size dep = true) (hch : linkOk l.toArray ce dep = true)
    (h1 : quiet0 l.toArray ce dep = segs l sq) (h2 : chainLs l.toArray ce dep [] ce = segx l sx)
    (h : ∀ K2 : St → Prop, (∀ s', (∀ K : St → Prop, (∀ s', Q .normal s' → K s') → VCy P T l.toArray (segx l sx) s' K) → K2 s') → VHead P T l.toArray (segs l sq) s K2) : AWP P w0 m0 F0 (.region id l.toArray true) Q s :=
  AWP.drawX0 hT hm ce dep hord hchk hch (by rw [h1, h2]; exact h _ fun s' h => h _ fun _ h => h)
theorem VCy.step {ops : Array Oper} {lq ln : List Oper} {o : Oper} {l : List Link} {t : St} {K : St → Prop} (h : ∀ K2 : St → Prop, (∀ t', VHead P T ops ln t' (fun t'' => Stable P T ops lq t'' ∧ VCy P T ops l t'' K) → K2 t') → VOps P T ops [o] t K2) : VCy P T ops (⟨o, ln, lq⟩ :: l) t K :=
  h _ fun _ h => h
theorem VCy.none {ops : Array Oper} {lq : List Oper} {l : List Link} {t : St} {K : St → Prop} (h : Stable P T ops lq t ∧ VCy P T ops l t K) : VHead P T ops [] t (fun t'' => Stable P T ops lq t'' ∧ VCy P T ops l t'' K) := h
theorem VCy.some {ops : Array Oper} {lq ln : List Oper} {o : Oper} {l : List Link} {t : St} {K : St → Prop} (h : ∀ K2 : St → Prop, (∀ t', (Stable P T ops lq t' ∧ VCy P T ops l t' K) → K2 t') → VHead P T ops (o :: ln) t K2) : VHead P T ops (o :: ln) t (fun t'' => Stable P T ops lq t'' ∧ VCy P T ops l t'' K) :=
  h _ fun _ h => h
theorem VCy.intro {A : (St → Prop) → Prop} {ops : Array Oper} {l : List Link} {t : St} (h : ∀ K : St → Prop, A K → VCy P T ops l t K) : ∀ K : St → Prop, A K → VCy P T ops l t K := h
theorem VCy.keep {ops : Array Oper} {t : St} {l : List Oper} {A : Prop} (h1 : Stable P T ops l t) (h : A) : Stable P T ops l t ∧ A := ⟨h1, h⟩
theorem VCy.quiet {ops : Array Oper} {t : St} {A : Prop} (h : A) : Stable P T ops [] t ∧ A := ⟨trivial, h⟩
theorem VCy.fin {ops : Array Oper} {t : St} {K : St → Prop} (h : K t) : VCy P T ops [] t K := h
end

section
open Go.RowKit
variable {P : Program} {T : TypeId → Option TI} {w0 : World} {m0 : Mem} {F0 : Home} {s : St} {ω : Wh}

inductive CT where
  | leaf
  | fail
  | none
  | cons (p : Link) (kid rest : CT)
def VCt (P : Program) (T : TypeId → Option TI) (ops : Array Oper) : CT → St → (St → Prop) → Prop
  | .leaf, t, K => K t
  | .fail, _, _ => False
  | .none, _, _ => True
  | .cons p kid rest, t, K => VOps P T ops [p.op] t (fun t' => VHead P T ops p.free t' (fun t'' => Stable P T ops p.rest t'' ∧ VCt P T ops kid t'' K)) ∧ VCt P T ops rest t K
def kidsOf (ops : Array Oper) (ce : List Nat) (dep : Nat) (l1 : List Nat) (kid : Nat → CT) : List Nat → CT
  | [] => .none
  | k :: r => if l1.elem k || !unl ops ce dep l1 k then kidsOf ops ce dep l1 kid r else match ops[k]? with
    | some o => .cons ⟨o, quietNew ops ce dep l1 k, quietOld ops ce dep l1 k⟩ (kid k) (kidsOf ops ce dep l1 kid r)
    | none => .fail
def chainTree (ops : Array Oper) (ce : List Nat) (dep : Nat) : Nat → List Nat → CT
  | 0, l1 => if ce.all (fun j => l1.elem j) then .leaf else .fail
  | n + 1, l1 => if ce.all (fun j => l1.elem j) then .leaf else kidsOf ops ce dep l1 (fun k => chainTree ops ce dep n (l1 ++ [k])) ce
theorem kid_of {ops : Array Oper} {ce : List Nat} {dep : Nat} {l1 : List Nat} {kid : Nat → CT} {t : St} {K : St → Prop} {k : Nat} {o : Oper} (ho : ops[k]? = some o) (h1 : k ∉ l1) (h2 : unl ops ce dep l1 k = true) : ∀ (l : List Nat), k ∈ l → VCt P T ops (kidsOf ops ce dep l1 kid l) t K →
    VOps P T ops [o] t (fun t' => VHead P T ops (quietNew ops ce dep l1 k) t' (fun t'' => Stable P T ops (quietOld ops ce dep l1 k) t'' ∧ VCt P T ops (kid k) t'' K))
  | q :: r, hk, h => by
    unfold kidsOf at h
    by_cases hq : q = k
    · subst hq
      rw [if_neg (by simp [h1, h2])] at h
      rw [ho] at h
      exact h.1
    · have hk : k ∈ r := by
        rcases List.mem_cons.1 hk with e | e
        · exact absurd e.symm hq
        · exact e
      split at h
      · exact kid_of ho h1 h2 r hk h
      · split at h
        · exact kid_of ho h1 h2 r hk h.2
        · exact h.elim
def freeOk (ops : Array Oper) (ce : List Nat) : Bool :=
  (List.range ops.size).all fun i => (ce.elem i || ((ops[i]?).map plainOp).getD true) && ((ops[i]?).map noSelect).getD true &&
    (List.range ops.size).all fun j => (decide (j < i) || ce.elem j || match dstAt ops j with | none => true | some t => !(looksAt ops i).elem t)
structure FreeFacts (ops : Array Oper) (ce : List Nat) : Prop where
  plain : ∀ (i : Nat) (o : Oper), ops[i]? = some o → i ∉ ce → plainOp o = true
  sel : ∀ (i : Nat) (o : Oper), ops[i]? = some o → ∀ cs b, o.op ≠ .select cs b
  later : ∀ i j t, i < ops.size → j < ops.size → i ≤ j → j ∉ ce → dstAt ops j = some t → t ∉ looksAt ops i
theorem freeFacts {ops : Array Oper} {ce : List Nat} (h : freeOk ops ce = true) : FreeFacts ops ce := by
  unfold freeOk at h
  simp only [List.all_eq_true, List.mem_range, Bool.and_eq_true] at h
  refine ⟨fun i o ho hi => ?_, fun i o ho cs b hb => ?_, fun i j t hi hj hij hjc ht hl => ?_⟩
  · have hin : i < ops.size := (Array.getElem?_eq_some_iff.1 ho).1
    have h1 := (h i hin).1.1
    rw [ho] at h1
    simp only [Option.map_some, Option.getD_some, Bool.or_eq_true] at h1
    rcases h1 with h1 | h1
    · exact absurd (by simpa using h1) hi
    · exact h1
  · have hin : i < ops.size := (Array.getElem?_eq_some_iff.1 ho).1
    have h1 := (h i hin).1.2
    rw [ho] at h1
    simp only [Option.map_some, Option.getD_some, noSelect, hb] at h1
    cases h1
  · have h1 := (h i hi).2 j hj
    rw [ht] at h1
    simp only [Bool.or_eq_true, decide_eq_true_eq] at h1
    rcases h1 with (h1 | h1) | h1
    · omega
    · exact hjc (by simpa using h1)
    · have : (looksAt ops i).elem t = true := by simpa using hl
      rw [this] at h1
      cases h1

theorem pickO_free {ops : Array Oper} {ce : List Nat} {dep : Nat} (F : DrawFacts ops ops.size dep) (G : FreeFacts ops ce) (p : Nat → Bool) (hp : ∀ i, p i = true → ce.elem i = false) : (pickO ops p).Pairwise (laterOk ops) ∧ ∀ o ∈ pickO ops p, ∀ t ∈ o.looksAt ops, o.dst ≠ some t := by
  constructor
  · unfold pickO
    refine List.Pairwise.filterMap _ (fun i j hij o ho o' ho' => ?_) List.pairwise_lt_range
    split at ho
    case isFalse => cases ho
    split at ho'
    case isFalse => cases ho'
    rename_i hpi hpj
    have hjc : j ∉ ce := by simpa using hp j hpj
    have hi : i < ops.size := (Array.getElem?_eq_some_iff.1 ho).1
    have hj : j < ops.size := (Array.getElem?_eq_some_iff.1 ho').1
    refine ⟨fun t ht e => ?_, fun d hd e => ?_⟩
    · exact G.later i j t hi hj (by omega) hjc (by simp [dstAt, ho', e]) (by simpa [looksAt, ho] using ht)
    · exact F.apart i j hi hj (by omega) d (by simp [dstAt, ho, hd]) (by simp [dstAt, ho', e])
  · intro o ho t ht e
    obtain ⟨i, hpi, ho⟩ := mem_pickO.1 ho
    have hi : i < ops.size := (Array.getElem?_eq_some_iff.1 ho).1
    have hic : i ∉ ce := by simpa using hp i hpi
    exact G.later i i t hi hi (Nat.le_refl _) hic (by simp [dstAt, ho, e]) (by simpa [looksAt, ho] using ht)
theorem AWP.drawY0 (hT : TabOk P T) (hm : P.follows .mixedOrders = true) {Q : Exit → St → Prop} {id : Nat} {ops : Array Oper} (ce : List Nat) (dep : Nat) (hce : ∀ j ∈ ce, j < ops.size) (hchk : drawOk ops ops.size dep = true) (hch : freeOk ops ce = true)
    (h : VHead P T ops (quiet0 ops ce dep) s fun s' => VCt P T ops (chainTree ops ce dep ce.length []) s' (Q .normal)) : AWP P w0 m0 F0 (.region id ops true) Q s := by
  intro a w hc
  have F := drawFacts hchk
  have G := freeFacts hch
  obtain ⟨m, ω, hC⟩ := hc
  refine wp_region_any hm ?_
  have hg0 : ∀ i, (Array.replicate ops.size false).getD i false = false := fun i => by
    rw [Array.getD_eq_getD_getElem?, Array.getElem?_replicate]
    split <;> rfl
  let D : (Nat → Bool) → List Nat → Nat → Prop := fun S l1 d => ∃ i, i ∉ ce ∧ unl ops ce dep l1 i = true ∧ S i = false ∧ dstAt ops i = some d
  have hqa : ∀ (l1 : List Nat) (o : Oper) (i : Nat), i ∉ ce → ops[i]? = some o → unl ops ce dep l1 i = true → (∀ j ∈ l1, i ∉ clo ops dep j) → o ∈ quietAft ops ce dep l1 := by
    intro l1 o i hi ho hu hj
    refine mem_pickO.2 ⟨i, ?_, ho⟩
    have h1 : ce.elem i = false := by simpa using hi
    have h2 : (l1.any fun j => (clo ops dep j).elem i) = false := by
      rw [List.any_eq_false]
      intro j hj'
      simpa using hj j hj'
    rw [h1, h2, hu]
    rfl
  refine draw_headE hT F (K := Q .normal) (Q := PostQ P w0 m0 F0 Q)
    (C := fun S a w => ∃ l1 n t, (∀ j ∈ l1, S j = true) ∧ (∀ j ∈ ce, j ∉ l1 → S j = false) ∧ (∀ o ∈ quietAft ops ce dep l1, StabX P T ops t o) ∧ VCt P T ops (chainTree ops ce dep n l1) t (Q .normal) ∧ ∃ ag, Conc P w0 m0 F0 t ag w ∧ Agree (D S l1) a ag)
    (fun s a w h1 h2 => ⟨s, h1, h2⟩) (fun S i a w o ho hi hSi htl hcl hcl2 hC' K' Q' hK => ?_) (fun S a w hall htl hC' => ?_) ops.size _ a _ 0 (by omega) (by simp) ?_ ?_ ?_ ?_
  · obtain ⟨l1, n, t, e2, e3, hSt, hV, ag, ⟨m, ω, hA⟩, hag⟩ := hC'
    have hin : i < ops.size := (Array.getElem?_eq_some_iff.1 ho).1
    have hdone : ∀ j ∈ ce, S j = true → j ∈ l1 := by
      intro j hj hSj
      by_cases h : j ∈ l1
      · exact h
      · rw [e3 j hj h] at hSj; cases hSj
    have hlook : ∀ t ∈ o.looksAt ops, ¬ D S l1 t := by
      rintro t ht ⟨j, j1, _, j2, j3⟩
      have htl' : t ∈ looksAt ops i := by simpa [looksAt, ho] using ht
      have hjn : j < ops.size := by
        rcases Nat.lt_or_ge j ops.size with h | h
        · exact h
        · simp [dstAt, Array.getElem?_eq_none h] at j3
      rcases Nat.lt_or_ge j i with hlt | hge
      · have := hcl j ((F.reads i j t hin hjn (by omega) j3 htl').1 hlt)
        rw [j2] at this
        cases this
      · exact G.later i j t hin hjn hge j1 j3 htl'
    have hsel := G.sel i o ho
    have hex := eval_agree hag hsel hlook
    have hwa := wanted_agree hag hlook
    rw [hwa]
    by_cases hic : i ∈ ce
    · -- the chain
      have hk1 : i ∉ l1 := fun h => by rw [e2 i h] at hSi; cases hSi
      have hun : unl ops ce dep l1 i = true := unl_iff.2 fun j hj hjc => hdone j hj (hcl j hjc)
      have hnall : (ce.all fun j => l1.elem j) = false := by
        rw [List.all_eq_false]
        exact ⟨i, hic, by simpa using hk1⟩
      obtain ⟨n, rfl⟩ : ∃ n', n = n' + 1 := by
        cases n with
        | zero =>
          rw [chainTree, hnall] at hV
          exact hV.elim
        | succ n => exact ⟨n, rfl⟩
      rw [chainTree, hnall] at hV
      have hV := kid_of ho hk1 hun ce hic hV
      generalize i = k at *
      have hunew : ∀ i', i' ∉ ce → unl ops ce dep l1 i' = false → S i' = false := by
        intro i' _ hu
        cases hS : S i' with
        | false => rfl
        | true =>
          have : unl ops ce dep l1 i' = true := unl_iff.2 fun j hj hjc => hdone j hj (hcl2 i' hS j hjc)
          rw [hu] at this
          cases this
      have hDD : ∀ d, D S l1 d → D (fun j => if j = k then true else S j) (l1 ++ [k]) d := by
        rintro d ⟨j, j1, ju, j2, j3⟩
        have hjk : j ≠ k := fun e => j1 (e ▸ hic)
        exact ⟨j, j1, unl_iff.2 fun q hq hqc => List.mem_append_left _ (unl_iff.1 ju q hq hqc), by simpa [hjk] using j2, j3⟩
      have hnext : ∀ t' ar ag' w', VHead P T ops (quietNew ops ce dep l1 k) t' (fun t'' => Stable P T ops (quietOld ops ce dep l1 k) t'' ∧ VCt P T ops (chainTree ops ce dep n (l1 ++ [k])) t'' (Q .normal)) → Conc P w0 m0 F0 t' ag' w' → Agree (D S l1) ar ag' → K' ar w' := by
        rintro t' ar ag' w' h1 ⟨m2, ω2, h2⟩ h3
        obtain ⟨ps, hl, ⟨hst, hK2⟩, hs⟩ := VHead_chain _ _ h1
        obtain ⟨hidx, hself⟩ := pickO_free F G (fun i => !ce.elem i && !unl ops ce dep l1 i && unl ops ce dep (l1 ++ [k]) i) (fun i hi => by simp only [Bool.and_eq_true, Bool.not_eq_true'] at hi; exact hi.1.1)
        have hstab := steps_stable hl hidx hself hs
        have h3' : Agree (D (fun j => if j = k then true else S j) (l1 ++ [k])) ar ag' := ⟨h3.1, h3.2.1, fun d hd => h3.2.2 d fun h => hd (hDD d h)⟩
        obtain ⟨ag2, m', h4, h5⟩ := steps_ghost (D := D (fun j => if j = k then true else S j) (l1 ++ [k])) (a0 := ar) hT _ t' ps ag' m2 (fun o' ho' => by
          obtain ⟨i', hi', ho'⟩ := mem_pickO.1 ho'
          simp only [Bool.and_eq_true, Bool.not_eq_true', List.elem_eq_mem, decide_eq_false_iff_not] at hi'
          obtain ⟨⟨q1, q2⟩, q3⟩ := hi'
          have hik : i' ≠ k := fun e => q1 (e ▸ hic)
          exact ⟨G.plain i' o' ho' q1, fun d hd => ⟨i', q1, q3, by simpa [hik] using hunew i' q1 q2, by simp [dstAt, ho', hd]⟩⟩) hl hs h2 h3'
        refine hK _ _ ⟨l1 ++ [k], n, puts t' ps, fun j hj => ?_, fun j hj hjn => ?_, fun o' ho' => ?_, hK2, ag2, ⟨m', ω2, h4⟩, h5⟩
        · rcases List.mem_append.1 hj with h | h
          · simp only [e2 j h, ite_self]
          · have : j = k := by simpa using h
            simp [this]
        · have h1 : j ∉ l1 := fun h => hjn (List.mem_append_left _ h)
          have h2 : j ≠ k := fun h => hjn (by simp [h])
          simp only [h2, if_false]; exact e3 j hj h1
        · obtain ⟨i', hi', hoo⟩ := mem_pickO.1 ho'
          simp only [Bool.and_eq_true] at hi'
          obtain ⟨⟨q1, q2⟩, q3⟩ := hi'
          cases hu : unl ops ce dep l1 i' with
          | true => exact hst.x o' (mem_pickO.2 ⟨i', by simp only [q1, hu, q3, Bool.and_self], hoo⟩)
          | false => exact hstab o' (mem_pickO.2 ⟨i', by simp only [q1, hu, q2, Bool.not_false, Bool.and_self], hoo⟩)
      simp only [VOps] at hV
      split at hV
      · rename_i hg
        rw [if_pos (guardOf_sound hA hg)]
        exact .inl (wp_agree hex hag (VOp_sound hT hV hA _ _ fun s' a' w' h1 h2 ar har => hnext s' ar a' w' h1 h2 har))
      · rename_i hg
        rw [if_neg (by rw [guardOf_sound hA hg]; simp)]
        obtain ⟨h1, h2⟩ := pk_elim hV
        exact hnext _ _ (ag.put o.dst undef) w h2 ⟨m, ω, hA.putO h1 arep_undef⟩ (hag.put _ _)
      · cases hV
    · -- a quiet one
      have hun : unl ops ce dep l1 i = true := unl_iff.2 fun j hj hjc => hdone j hj (hcl j hjc)
      have hst := hSt o (hqa l1 o i hic ho hun fun j hj hij => by
        have := hcl2 j (e2 j hj) i hij
        rw [hSi] at this
        cases this)
      have hfin : ∀ v m', CI P w0 m0 F0 t (ag.put o.dst v) w m' ω → K' (a.put o.dst v) w := fun v m' h1 =>
        hK _ _ ⟨l1, n, t, fun j hj => by simp only [e2 j hj, ite_self], fun j hj hjn => by
          have : j ≠ i := fun e => hic (e ▸ hj)
          simp only [this, if_false]; exact e3 j hj hjn, hSt, hV, ag.put o.dst v, ⟨m', ω, h1⟩, hag.putOf _ _ fun e h1 h2 => by
            obtain ⟨j, j1, ju, j2, j3⟩ := h2
            by_cases hji : j = i
            · subst hji
              simpa [dstAt, ho] using j3
            · exact absurd ⟨j, j1, ju, by simpa [hji] using j2, j3⟩ h1⟩
      unfold StabX at hst
      split at hst
      · rename_i hg
        rw [if_pos (guardOf_sound hA hg)]
        obtain ⟨y, hy, hst⟩ := hst
        obtain ⟨x, hx, hG⟩ := VVal_sound hT hst hA
        have hx : sameA t o.dst x := hx ▸ hy
        obtain ⟨v, m', hrun, hC2, hv⟩ := hG.2 (G.plain i o ho hic)
        refine .inl ?_
        unfold Oper.wp
        rw [hex, hrun, Oper.upon_value]
        exact hfin v m' (hC2.same hx hv)
      · rename_i hg
        rw [if_neg (by rw [guardOf_sound hA hg]; simp)]
        exact hfin _ m (hA.same hst arep_undef)
      · cases hst
  · obtain ⟨l1, n, t, e2, e3, hSt, hV, ag, hA, hag⟩ := hC'
    have hin : ∀ j ∈ ce, j < ops.size → j ∈ l1 := by
      intro j hj hjs
      have h1 := hall j hjs
      by_cases h : j ∈ l1
      · exact h
      · rw [e3 j hj h] at h1; cases h1
    have hKt : Q .normal t := by
      have hall2 : (ce.all fun j => l1.elem j) = true ∨ ∃ j ∈ ce, j ∉ l1 ∧ ops[j]? = none := by
        cases hb : ce.all fun j => l1.elem j with
        | true => exact .inl rfl
        | false =>
          rw [List.all_eq_false] at hb
          obtain ⟨j, hj, hjn⟩ := hb
          refine .inr ⟨j, hj, by simpa using hjn, ?_⟩
          rcases Nat.lt_or_ge j ops.size with h | h
          · exact absurd (hin j hj h) (by simpa using hjn)
          · exact Array.getElem?_eq_none h
      rcases hall2 with hb | ⟨j, hj, hjn, hjo⟩
      · cases n with
        | zero => rw [chainTree, hb] at hV; exact hV
        | succ n => rw [chainTree, hb] at hV; exact hV
      · have : j < ops.size := hce j hj
        rw [Array.getElem?_eq_none_iff] at hjo
        omega
    have hD : ∀ d, ¬ D S l1 d := by
      rintro d ⟨j, j1, _, j2, j3⟩
      rcases Nat.lt_or_ge j ops.size with h | h
      · have := hall j h
        rw [j2] at this
        cases this
      · simp [dstAt, Array.getElem?_eq_none h] at j3
    have hea : ag = a := by
      obtain ⟨h1, h2, h3⟩ := hag
      cases ag
      cases a
      simp only at h1 h2 h3
      subst h1
      congr 1
      exact Array.ext_getElem? fun d => h3 d (hD d)
    subst hea
    refine ⟨t, ?_, hA⟩
    have hd : ops.toList.drop ops.size = [] := by apply List.drop_eq_nil_of_le; simp
    rw [hd]
    exact hKt
  · rw [List.filter_eq_nil_iff.2 (fun i _ => by rw [hg0]; simp)]
    rfl
  · intro i _ hb
    rw [hg0] at hb
    cases hb
  · intro i _
    exact hg0 i
  · obtain ⟨ps, hl, hK, hs⟩ := VHead_chain _ _ h
    obtain ⟨hidx, hself⟩ := pickO_free F G (fun i => !ce.elem i && unl ops ce dep [] i) (fun i hi => by simp only [Bool.and_eq_true, Bool.not_eq_true'] at hi; exact hi.1)
    have hstab := steps_stable hl hidx hself hs
    obtain ⟨ag, m', h2, h3⟩ := steps_ghost (D := D (fun i => (Array.replicate ops.size false).getD i false) []) (a0 := a) hT _ s ps a m (fun o ho => by
      obtain ⟨i, hi, ho⟩ := mem_pickO.1 ho
      simp only [Bool.and_eq_true, Bool.not_eq_true', List.elem_eq_mem, decide_eq_false_iff_not] at hi
      exact ⟨G.plain i o ho hi.1, fun d hd => ⟨i, hi.1, hi.2, hg0 i, by simp [dstAt, ho, hd]⟩⟩) hl hs hC.draw (Agree.refl _ _)
    refine ⟨[], ce.length, puts s ps, fun j hj => (by cases hj), fun j _ _ => hg0 j, fun o ho => hstab o ?_, hK, ag, ⟨m', ω, h2⟩, h3⟩
    obtain ⟨i, hi, ho⟩ := mem_pickO.1 ho
    simp only [Bool.and_eq_true] at hi
    exact mem_pickO.2 ⟨i, by simp only [hi.1, Bool.and_self], ho⟩

inductive PT where
  | leaf
  | none
  | cons (i : Nat) (free rest : List (Nat × Nat)) (kid rest' : PT)
def segt (l : List Oper) : PT → CT
  | .leaf => .leaf
  | .none => .none
  | .cons i f q kid r => match l[i]? with | some o => .cons ⟨o, segs l f, segs l q⟩ (segt l kid) (segt l r) | none => .fail
theorem segt_leaf (l : List Oper) : segt l .leaf = .leaf := rfl
theorem segt_none (l : List Oper) : segt l .none = .none := rfl
theorem segt_cons (l : List Oper) (i : Nat) (f q : List (Nat × Nat)) (kid r : PT) : segt l (.cons i f q kid r) = (match l[i]? with | some o => .cons ⟨o, segs l f, segs l q⟩ (segt l kid) (segt l r) | none => .fail) := rfl
theorem AWP.drawY (hT : TabOk P T) (hm : P.follows .mixedOrders = true) {Q : Exit → St → Prop} {id : Nat} {l : List Oper} (sq : List (Nat × Nat)) (pt : PT) (ce : List Nat) (dep : Nat) (hce : ∀ j ∈ ce, j < l.toArray.size) (hchk : drawOk l.toArray l.toArray.size dep = true) (hch : freeOk l.toArray ce = true)
    (h1 : quiet0 l.toArray ce dep = segs l sq) (h2 : chainTree l.toArray ce dep ce.length [] = segt l pt)
    (h : ∀ K2 : St → Prop, (∀ s', (∀ K : St → Prop, (∀ s', Q .normal s' → K s') → VCt P T l.toArray (segt l pt) s' K) → K2 s') → VHead P T l.toArray (segs l sq) s K2) : AWP P w0 m0 F0 (.region id l.toArray true) Q s :=
  AWP.drawY0 hT hm ce dep hce hchk hch (by rw [h1, h2]; exact h _ fun s' h => h _ fun _ h => h)
theorem VCt.step {ops : Array Oper} {lq ln : List Oper} {o : Oper} {kid : CT} {t : St} {K : St → Prop} (h : ∀ K2 : St → Prop, (∀ t', VHead P T ops ln t' (fun t'' => Stable P T ops lq t'' ∧ VCt P T ops kid t'' K) → K2 t') → VOps P T ops [o] t K2) : VCt P T ops (.cons ⟨o, ln, lq⟩ kid .none) t K :=
  ⟨h _ fun _ h => h, trivial⟩
theorem VCt.fork {ops : Array Oper} {lq ln : List Oper} {o : Oper} {kid : CT} {p : Link} {k2 r2 : CT} {t : St} {K : St → Prop} (h : ∀ K2 : St → Prop, (∀ t', VHead P T ops ln t' (fun t'' => Stable P T ops lq t'' ∧ VCt P T ops kid t'' K) → K2 t') → VOps P T ops [o] t K2) (h2 : VCt P T ops (.cons p k2 r2) t K) : VCt P T ops (.cons ⟨o, ln, lq⟩ kid (.cons p k2 r2)) t K :=
  ⟨h _ fun _ h => h, h2⟩
theorem VCt.none {ops : Array Oper} {lq : List Oper} {kid : CT} {t : St} {K : St → Prop} (h : Stable P T ops lq t ∧ VCt P T ops kid t K) : VHead P T ops [] t (fun t'' => Stable P T ops lq t'' ∧ VCt P T ops kid t'' K) := h
theorem VCt.some {ops : Array Oper} {lq ln : List Oper} {o : Oper} {kid : CT} {t : St} {K : St → Prop} (h : ∀ K2 : St → Prop, (∀ t', (Stable P T ops lq t' ∧ VCt P T ops kid t' K) → K2 t') → VHead P T ops (o :: ln) t K2) : VHead P T ops (o :: ln) t (fun t'' => Stable P T ops lq t'' ∧ VCt P T ops kid t'' K) :=
  h _ fun _ h => h
theorem VCt.intro {A : (St → Prop) → Prop} {ops : Array Oper} {kid : CT} {t : St} (h : ∀ K : St → Prop, A K → VCt P T ops kid t K) : ∀ K : St → Prop, A K → VCt P T ops kid t K := h
theorem VCt.fin {ops : Array Oper} {t : St} {K : St → Prop} (h : K t) : VCt P T ops .leaf t K := h
end

section
open Go.RowKit
section
variable {P : Program} {T : TypeId → Option TI} {w0 : World} {m0 : Mem} {F0 : Home} {s s' : St} {a : Act} {w : World} {m : Mem} {ω : Wh}

def SemOp (P : Program) (o : Oper) (s : St) (K : St → Prop) : Prop := ∀ (w0 : World) (m0 : Mem) (F0 : Home) (a : Act) (w : World) (m : Mem) (ω : Wh), CI P w0 m0 F0 s a w m ω → Follows P w0 m0 F0 o a w K
def VOpsX (P : Program) (T : TypeId → Option TI) (ops : Array Oper) : List Oper → St → (St → Prop) → Prop
  | [], s, K => K s
  | o :: l, s, K => (o.guard = none ∧ SemOp P o s fun s' => VOpsX P T ops l s' K) ∨ VOps P T ops [o] s fun s' => VOpsX P T ops l s' K
theorem VOpsX.step {ops : Array Oper} {o : Oper} {l : List Oper} {K : St → Prop} (h : ∀ K2 : St → Prop, (∀ s', VOpsX P T ops l s' K → K2 s') → VOps P T ops [o] s K2) : VOpsX P T ops (o :: l) s K := .inr (h _ fun _ h => h)
theorem VOpsX.fin {ops : Array Oper} {K : St → Prop} (h : K s) : VOpsX P T ops [] s K := h
theorem AWP.isRegion (id : Nat) {ops : Array Oper} {d : Bool} {Q : Exit → St → Prop} (h : AWP P w0 m0 F0 (.region id ops d) Q s) : AWP P w0 m0 F0 (.region id ops d) Q s := h
end
end

section
open Go.RowKit
section
variable {P : Program} {w0 : World} {m0 : Mem} {s : St} {a : Act} {w : World} {m : Mem} {ω : Wh} {F0 : Home}

def setCell (xs : List (List L)) (i j : Nat) (l : L) : List (List L) := xs.set i ((xs.getD i []).set j l)
theorem setCell_length (xs : List (List L)) (i j : Nat) (l : L) : (setCell xs i j l).length = xs.length := by simp [setCell]
theorem setCell_sz {xs : List (List L)} {i j : Nat} {l : L} {sz : Nat} (h : ∀ x ∈ xs, x.length = sz) : ∀ x ∈ setCell xs i j l, x.length = sz := by
  intro x hx
  unfold setCell at hx
  by_cases hi : i < xs.length
  · rcases List.mem_or_eq_of_mem_set hx with hx | rfl
    · exact h x hx
    · rw [List.length_set, List.getD_eq_getElem?_getD, List.getElem?_eq_getElem hi]
      exact h _ (List.getElem_mem hi)
  · rw [List.set_eq_of_length_le (by omega)] at hx
    exact h x hx
theorem cellOf_setCell {xs : List (List L)} {i j : Nat} {l u : L} {i' j' : Nat} (h : cellOf (setCell xs i j l) i' j' = some u) : (i' = i ∧ j' = j ∧ u = l) ∨ (¬ (i' = i ∧ j' = j) ∧ cellOf xs i' j' = some u) := by
  unfold cellOf setCell at h
  rw [List.getElem?_set] at h
  by_cases e : i = i'
  · subst e
    rw [if_pos rfl] at h
    by_cases hi : i < xs.length
    · rw [if_pos hi] at h
      simp only [Option.bind_some] at h
      rw [List.getElem?_set] at h
      by_cases e2 : j = j'
      · subst e2
        rw [if_pos rfl] at h
        split at h
        · injection h with h
          exact .inl ⟨rfl, rfl, h.symm⟩
        · cases h
      · rw [if_neg e2] at h
        refine .inr ⟨fun q => e2 q.2.symm, ?_⟩
        unfold cellOf
        rw [List.getElem?_eq_getElem hi]
        rw [List.getD_eq_getElem?_getD, List.getElem?_eq_getElem hi] at h
        exact h
    · rw [if_neg hi] at h
      cases h
  · rw [if_neg e] at h
    exact .inr ⟨fun q => e q.1.symm, h⟩
def ovCut (i j : Nat) : List (Nat × Nat × L) → List (Nat × Nat × L)
  | [] => []
  | p :: r => if p.1 = i ∧ p.2.1 = j then ovCut i j r else p :: ovCut i j r
theorem ovGet_cut (i j : Nat) : ∀ (o : List (Nat × Nat × L)) (i' j' : Nat), ovGet (ovCut i j o) i' j' = if i' = i ∧ j' = j then none else ovGet o i' j'
  | [], i', j' => by simp [ovCut, ovGet]
  | (a, b, l) :: r, i', j' => by
    rw [ovCut]
    split
    · rename_i h
      rw [ovGet_cut i j r i' j']
      split
      · rfl
      · rename_i h2
        simp only at h
        rw [ovGet, if_neg (fun q => h2 ⟨q.1.symm.trans h.1, q.2.symm.trans h.2⟩)]
    · rename_i h
      rw [ovGet, ovGet_cut i j r i' j', ovGet]
      split
      · rename_i h2
        rw [if_neg]
        rintro ⟨rfl, rfl⟩
        exact h ⟨h2.1, h2.2⟩
      · rfl

theorem CI.swapRow (h : CI P w0 m0 F0 s a w m ω) {id : Nat} {r r2 : RowC} (hr : look s.row id = some r) (F2 : Nat → Prop) (hB : RowRepG m w ω (ω.row id) F2 r2)
    (hF : ∀ k, F2 k → (k < w.heap.size ∧ (w0.heap.size ≤ k ∨ F0 k) ∧ ∀ x v, m x = some v → x.block ≠ k) ∧ ∀ κ id', s.live κ id' → ¬ (κ = true ∧ id' = id) → ¬ ω.f κ id' k) :
    ∃ ω', CI P w0 m0 F0 { s with row := (id, r2) :: del id s.row } a w m ω' ∧ ω'.row = ω.row ∧ ω'.box = ω.box ∧ (∀ κ id', ¬ (κ = true ∧ id' = id) → ω'.f κ id' = ω.f κ id') ∧ ω'.f true id = F2 := by
  have hw : CI P w0 m0 F0 { s with row := del id s.row } a w m ω := h.weaken rfl (fun _ _ h => h) (fun _ _ h => h) fun i r' h' => by
    rw [look_del] at h'
    split at h'
    · cases h'
    · exact h'
  have hn : look (del id s.row) id = Option.none := by rw [look_del, if_pos rfl]
  have live : ∀ κ i, ({ s with row := del id s.row } : St).live κ i → s.live κ i ∧ ¬ (κ = true ∧ i = id) := by
    intro κ i hl
    cases κ with
    | false => exact ⟨hl, by simp⟩
    | true =>
      have hl : (look (del id s.row) i).isSome := hl
      rw [look_del] at hl
      split at hl
      · cases hl
      · rename_i hne
        exact ⟨hl, fun q => hne q.2⟩
  have h3 := hw.reF (fun κ i => if κ = true ∧ i = id then F2 else ω.f κ i) fun κ i hl => by rw [if_neg (live κ i hl).2]
  have hE : ∀ v l, ERep m ω v l → ERep m { ω with f := fun κ i => if κ = true ∧ i = id then F2 else ω.f κ i } v l := by
    intro v l hl
    cases l with
    | clo f' caps => obtain ⟨vs, h1, h2, h3⟩ := hl; exact ⟨vs, h1, h2, fun i u hu => let ⟨x, h4, h5⟩ := h3 i u hu; ⟨x, h4, h5.imp (fun h => h) (fun hp => by cases u <;> exact hp)⟩⟩
    | _ => exact hl
  refine ⟨_, h3.addRow id r2 hn (fun b hb => h.home.row id b hb (by rw [hr]; rfl)) ?_ ?_ ?_, rfl, rfl, fun κ i hne => ?_, ?_⟩
  · have := hB.remap (g := fun l => l) ⟨Mem.le_refl m, hE, fun _ _ => rfl, fun _ _ => rfl⟩
    have e : r2.map (fun l => l) = r2 := by cases r2; simp [RowC.map]
    rw [e] at this
    unfold RowRep
    simp only [true_and, if_true]
    exact this
  · intro k hk
    simp only [true_and, if_true] at hk
    exact (hF k hk).1
  · intro κ i hl k hk hk'
    obtain ⟨l1, l2⟩ := live κ i hl
    simp only [if_neg l2] at hk
    simp only [true_and, if_true] at hk'
    exact (hF k hk').2 κ i l1 l2 hk
  · simp only [if_neg hne]
  · simp only [true_and, if_true]

def St.closeR (s : St) (id : Nat) (r : RowC) (i j id' : Nat) (r' : RowC) : St :=
  { s.noRow id' with row := (id, ⟨r.sz, setCell r.xs i j (.own r'.sz r'.xs), ovCut i j (r.map (L.noRow id')).ov⟩) :: Bw.del id (s.noRow id').row }
theorem ovGet_noRow {id' : Nat} {r : RowC} (i j : Nat) : ovGet (r.map (L.noRow id')).ov i j = (ovGet r.ov i j).map (L.noRow id') := by
  simp only [RowC.map]
  rw [ovGet_map]
theorem CI.close (h : CI P w0 m0 F0 s a w m ω) {id id' i j : Nat} {r r' : RowC} (hr : look s.row id = some r) (hr' : look s.row id' = some r') (hne : id ≠ id') (ho : ovGet r.ov i j = some (.ref id' 0 r'.xs.length)) (hi : i < r.xs.length) (hj : j < r.sz) (hov : r'.ov = []) :
    ∃ ω', CI P w0 m0 F0 (s.closeR id r i j id' r') a w m ω' := by
  have l1 : s.live true id := by show (look s.row id).isSome; rw [hr]; rfl
  have l2 : s.live true id' := by show (look s.row id').isSome; rw [hr']; rfl
  have hap : ∀ k, ω.f true id k → ω.f true id' k → False := fun k k1 k2 => hne (h.apart _ _ _ _ l1 l2 k k1 k2).2
  have R := h.row id r hr
  have R' := h.row id' r' hr'
  obtain ⟨q1, q2, q3⟩ := R
  cases hb : (ω.row id).blk with
  | none => rw [hb] at q3; have := q3.1; rw [this] at hi; exact absurd hi (by simp)
  | some b =>
  rw [hb] at q3
  obtain ⟨cs, e, g1, g2, g3, g4, g5, G, g6, g7, g8⟩ := q3
  have hx : r.xs[i].length = r.sz := q2 _ (List.getElem_mem hi)
  obtain ⟨v, hv, hRC⟩ := g8 i j (r.xs[i][j]'(by omega)) (by unfold cellOf; rw [List.getElem?_eq_getElem hi]; simp only [Option.bind_some]; exact List.getElem?_eq_getElem _)
  rw [ho] at hRC
  have hRC : RefAt (ω.row id') 0 r'.xs.length v := hRC
  have crep : CRep m w (ω.f true id') v (.own r'.sz r'.xs) := by
    obtain ⟨p1, p2, p3⟩ := R'
    cases hb' : (ω.row id').blk with
    | none =>
      rw [hb'] at p3
      rcases hRC with ⟨_, _, _, rfl⟩ | ⟨b', ad, hq, _⟩
      · rw [p3.1]; exact .ownNil _
      · rw [hb'] at hq; cases hq
    | some b' =>
      rw [hb'] at p3
      rcases hRC with ⟨hq, _⟩ | ⟨b2, ad, hq, hle, rfl, had⟩
      · rw [hb'] at hq; cases hq
      rw [hb'] at hq
      injection hq with hq
      subst hq
      obtain ⟨cs', e', t1, t2, t3, t4, t5, G', t6, t7, t8⟩ := p3
      have had := had (.inr rfl)
      rw [Nat.zero_mul] at had
      subst had
      rw [Nat.sub_zero]
      refine .own b' r'.xs.length (ω.row id').cap r'.sz r'.xs cs' e' (fun i j => (cs'[i * r'.sz + j]?).getD undef) G' t5 t1 rfl t3 t4.1 t2 p2 t6 t7 (fun i j u hu => ?_) (fun i j u hu => ?_) t4.2.2
      · obtain ⟨v, t9, _⟩ := t8 i j u hu
        simp only [t9, Option.getD_some]
      · obtain ⟨v, t9, t10⟩ := t8 i j u hu
        rw [hov] at t10
        simp only [t9, Option.getD_some]
        exact t10
  have h1 := h.noRow id' ⟨Option.none, 0, 0⟩ (fun _ => False)
  have hE : ∀ {v l}, ERep m ω v l → ERep m { box := ω.box, row := upd ω.row id' ⟨Option.none, 0, 0⟩, f := fun κ i => if κ = true ∧ i = id' then (fun _ => False) else ω.f κ i } v (l.noRow id') := fun hl => by
    refine noRow_e (ω := ω) (fun i hi => ?_) ?_ hl
    · simp [upd, hi]
    · rfl
  have hlk : look (s.noRow id').row id = some (r.map (L.noRow id')) := by
    simp only [St.noRow]
    rw [look_map (RowC.map (L.noRow id')), look_del, if_neg hne, hr]
    rfl
  obtain ⟨ω', hC, _⟩ := h1.swapRow (r2 := ⟨r.sz, setCell r.xs i j (.own r'.sz r'.xs), ovCut i j (r.map (L.noRow id')).ov⟩) hlk (fun k => ω.f true id k ∨ ω.f true id' k) (by
    have er : (upd ω.row id' ⟨Option.none, 0, 0⟩) id = ω.row id := by simp [upd, hne]
    refine ⟨by show ((upd ω.row id' ⟨Option.none, 0, 0⟩) id).sz = _; rw [er]; exact q1, setCell_sz q2, ?_⟩
    show match ((upd ω.row id' ⟨Option.none, 0, 0⟩) id).blk with | Option.none => _ | some b => _
    simp only [er, hb]
    refine ⟨cs, e, g1, g2, by rw [setCell_length]; exact g3, ⟨g4.1, fun l hl => ?_, g4.2.2⟩, .inl g5, fun i0 j0 => if i0 = i ∧ j0 = j then ω.f true id' else G i0 j0, fun i0 j0 k hk => ?_, fun i0 j0 i1 j1 k hk hk' => ?_, fun i0 j0 u hu => ?_⟩
    · rw [setCell_length, ovGet_cut] at hl
      split at hl
      · cases hl
      · rw [ovGet_noRow, Option.map_eq_some_iff] at hl
        obtain ⟨l0, hl, _⟩ := hl
        rw [setCell_length]
        exact g4.2.1 l0 hl
    · replace hk : (if i0 = i ∧ j0 = j then ω.f true id' else G i0 j0) k := hk
      split at hk
      · exact ⟨.inr hk, fun e => hap b g5 (e ▸ hk)⟩
      · exact ⟨.inl (g6 _ _ _ hk).1, (g6 _ _ _ hk).2⟩
    · replace hk : (if i0 = i ∧ j0 = j then ω.f true id' else G i0 j0) k := hk
      replace hk' : (if i1 = i ∧ j1 = j then ω.f true id' else G i1 j1) k := hk'
      split at hk <;> split at hk'
      · rename_i c1 c2
        exact ⟨c1.1.trans c2.1.symm, c1.2.trans c2.2.symm⟩
      · exact (hap k (g6 _ _ _ hk').1 hk).elim
      · exact (hap k (g6 _ _ _ hk).1 hk').elim
      · exact g7 _ _ _ _ _ hk hk'
    · rcases cellOf_setCell hu with ⟨rfl, rfl, rfl⟩ | ⟨hn, hu⟩
      · refine ⟨v, hv, ?_⟩
        rw [ovGet_cut, if_pos ⟨rfl, rfl⟩]
        simp only [and_self, if_true]
        exact crep
      · obtain ⟨v0, u1, u2⟩ := g8 i0 j0 u hu
        refine ⟨v0, u1, ?_⟩
        rw [ovGet_cut, if_neg hn, ovGet_noRow]
        simp only [if_neg hn]
        cases hq : ovGet r.ov i0 j0 with
        | none => rw [hq] at u2; exact u2
        | some l => rw [hq] at u2; exact hE u2) (by
    intro k hk
    refine ⟨?_, fun κ i0 hl hn hk' => ?_⟩
    · rcases hk with hk | hk
      · exact h.fresh _ _ l1 k hk
      · exact h.fresh _ _ l2 k hk
    · have hl' : s.live κ i0 ∧ ¬ (κ = true ∧ i0 = id') := by
        cases κ with
        | false =>
          obtain ⟨x, hx⟩ := Option.isSome_iff_exists.1 hl
          obtain ⟨y, hy, _⟩ := map_look hx
          exact ⟨by show (look s.box i0).isSome; rw [hy]; rfl, by simp⟩
        | true =>
          obtain ⟨x, hx⟩ := Option.isSome_iff_exists.1 hl
          obtain ⟨y, hy, _⟩ := map_look hx
          rw [look_del] at hy
          split at hy
          · cases hy
          · rename_i hne2
            exact ⟨by show (look s.row i0).isSome; rw [hy]; rfl, fun q => hne2 q.2⟩
      simp only [if_neg hl'.2] at hk'
      rcases hk with hk | hk
      · have := h.apart _ _ _ _ hl'.1 l1 k hk' hk
        exact hn ⟨this.1, this.2⟩
      · have := h.apart _ _ _ _ hl'.1 l2 k hk' hk
        exact hl'.2 ⟨this.1, this.2⟩)
  exact ⟨ω', hC⟩
theorem AWP.close {Q : Exit → St → Prop} {c : Code} (id i j id' : Nat) {r r' : RowC} (hr : look s.row id = some r) (hr' : look s.row id' = some r') (hne : id ≠ id') (ho : ovGet r.ov i j = some (.ref id' 0 r'.xs.length)) (hi : i < r.xs.length) (hj : j < r.sz) (hov : r'.ov = [])
    (h : AWP P w0 m0 F0 c Q (s.closeR id r i j id' r')) : AWP P w0 m0 F0 c Q s := fun a w ⟨_, _, hC⟩ =>
  let ⟨_, h1⟩ := hC.close hr hr' hne ho hi hj hov
  h a w ⟨_, _, h1⟩

def St.openR (s : St) (id : Nat) (r : RowC) (i j id' sz : Nat) (xs : List (List L)) : St :=
  { s.noRow id' with row := (id', ⟨sz, xs, []⟩) :: (id, ⟨r.sz, r.xs, (i, j, .ref id' 0 xs.length) :: (r.map (L.noRow id')).ov⟩) :: Bw.del id (s.noRow id').row }
theorem own_rd {G : Nat → Prop} {v : Value} {sz : Nat} {xs : List (List L)} (h : CRep m w G v (.own sz xs)) : ∃ ri : RowI, RefAt ri 0 xs.length v ∧ ∀ ω' : Wh, RowRepG m w ω' ri G ⟨sz, xs, []⟩ := by
  cases h with
  | fr h => cases h
  | ownNil => exact ⟨⟨none, 0, sz⟩, .inl ⟨rfl, rfl, rfl, rfl⟩, fun ω' => ⟨rfl, fun x hx => (by cases hx), rfl, rfl⟩⟩
  | own b n cap sz xs cs e vals G' hb hh hn hcap hcm hcs hsz hG hD hv hc hone =>
    subst hn
    refine ⟨⟨some b, cap, sz⟩, .inr ⟨b, ⟨b, 0, none⟩, rfl, (by show 0 + xs.length ≤ cap; omega), (by rw [Nat.sub_zero]), fun _ => (by rw [Nat.zero_mul])⟩, fun ω' => ⟨rfl, hsz, cs, e, hh, hcs, hcap, ⟨hcm, fun l hl => (by cases hl), hone⟩, hb, G', hG, hD, fun i j u hu => ⟨vals i j, hv i j u hu, hc i j u hu⟩⟩⟩
theorem CI.openC (h : CI P w0 m0 F0 s a w m ω) {id id' i j sz : Nat} {xs : List (List L)} {r : RowC} (hr : look s.row id = some r) (hc : cellOf r.xs i j = some (.own sz xs)) (ho : ovGet r.ov i j = Option.none) (hne : id ≠ id') (hbig : 2000 ≤ id') :
    ∃ ω', CI P w0 m0 F0 (s.openR id r i j id' sz xs) a w m ω' := by
  have l1 : s.live true id := by show (look s.row id).isSome; rw [hr]; rfl
  obtain ⟨q1, q2, q3⟩ := h.row id r hr
  have hi : i < r.xs.length := by
    unfold cellOf at hc
    cases hx : r.xs[i]? with
    | none => rw [hx] at hc; cases hc
    | some x => exact (List.getElem?_eq_some_iff.1 hx).1
  cases hb : (ω.row id).blk with
  | none => rw [hb] at q3; have := q3.1; rw [this] at hi; exact absurd hi (by simp)
  | some b =>
  rw [hb] at q3
  obtain ⟨cs, e, g1, g2, g3, g4, g5, G, g6, g7, g8⟩ := q3
  obtain ⟨v, hv, hRC⟩ := g8 i j _ hc
  rw [ho] at hRC
  obtain ⟨ri, hRA, hRR⟩ := own_rd hRC
  have h1 := h.noRow id' ri (fun _ => False)
  have hE : ∀ {v l}, ERep m ω v l → ERep m { box := ω.box, row := upd ω.row id' ri, f := fun κ i => if κ = true ∧ i = id' then (fun _ => False) else ω.f κ i } v (l.noRow id') := fun hl => by
    refine noRow_e (ω := ω) (fun i hi => ?_) ?_ hl
    · simp [upd, hi]
    · rfl
  have hlk : look (s.noRow id').row id = some (r.map (L.noRow id')) := by
    simp only [St.noRow]
    rw [look_map (RowC.map (L.noRow id')), look_del, if_neg hne, hr]
    rfl
  have live1 : ∀ κ i0, (s.noRow id').live κ i0 → s.live κ i0 ∧ ¬ (κ = true ∧ i0 = id') := by
    intro κ i0 hl
    cases κ with
    | false =>
      obtain ⟨x, hx⟩ := Option.isSome_iff_exists.1 hl
      obtain ⟨y, hy, _⟩ := map_look hx
      exact ⟨by show (look s.box i0).isSome; rw [hy]; rfl, by simp⟩
    | true =>
      obtain ⟨x, hx⟩ := Option.isSome_iff_exists.1 hl
      obtain ⟨y, hy, _⟩ := map_look hx
      rw [look_del] at hy
      split at hy
      · cases hy
      · rename_i hne2
        exact ⟨by show (look s.row i0).isSome; rw [hy]; rfl, fun q => hne2 q.2⟩
  obtain ⟨ω', hC, e1, e2, e3, e4⟩ := h1.swapRow (r2 := ⟨r.sz, r.xs, (i, j, .ref id' 0 xs.length) :: (r.map (L.noRow id')).ov⟩) hlk (fun k => ω.f true id k ∧ ¬ G i j k) (by
    have er : (upd ω.row id' ri) id = ω.row id := by simp [upd, hne]
    refine ⟨by show ((upd ω.row id' ri) id).sz = _; rw [er]; exact q1, q2, ?_⟩
    show match ((upd ω.row id' ri) id).blk with | Option.none => _ | some b => _
    simp only [er, hb]
    refine ⟨cs, e, g1, g2, g3, ⟨g4.1, fun l hl => ?_, g4.2.2⟩, ⟨g5, fun q => (g6 _ _ _ q).2 rfl⟩, fun i0 j0 k => G i0 j0 k ∧ ¬ (i0 = i ∧ j0 = j), fun i0 j0 k hk => ⟨⟨(g6 _ _ _ hk.1).1, fun q => hk.2 (g7 _ _ _ _ _ hk.1 q)⟩, (g6 _ _ _ hk.1).2⟩, fun i0 j0 i1 j1 k hk hk' => g7 _ _ _ _ _ hk.1 hk'.1, fun i0 j0 u hu => ?_⟩
    · replace hl : ovGet ((i, j, L.ref id' 0 xs.length) :: (r.map (L.noRow id')).ov) r.xs.length 0 = some l := hl
      rw [ovGet, if_neg (fun q => by omega), ovGet_noRow, Option.map_eq_some_iff] at hl
      obtain ⟨l0, hl, _⟩ := hl
      exact g4.2.1 l0 hl
    · obtain ⟨v0, u1, u2⟩ := g8 i0 j0 u hu
      refine ⟨v0, u1, ?_⟩
      rw [ovGet]
      by_cases hn : i = i0 ∧ j = j0
      · obtain ⟨rfl, rfl⟩ := hn
        rw [if_pos ⟨rfl, rfl⟩]
        rw [hv] at u1
        injection u1 with u1
        subst u1
        show RefAt ((upd ω.row id' ri) id') 0 xs.length v
        simp only [upd, if_true]
        exact hRA
      · rw [if_neg hn, ovGet_noRow]
        cases hq : ovGet r.ov i0 j0 with
        | none =>
          rw [hq] at u2
          exact CRep.sub u2 fun k hk => ⟨hk, fun q => hn ⟨q.1.symm, q.2.symm⟩⟩
        | some l => rw [hq] at u2; exact hE u2) (by
    intro k hk
    refine ⟨h.fresh _ _ l1 k hk.1, fun κ i0 hl hn hk' => ?_⟩
    obtain ⟨p1, p2⟩ := live1 κ i0 hl
    simp only [if_neg p2] at hk'
    have := h.apart _ _ _ _ p1 l1 k hk' hk.1
    exact hn ⟨this.1, this.2⟩)
  have hnone : look ((id, (⟨r.sz, r.xs, (i, j, .ref id' 0 xs.length) :: (r.map (L.noRow id')).ov⟩ : RowC)) :: Bw.del id (s.noRow id').row) id' = Option.none := by
    rw [look, if_neg hne, look_del, if_neg (Ne.symm hne)]
    exact noRow_none s id'
  have h3 := hC.reF (fun κ x => if κ = true ∧ x = id' then G i j else ω'.f κ x) fun κ x hl => by
    rw [if_neg]
    rintro ⟨rfl, rfl⟩
    have hl : (look ((id, (⟨r.sz, r.xs, (i, j, .ref x 0 xs.length) :: (r.map (L.noRow x)).ov⟩ : RowC)) :: Bw.del id (s.noRow x).row) x).isSome := hl
    rw [hnone] at hl
    cases hl
  refine ⟨_, h3.addRow id' ⟨sz, xs, []⟩ hnone (fun b hb => ?_) ?_ ?_ ?_⟩
  · have := (h.home.big id' (.inr (by rw [hb]; rfl))).2.2
    omega
  · unfold RowRep
    simp only [e1, true_and, if_true, upd]
    exact hRR _
  · intro k hk
    simp only [true_and, if_true] at hk
    exact h.fresh _ _ l1 k (g6 _ _ _ hk).1
  · intro κ x hl k hk hk'
    simp only [true_and, if_true] at hk'
    have hx : ¬ (κ = true ∧ x = id') := by
      rintro ⟨rfl, rfl⟩
      have hl : (look ((id, (⟨r.sz, r.xs, (i, j, .ref x 0 xs.length) :: (r.map (L.noRow x)).ov⟩ : RowC)) :: Bw.del id (s.noRow x).row) x).isSome := hl
      rw [hnone] at hl
      cases hl
    simp only [if_neg hx] at hk
    by_cases hy : κ = true ∧ x = id
    · obtain ⟨rfl, rfl⟩ := hy
      rw [e4] at hk
      exact hk.2 hk'
    · rw [e3 κ x hy] at hk
      simp only [if_neg hx] at hk
      have hl' : s.live κ x := by
        cases κ with
        | false =>
          have hl : (s.noRow id').live false x := hl
          exact (live1 _ _ hl).1
        | true =>
          have hl : (look ((id, (⟨r.sz, r.xs, (i, j, .ref id' 0 xs.length) :: (r.map (L.noRow id')).ov⟩ : RowC)) :: Bw.del id (s.noRow id').row) x).isSome := hl
          have hxi : id ≠ x := fun e => hy ⟨rfl, e.symm⟩
          rw [look, if_neg hxi, look_del, if_neg (Ne.symm hxi)] at hl
          exact (live1 true x hl).1
      have := h.apart _ _ _ _ hl' l1 k hk (g6 _ _ _ hk').1
      exact hy ⟨this.1, this.2⟩
theorem AWP.openC {Q : Exit → St → Prop} {c : Code} (id i j id' : Nat) {sz : Nat} {xs : List (List L)} {r : RowC} (hr : look s.row id = some r) (hc : cellOf r.xs i j = some (.own sz xs)) (ho : ovGet r.ov i j = none) (hne : id ≠ id') (hbig : 2000 ≤ id')
    (h : AWP P w0 m0 F0 c Q (s.openR id r i j id' sz xs)) : AWP P w0 m0 F0 c Q s := fun a w ⟨_, _, hC⟩ =>
  let ⟨_, h1⟩ := hC.openC hr hc ho hne hbig
  h a w ⟨_, _, h1⟩

def St.nilBoxR (s : St) (id : Nat) (ls : List L) (o id' sz : Nat) : St :=
  ⟨s.n, (s.noRow id').env, (id, (ls.map (L.noRow id')).set o (.ref id' 0 0)) :: Bw.del id (s.noRow id').box, (id', ⟨sz, [], []⟩) :: (s.noRow id').row⟩
theorem CI.nilBox (h : CI P w0 m0 F0 s a w m ω) {id o id' sz : Nat} {ls : List L} (hb : look s.box id = some ls) (hl : ls[o]? = some (.nil sz)) (hid : id' < s.n ∨ 2000 ≤ id') : ∃ ω', CI P w0 m0 F0 (s.nilBoxR id ls o id' sz) a w m ω' := by
  have l1 : s.live false id := by show (look s.box id).isSome; rw [hb]; rfl
  obtain ⟨cs, e, b1, b2, b3, G, b4, b5, b6⟩ := h.box id ls hb
  have h1 := h.noRow id' ⟨Option.none, 0, sz⟩ (fun _ => False)
  have hE : ∀ {v l}, ERep m ω v l → ERep m { box := ω.box, row := upd ω.row id' ⟨Option.none, 0, sz⟩, f := fun κ i => if κ = true ∧ i = id' then (fun _ => False) else ω.f κ i } v (l.noRow id') := fun hl => by
    refine noRow_e (ω := ω) (fun i hi => ?_) ?_ hl
    · simp [upd, hi]
    · rfl
  have R : Remap m m ω { box := ω.box, row := upd ω.row id' ⟨Option.none, 0, sz⟩, f := fun κ i => if κ = true ∧ i = id' then (fun _ => False) else ω.f κ i } (L.noRow id') := ⟨Mem.le_refl m, fun v l hl => hE hl, fun _ _ => rfl, fun _ _ => rfl⟩
  have live1 : ∀ κ i0, (s.noRow id').live κ i0 → s.live κ i0 ∧ ¬ (κ = true ∧ i0 = id') := by
    intro κ i0 hl
    cases κ with
    | false =>
      obtain ⟨x, hx⟩ := Option.isSome_iff_exists.1 hl
      obtain ⟨y, hy, _⟩ := map_look hx
      exact ⟨by show (look s.box i0).isSome; rw [hy]; rfl, by simp⟩
    | true =>
      obtain ⟨x, hx⟩ := Option.isSome_iff_exists.1 hl
      obtain ⟨y, hy, _⟩ := map_look hx
      rw [look_del] at hy
      split at hy
      · cases hy
      · rename_i hne2
        exact ⟨by show (look s.row i0).isSome; rw [hy]; rfl, fun q => hne2 q.2⟩
  have h2 : CI P w0 m0 F0 ⟨s.n, (s.noRow id').env, Bw.del id (s.noRow id').box, (s.noRow id').row⟩ a w m _ := h1.weaken rfl (fun _ _ h => h) (fun i ls' h' => by
    rw [look_del] at h'
    split at h'
    · cases h'
    · exact h') (fun _ _ h => h)
  have live2 : ∀ κ i0, (⟨s.n, (s.noRow id').env, Bw.del id (s.noRow id').box, (s.noRow id').row⟩ : St).live κ i0 → (s.noRow id').live κ i0 ∧ ¬ (κ = false ∧ i0 = id) := by
    intro κ i0 hl
    cases κ with
    | true => exact ⟨hl, by simp⟩
    | false =>
      have hl : (look (Bw.del id (s.noRow id').box) i0).isSome := hl
      rw [look_del] at hl
      split at hl
      · cases hl
      · rename_i hne2
        exact ⟨hl, fun q => hne2 q.2⟩
  have h3 := h2.addBox id ((ls.map (L.noRow id')).set o (.ref id' 0 0)) (by show look (Bw.del id (s.noRow id').box) id = _; rw [look_del, if_pos rfl]) (fun b hbb => h.home.box id b hbb l1) (by
    refine ⟨cs, e, b1, by simpa using b2, by simpa using b3, G, by simpa using b4, b5, fun j l hj => ?_⟩
    rw [List.getElem?_set] at hj
    split at hj
    · rename_i hoj
      subst hoj
      split at hj
      · injection hj with hj
        subst hj
        obtain ⟨v, c1, c2⟩ := b6 o _ hl
        have c2 : Rep m v (.nil sz) := c2
        refine ⟨v, c1, ?_⟩
        show RefAt ((upd ω.row id' ⟨Option.none, 0, sz⟩) id') 0 0 v
        simp only [upd, if_true]
        cases c2
        exact .inl ⟨rfl, rfl, rfl, rfl⟩
      · cases hj
    · simp only [List.getElem?_map, Option.map_eq_some_iff] at hj
      obtain ⟨l0, hj, rfl⟩ := hj
      obtain ⟨v, c1, c2⟩ := b6 j l0 hj
      exact ⟨v, c1, c2.remap R⟩)
    (fun k hk => by simp only [Bool.false_eq_true, false_and, if_false] at hk; exact h.fresh _ _ l1 k hk)
    (fun κ x hx k hk hk' => by
      obtain ⟨p1, p2⟩ := live2 κ x hx
      obtain ⟨p3, p4⟩ := live1 κ x p1
      simp only [if_neg p4] at hk
      simp only [Bool.false_eq_true, false_and, if_false] at hk'
      have := h.apart _ _ _ _ p3 l1 k hk hk'
      exact p2 ⟨this.1, this.2⟩)
  refine ⟨_, h3.addRow id' ⟨sz, [], []⟩ (noRow_none s id') (fun b hbb => ?_) ?_ (fun k hk => ?_) (fun κ x _ k _ hk' => ?_)⟩
  · have := h.home.big id' (.inr (by rw [hbb]; rfl))
    omega
  · unfold RowRep
    simp only [upd, if_true]
    exact ⟨rfl, fun x hx => (by cases hx), rfl, rfl⟩
  · simp only [true_and, if_true] at hk
  · simp only [true_and, if_true] at hk'
theorem AWP.nilBox {Q : Exit → St → Prop} {c : Code} (id o id' : Nat) {sz : Nat} {ls : List L} (hb : look s.box id = some ls) (hl : ls[o]? = some (.nil sz)) (hid : id' < s.n ∨ 2000 ≤ id')
    (h : AWP P w0 m0 F0 c Q (s.nilBoxR id ls o id' sz)) : AWP P w0 m0 F0 c Q s := fun a w ⟨_, _, hC⟩ =>
  let ⟨_, h1⟩ := hC.nilBox hb hl hid
  h a w ⟨_, _, h1⟩

theorem ovCut_nil (i j : Nat) : ovCut i j [] = [] := rfl
theorem ovCut_cons (i j a b : Nat) (l : L) (r : List (Nat × Nat × L)) : ovCut i j ((a, b, l) :: r) = if a = i ∧ b = j then ovCut i j r else (a, b, l) :: ovCut i j r := rfl
theorem closeR_mk (n : Nat) (e : List (Nat × A)) (b : List (Nat × List L)) (k : List (Nat × RowC)) (id i j id' sz sz' : Nat) (xs xs' : List (List L)) (ov ov' : List (Nat × Nat × L)) : St.closeR ⟨n, e, b, k⟩ id ⟨sz, xs, ov⟩ i j id' ⟨sz', xs', ov'⟩ =
    ⟨n, e.map fun p => (p.1, p.2.map (L.noRow id')), b.map fun p => (p.1, p.2.map (L.noRow id')), (id, ⟨sz, setCell xs i j (.own sz' xs'), ovCut i j (ov.map fun p => (p.1, p.2.1, L.noRow id' p.2.2))⟩) :: Bw.del id ((Bw.del id' k).map fun p => (p.1, p.2.map (L.noRow id')))⟩ := rfl
theorem openR_mk (n : Nat) (e : List (Nat × A)) (b : List (Nat × List L)) (k : List (Nat × RowC)) (id i j id' sz sz' : Nat) (xs xs' : List (List L)) (ov : List (Nat × Nat × L)) : St.openR ⟨n, e, b, k⟩ id ⟨sz, xs, ov⟩ i j id' sz' xs' =
    ⟨n, e.map fun p => (p.1, p.2.map (L.noRow id')), b.map fun p => (p.1, p.2.map (L.noRow id')), (id', ⟨sz', xs', []⟩) :: (id, ⟨sz, xs, (i, j, .ref id' 0 xs'.length) :: (ov.map fun p => (p.1, p.2.1, L.noRow id' p.2.2))⟩) :: Bw.del id ((Bw.del id' k).map fun p => (p.1, p.2.map (L.noRow id')))⟩ := rfl
theorem nilBoxR_mk (n : Nat) (e : List (Nat × A)) (b : List (Nat × List L)) (k : List (Nat × RowC)) (id o id' sz : Nat) (ls : List L) : St.nilBoxR ⟨n, e, b, k⟩ id ls o id' sz =
    ⟨n, e.map fun p => (p.1, p.2.map (L.noRow id')), (id, (ls.map (L.noRow id')).set o (.ref id' 0 0)) :: Bw.del id (b.map fun p => (p.1, p.2.map (L.noRow id'))), (id', ⟨sz, [], []⟩) :: ((Bw.del id' k).map fun p => (p.1, p.2.map (L.noRow id')))⟩ := rfl
end
end

set_option maxHeartbeats 8000000 in
theorem cloneTable_own (t : Tbl) (h1 : t.cols.length ≤ 1099511627776) (h2 : t.pk.length ≤ 1099511627776) : SatM Tryd.prog 49 [.agg (eTbl t)] [] [] (.v (.agg [.str t.name, .ref 7 0 t.cols.length, .ref 10 0 t.pk.length])) [] [(7, ⟨3, t.cols.map eCol, []⟩), (10, ⟨1, t.pk.map eInt1, []⟩)] := by
  refine satM_of_body tyOk [] [7, 10] Tryd.func49 rfl (by kernel_rfl) ⟨Nat.le_of_ble_eq_true rfl, Nat.le_of_ble_eq_true rfl⟩ fun w0 m0 F0 => ?_
  simp only [Tryd.ntmps49, envOf, Nat.reduceAdd]
  repeat' (first | ((first | with_reducible refine qV tyOk fun K hK => ?_ | (with_reducible first | refine qG ?_ | refine qH ?_ | refine qP ?_ | refine qGx ?_ | refine qHx ?_ | refine qPx ?_) | ((with_reducible first | refine qS ?_ ?_ | refine qT ?_ ?_ | refine qU ?_ ?_) <;> (intro h; try simp only [NM] at h))) <;> simp -dsimp (disch := (first | omega | (simp only [LN]; omega))) only [go_sem, ↓reduceIte, seval]) | ((with_reducible refine hK _ ?_); clear hK K) | (with_reducible first | refine qA ?_ | refine qB ?_ | refine qC ?_ | refine qD ?_ | refine qE ?_ | refine qF ?_ | refine qL ?_ | refine qM ?_ | refine qN ?_ | refine qO ?_ | refine qQ ?_) | refine qR rfl ?_ | (with_reducible refine AI ?_) | ((with_reducible refine qW (T := TT) (b := ?_) ?_ ?_); rotate_left; exact rfl) | (with_reducible first | refine qX ?_ | refine qY ?_ | refine qZ ?_) | (with_reducible first | refine qI ?_ | refine qIx ?_ | fail) | ((with_reducible refine yS ?_ ?_) <;> (intro h; try simp only [NM] at h)))
  refine AWP.drawX tyOk mixed [(0, 4), (5, 2)] [(4, [], [(0, 2), (5, 2)]), (7, [(8, 1)], [(0, 2)]), (9, [], [])] [4, 7, 9] 8 (by decide) (by kernel_rfl) (by kernel_rfl) (by kernel_rfl) (by kernel_rfl) fun K hK => ?_
  simp only [segx_nil, segx_cons, segs, List.drop_succ_cons, List.drop_zero, List.take_succ_cons, List.take_zero, List.getElem?_cons_zero, List.getElem?_cons_succ, List.cons_append, List.nil_append, List.append_nil] at hK ⊢
  simp -dsimp (disch := (first | omega | (simp only [LN]; omega))) only [go_sem, ↓reduceIte, seval, Option.getD_none]
  repeat' (first | ((first | with_reducible refine qV tyOk fun K hK => ?_ | (with_reducible first | refine qG ?_ | refine qH ?_ | refine qP ?_ | refine qGx ?_ | refine qHx ?_ | refine qPx ?_) | ((with_reducible first | refine qS ?_ ?_ | refine qT ?_ ?_ | refine qU ?_ ?_) <;> (intro h; try simp only [NM] at h)) | ((with_reducible refine CallJ.is ?_); refine CallJ.io [] [] [] [(2, 7)] [] [7] [] [7] (cloneCols_own t.cols h1) rfl ⟨rfl, rfl, rfl, rfl⟩ ?_ ?_ ?_; (focus (simp -dsimp (disch := (first | omega | (simp only [LN]; omega))) only [go_sem, ↓reduceIte, seval, dropL_nil, dropL_nil', dropL_cons]; done)); (focus (simp -dsimp (disch := (first | omega | (simp only [LN]; omega))) only [go_sem, ↓reduceIte, seval, dropL_nil, dropL_nil', dropL_cons]; done))) | ((with_reducible refine CallJ.is ?_); refine CallJ.io [] [] [] [(2, 10)] [] [10] [] [10] (cloneInts_own t.pk h2) rfl ⟨rfl, rfl, rfl, rfl⟩ ?_ ?_ ?_; (focus (simp -dsimp (disch := (first | omega | (simp only [LN]; omega))) only [go_sem, ↓reduceIte, seval, dropL_nil, dropL_nil', dropL_cons]; done)); (focus (simp -dsimp (disch := (first | omega | (simp only [LN]; omega))) only [go_sem, ↓reduceIte, seval, dropL_nil, dropL_nil', dropL_cons]; done)))) <;> simp -dsimp (disch := (first | omega | (simp only [LN]; omega))) only [go_sem, ↓reduceIte, seval, dropL_nil, dropL_nil', dropL_cons]) | ((with_reducible refine hK _ ?_); clear hK K) | (with_reducible first | refine qA ?_ | refine qB ?_ | refine qC ?_ | refine qD ?_ | refine qE ?_ | refine qF ?_ | refine qL ?_ | refine qM ?_ | refine qN ?_ | refine qO ?_ | refine qQ ?_) | refine qR rfl ?_ | ((with_reducible refine VCy.intro fun K0 hK0 => ?_)) | ((with_reducible refine VCy.fin ?_); (refine hK0 _ ?_); clear hK0 K0) | (with_reducible first | refine VCy.quiet ?_ | refine VCy.none ?_) | ((with_reducible first | refine VCy.some fun K hK => ?_ | refine VCy.step fun K hK => ?_); simp -dsimp (disch := (first | omega | (simp only [LN]; omega))) only [go_sem, ↓reduceIte, seval, dropL_nil, dropL_nil', dropL_cons]) | ((with_reducible refine VCy.keep ?_ ?_); focus ((simp -dsimp (disch := (first | omega | (simp only [LN]; omega))) only [go_sem, ↓reduceIte, seval, Stable_cons, Stable_nil, sameA_some, sameA_none, dropL_nil, dropL_nil', dropL_cons]); first | done | with_reducible assumption | omega | (repeat' with_reducible refine And.intro ?_ ?_) <;> first | with_reducible rfl | with_reducible assumption | omega)) | (with_reducible refine AI ?_) | ((with_reducible refine qW (T := TT) (b := ?_) ?_ ?_); rotate_left; exact rfl) | (with_reducible first | refine qX ?_ | refine qY ?_ | refine qZ ?_) | (with_reducible first | refine qI ?_ | refine qIx ?_ | fail) | ((with_reducible refine yS ?_ ?_) <;> (intro h; try simp only [NM] at h)))
  simp -dsimp (disch := (first | omega | (simp only [LN]; omega))) only [retQ, Tryd.results49, resVals, cellRV, resOf, St.rest, St.freeze, RT, go_sem, ↓reduceIte, seval]

def eTblO (t : Tbl) : List L := [.str t.name, .own 3 (t.cols.map eCol), .own 1 (t.pk.map eInt1)]
def eFKO (f : FK) : List L := [.str f.table, .own 1 (f.cols.map eInt1), .str f.ref]
theorem setCell_last {α : Type} (e : α → List L) (l : List α) (k : Nat) (hk : k = l.length) (x : List L) (j : Nat) (u : L) : setCell (l.map e ++ [x]) k j u = l.map e ++ [x.set j u] := by
  subst hk
  unfold setCell
  have e1 : (l.map e ++ [x]).getD l.length [] = x := by
    rw [List.getD_eq_getElem?_getD, List.getElem?_append_right (by simp)]
    simp
  rw [e1, List.set_append_right _ _ (by simp)]
  simp
set_option maxHeartbeats 16000000 in
theorem schClone_own (s : Sch) (h1 : s.tables.length ≤ 1048576) (h2 : s.fks.length ≤ 1048576) (h3 : s.cons.length ≤ 1048576) (h4 : ∀ t ∈ s.tables, t.cols.length ≤ 1048576 ∧ t.pk.length ≤ 1048576) (h5 : ∀ f ∈ s.fks, f.cols.length ≤ 1048576) :
    SatM Tryd.prog 18 [.agg (eSch s)] [] [] (.v (.agg [.ref 24 0 s.tables.length, .ref 42 0 s.fks.length, .ref 10 0 s.cons.length])) [] [(24, ⟨3, s.tables.map eTblO, []⟩), (42, ⟨3, s.fks.map eFKO, []⟩), (10, ⟨7, s.cons.map eCon, []⟩)] := by
  refine satM_of_body tyOk [] [24, 42, 10] Tryd.func18 rfl (by kernel_rfl) ⟨Nat.le_of_ble_eq_true rfl, Nat.le_of_ble_eq_true rfl⟩ fun w0 m0 F0 => ?_
  simp only [Tryd.ntmps18, envOf, Nat.reduceAdd]
  repeat' (first | ((first | ((fail_if_success (refine AWP.isRegion 2 ?_)); (with_reducible refine qV tyOk fun K hK => ?_)) | (with_reducible first | refine qG ?_ | refine qH ?_ | refine qP ?_ | refine qGx ?_ | refine qHx ?_ | refine qPx ?_) | ((with_reducible first | refine qS ?_ ?_ | refine qT ?_ ?_ | refine qU ?_ ?_) <;> (intro h; try simp only [NM] at h)) | ((with_reducible refine CallJ.is ?_); refine CallJ.io [] [] [] [(2, 10)] [] [10] [] [10] (cloneCons_own s.cons (by omega)) rfl ⟨rfl, rfl, rfl, rfl⟩ ?_ ?_ ?_; (focus (simp -dsimp (disch := (first | omega | (simp only [LN]; omega))) only [go_sem, ↓reduceIte, seval, dropL_nil, dropL_nil', dropL_cons]; done)); (focus (simp -dsimp (disch := (first | omega | (simp only [LN]; omega))) only [go_sem, ↓reduceIte, seval, dropL_nil, dropL_nil', dropL_cons]; done)))) <;> simp -dsimp (disch := (first | omega | (simp only [LN]; omega))) only [go_sem, ↓reduceIte, seval, dropL_nil, dropL_nil', dropL_cons]) | ((with_reducible refine hK _ ?_); clear hK K) | (with_reducible first | refine qA ?_ | refine qB ?_ | refine qC ?_ | refine qD ?_ | refine qE ?_ | refine qF ?_ | refine qL ?_ | refine qM ?_ | refine qN ?_ | refine qO ?_ | refine qQ ?_) | refine qR rfl ?_ | (with_reducible refine AI ?_) | ((with_reducible refine qW (T := TT) (b := ?_) ?_ ?_); rotate_left; exact rfl) | (with_reducible first | refine qX ?_ | refine qY ?_ | refine qZ ?_) | (with_reducible first | refine qI ?_ | refine qIx ?_ | fail) | ((with_reducible refine yS ?_ ?_) <;> (intro h; try simp only [NM] at h)))
  refine AWP.nilBox 3 0 24 rfl rfl (.inl (by show 24 < 46; decide)) ?_
  simp -dsimp (disch := (first | omega | (simp only [LN]; omega))) only [go_sem, ↓reduceIte, seval, nilBoxR_mk, List.set_cons_zero, List.set_cons_succ]
  repeat' (first | ((first | with_reducible refine qV tyOk fun K hK => ?_ | (with_reducible first | refine qG ?_ | refine qH ?_ | refine qP ?_ | refine qGx ?_ | refine qHx ?_ | refine qPx ?_) | ((with_reducible first | refine qS ?_ ?_ | refine qT ?_ ?_ | refine qU ?_ ?_) <;> (intro h; try simp only [NM] at h))) <;> simp -dsimp (disch := (first | omega | (simp only [LN]; omega))) only [go_sem, ↓reduceIte, seval]) | ((with_reducible refine hK _ ?_); clear hK K) | (with_reducible first | refine qA ?_ | refine qB ?_ | refine qC ?_ | refine qD ?_ | refine qE ?_ | refine qF ?_ | refine qL ?_ | refine qM ?_ | refine qN ?_ | refine qO ?_ | refine qQ ?_) | refine qR rfl ?_ | (with_reducible refine AI ?_) | ((with_reducible refine qW (T := TT) (b := ?_) ?_ ?_); rotate_left; exact rfl) | (with_reducible first | refine qX ?_ | refine qY ?_ | refine qZ ?_) | (with_reducible first | refine qI ?_ | refine qIx ?_ | fail) | ((with_reducible refine yS ?_ ?_) <;> (intro h; try simp only [NM] at h)))
  refine AWP.loop (ι := {k : Nat // k ≤ s.tables.length}) (fun k => ⟨46, [(1, .v (.one (.ptr 1 0))), (2, .v (.one (.ptr 2 0))), (3, .v (.one (.ptr 3 0))), (13, .v (.one (.sl 3 (s.tables.map eTbl)))), (14, .v (oI s.tables.length)), (15, .v (oI k.1))], [(3, [.ref 24 0 k.1, .nil 3, .ref 10 0 s.cons.length]), (2, [.nil 3, .nil 3, .nil 7]), (1, eSch s)], [(24, ⟨3, (s.tables.take k.1).map eTblO, []⟩), (10, ⟨7, s.cons.map eCon, []⟩)]⟩) (fun k => s.tables.length - k.1) ⟨0, Nat.zero_le _⟩ ?_ fun ⟨k, hkl⟩ => ?_
  · refine St.le_mk ?_ ?_ ?_ <;> simp only [LE, EN, Nat.reduceEqDiff, reduceIte, Nat.reduceSub, eSch, List.map_nil]
  simp only at hkl ⊢
  have hlen : (s.tables.take k).length = k := by simp; omega
  rcases Nat.lt_or_ge k s.tables.length with hc | hc
  · have ht := h4 s.tables[k] (List.getElem_mem hc)
    have es := take_snoc s.tables k hc
    repeat' (first | ((first | ((fail_if_success (refine AWP.isRegion 5 ?_)); (with_reducible refine qV tyOk fun K hK => ?_)) | (with_reducible first | refine qG ?_ | refine qH ?_ | refine qP ?_ | refine qGx ?_ | refine qHx ?_ | refine qPx ?_) | ((with_reducible first | refine qS ?_ ?_ | refine qT ?_ ?_ | refine qU ?_ ?_) <;> (intro h; try simp only [NM] at h))) <;> simp -dsimp (disch := (first | omega | (simp only [LN]; omega))) only [go_sem, ↓reduceIte, seval]) | ((with_reducible refine hK _ ?_); clear hK K) | (with_reducible first | refine qA ?_ | refine qB ?_ | refine qC ?_ | refine qD ?_ | refine qE ?_ | refine qF ?_ | refine qL ?_ | refine qM ?_ | refine qN ?_ | refine qO ?_ | refine qQ ?_) | refine qR rfl ?_ | (with_reducible refine AI ?_) | ((with_reducible refine qW (T := TT) (b := ?_) ?_ ?_); rotate_left; exact rfl) | (with_reducible first | refine qX ?_ | refine qY ?_ | refine qZ ?_) | (with_reducible first | refine qI ?_ | refine qIx ?_ | fail) | ((with_reducible refine yS ?_ ?_) <;> (intro h; try simp only [NM] at h)))
    refine AWP.drawX tyOk mixed [(0, 3)] [(3, [], [(0, 2)]), (4, [], [(0, 2)]), (5, [(6, 1)], []), (7, [], [])] [3, 4, 5, 7] 8 (by decide) (by kernel_rfl) (by kernel_rfl) (by kernel_rfl) (by kernel_rfl) fun K hK => ?_
    simp only [segx_nil, segx_cons, segs, List.drop_succ_cons, List.drop_zero, List.take_succ_cons, List.take_zero, List.getElem?_cons_zero, List.getElem?_cons_succ, List.cons_append, List.nil_append, List.append_nil] at hK ⊢
    simp -dsimp (disch := (first | omega | (simp only [LN]; omega))) only [go_sem, ↓reduceIte, seval, hlen, Option.getD_none]
    repeat' (first | ((first | ((fail_if_success (refine AWP.isRegion 6 ?_)); (with_reducible refine qV tyOk fun K hK => ?_)) | (with_reducible first | refine qG ?_ | refine qH ?_ | refine qP ?_ | refine qGx ?_ | refine qHx ?_ | refine qPx ?_) | ((with_reducible first | refine qS ?_ ?_ | refine qT ?_ ?_ | refine qU ?_ ?_) <;> (intro h; try simp only [NM] at h)) | ((with_reducible refine CallJ.is ?_); refine CallJ.io [] [] [] [(7, 22), (10, 21)] [] [22, 21] [] [22, 21] (cloneTable_own s.tables[k] (by omega) (by omega)) rfl ⟨rfl, rfl, rfl, rfl⟩ ?_ ?_ ?_; (focus (simp -dsimp (disch := (first | omega | (simp only [LN]; omega))) only [go_sem, ↓reduceIte, seval, hlen, Option.getD_none, dropL_nil, dropL_nil', dropL_cons]; done)); (focus (simp -dsimp (disch := (first | omega | (simp only [LN]; omega))) only [go_sem, ↓reduceIte, seval, hlen, Option.getD_none, dropL_nil, dropL_nil', dropL_cons]; done)))) <;> simp -dsimp (disch := (first | omega | (simp only [LN]; omega))) only [go_sem, ↓reduceIte, seval, hlen, Option.getD_none, dropL_nil, dropL_nil', dropL_cons]) | ((with_reducible refine hK _ ?_); clear hK K) | (with_reducible first | refine qA ?_ | refine qB ?_ | refine qC ?_ | refine qD ?_ | refine qE ?_ | refine qF ?_ | refine qL ?_ | refine qM ?_ | refine qN ?_ | refine qO ?_ | refine qQ ?_) | refine qR rfl ?_ | ((with_reducible refine VCy.intro fun K0 hK0 => ?_)) | ((with_reducible refine VCy.fin ?_); (refine hK0 _ ?_); clear hK0 K0) | (with_reducible first | refine VCy.quiet ?_ | refine VCy.none ?_) | ((with_reducible first | refine VCy.some fun K hK => ?_ | refine VCy.step fun K hK => ?_); simp -dsimp (disch := (first | omega | (simp only [LN]; omega))) only [go_sem, ↓reduceIte, seval, hlen, Option.getD_none, dropL_nil, dropL_nil', dropL_cons]) | ((with_reducible refine VCy.keep ?_ ?_); focus ((simp -dsimp (disch := (first | omega | (simp only [LN]; omega))) only [go_sem, ↓reduceIte, seval, Stable_cons, Stable_nil, sameA_some, sameA_none, hlen, Option.getD_none, dropL_nil, dropL_nil', dropL_cons]); first | done | with_reducible assumption | omega | (repeat' with_reducible refine And.intro ?_ ?_) <;> first | with_reducible rfl | with_reducible assumption | omega)) | (with_reducible refine AI ?_) | ((with_reducible refine qW (T := TT) (b := ?_) ?_ ?_); rotate_left; exact rfl) | (with_reducible first | refine qX ?_ | refine qY ?_ | refine qZ ?_) | (with_reducible first | refine qI ?_ | refine qIx ?_ | fail) | ((with_reducible refine yS ?_ ?_) <;> (intro h; try simp only [NM] at h)))
    refine AWP.close 24 k 1 22 rfl rfl (by decide) (by simp [ovGet]) (by simp; omega) (by show 1 < 3; decide) rfl ?_
    simp -dsimp (disch := (first | omega | (simp only [LN]; omega))) only [go_sem, ↓reduceIte, seval, closeR_mk, ovCut_cons, ovCut_nil]
    refine AWP.close 24 k 2 21 rfl rfl (by decide) (by simp [ovGet]) (by simp [setCell_length]; omega) (by show 2 < 3; decide) rfl ?_
    simp -dsimp (disch := (first | omega | (simp only [LN]; omega))) only [go_sem, ↓reduceIte, seval, closeR_mk, ovCut_cons, ovCut_nil]
    rw [setCell_last eTblO _ k hlen.symm, setCell_last eTblO _ k hlen.symm]
    repeat' (first | ((first | with_reducible refine qV tyOk fun K hK => ?_ | (with_reducible first | refine qG ?_ | refine qH ?_ | refine qP ?_ | refine qGx ?_ | refine qHx ?_ | refine qPx ?_) | ((with_reducible first | refine qS ?_ ?_ | refine qT ?_ ?_ | refine qU ?_ ?_) <;> (intro h; try simp only [NM] at h))) <;> simp -dsimp (disch := (first | omega | (simp only [LN]; omega))) only [go_sem, ↓reduceIte, seval]) | ((with_reducible refine hK _ ?_); clear hK K) | (with_reducible first | refine qA ?_ | refine qB ?_ | refine qC ?_ | refine qD ?_ | refine qE ?_ | refine qF ?_ | refine qL ?_ | refine qM ?_ | refine qN ?_ | refine qO ?_ | refine qQ ?_) | refine qR rfl ?_ | (with_reducible refine AI ?_) | ((with_reducible refine qW (T := TT) (b := ?_) ?_ ?_); rotate_left; exact rfl) | (with_reducible first | refine qX ?_ | refine qY ?_ | refine qZ ?_) | (with_reducible first | refine qI ?_ | refine qIx ?_ | fail) | ((with_reducible refine yS ?_ ?_) <;> (intro h; try simp only [NM] at h)))
    refine ⟨⟨k + 1, by omega⟩, by simp only; omega, ?_⟩
    refine St.le_mk ?_ ?_ ?_ <;> simp only [LE, EN, Nat.reduceEqDiff, reduceIte, Nat.reduceSub, eSch, es, eTblO, List.map_append, List.map_cons, List.map_nil, List.set_cons_zero, List.set_cons_succ]
  · have hk : k = s.tables.length := by omega
    subst hk
    repeat' (first | ((first | ((fail_if_success (refine AWP.isRegion 7 ?_)); (with_reducible refine qV tyOk fun K hK => ?_)) | (with_reducible first | refine qG ?_ | refine qH ?_ | refine qP ?_ | refine qGx ?_ | refine qHx ?_ | refine qPx ?_) | ((with_reducible first | refine qS ?_ ?_ | refine qT ?_ ?_ | refine qU ?_ ?_) <;> (intro h; try simp only [NM] at h))) <;> simp -dsimp (disch := (first | omega | (simp only [LN]; omega))) only [go_sem, ↓reduceIte, seval]) | ((with_reducible refine hK _ ?_); clear hK K) | (with_reducible first | refine qA ?_ | refine qB ?_ | refine qC ?_ | refine qD ?_ | refine qE ?_ | refine qF ?_ | refine qL ?_ | refine qM ?_ | refine qN ?_ | refine qO ?_ | refine qQ ?_) | refine qR rfl ?_ | (with_reducible refine AI ?_) | ((with_reducible refine qW (T := TT) (b := ?_) ?_ ?_); rotate_left; exact rfl) | (with_reducible first | refine qX ?_ | refine qY ?_ | refine qZ ?_) | (with_reducible first | refine qI ?_ | refine qIx ?_ | fail) | ((with_reducible refine yS ?_ ?_) <;> (intro h; try simp only [NM] at h)))
    refine AWP.nilBox 3 1 42 rfl rfl (.inl (by show 42 < 46; decide)) ?_
    simp -dsimp (disch := (first | omega | (simp only [LN]; omega))) only [go_sem, ↓reduceIte, seval, nilBoxR_mk, List.set_cons_zero, List.set_cons_succ, List.take_length]
    repeat' (first | ((first | with_reducible refine qV tyOk fun K hK => ?_ | (with_reducible first | refine qG ?_ | refine qH ?_ | refine qP ?_ | refine qGx ?_ | refine qHx ?_ | refine qPx ?_) | ((with_reducible first | refine qS ?_ ?_ | refine qT ?_ ?_ | refine qU ?_ ?_) <;> (intro h; try simp only [NM] at h))) <;> simp -dsimp (disch := (first | omega | (simp only [LN]; omega))) only [go_sem, ↓reduceIte, seval]) | ((with_reducible refine hK _ ?_); clear hK K) | (with_reducible first | refine qA ?_ | refine qB ?_ | refine qC ?_ | refine qD ?_ | refine qE ?_ | refine qF ?_ | refine qL ?_ | refine qM ?_ | refine qN ?_ | refine qO ?_ | refine qQ ?_) | refine qR rfl ?_ | (with_reducible refine AI ?_) | ((with_reducible refine qW (T := TT) (b := ?_) ?_ ?_); rotate_left; exact rfl) | (with_reducible first | refine qX ?_ | refine qY ?_ | refine qZ ?_) | (with_reducible first | refine qI ?_ | refine qIx ?_ | fail) | ((with_reducible refine yS ?_ ?_) <;> (intro h; try simp only [NM] at h)))
    refine AWP.loop (ι := {k : Nat // k ≤ s.fks.length}) (fun k => ⟨46, [(1, .v (.one (.ptr 1 0))), (2, .v (.one (.ptr 2 0))), (3, .v (.one (.ptr 3 0))), (28, .v (.one (.sl 3 (s.fks.map eFK)))), (29, .v (oI s.fks.length)), (30, .v (oI k.1))], [(3, [.ref 24 0 s.tables.length, .ref 42 0 k.1, .ref 10 0 s.cons.length]), (2, [.nil 3, .nil 3, .nil 7]), (1, eSch s)], [(42, ⟨3, (s.fks.take k.1).map eFKO, []⟩), (24, ⟨3, s.tables.map eTblO, []⟩), (10, ⟨7, s.cons.map eCon, []⟩)]⟩) (fun k => s.fks.length - k.1) ⟨0, Nat.zero_le _⟩ ?_ fun ⟨k, hkl⟩ => ?_
    · refine St.le_mk ?_ ?_ ?_ <;> simp only [LE, EN, Nat.reduceEqDiff, reduceIte, Nat.reduceSub, eSch, List.map_nil]
    simp only at hkl ⊢
    have hlen : (s.fks.take k).length = k := by simp; omega
    rcases Nat.lt_or_ge k s.fks.length with hc | hc
    · have hf := h5 s.fks[k] (List.getElem_mem hc)
      have es := take_snoc s.fks k hc
      repeat' (first | ((first | ((fail_if_success (refine AWP.isRegion 12 ?_)); (with_reducible refine qV tyOk fun K hK => ?_)) | (with_reducible first | refine qG ?_ | refine qH ?_ | refine qP ?_ | refine qGx ?_ | refine qHx ?_ | refine qPx ?_) | ((with_reducible first | refine qS ?_ ?_ | refine qT ?_ ?_ | refine qU ?_ ?_) <;> (intro h; try simp only [NM] at h)) | ((with_reducible refine CallJ.is ?_); refine CallJ.io [] [] [] [(2, 36)] [] [36] [] [36] (cloneInts_own s.fks[k].cols (by omega)) rfl ⟨rfl, rfl, rfl, rfl⟩ ?_ ?_ ?_; (focus (simp -dsimp (disch := (first | omega | (simp only [LN]; omega))) only [go_sem, ↓reduceIte, seval, hlen, dropL_nil, dropL_nil', dropL_cons]; done)); (focus (simp -dsimp (disch := (first | omega | (simp only [LN]; omega))) only [go_sem, ↓reduceIte, seval, hlen, dropL_nil, dropL_nil', dropL_cons]; done)))) <;> simp -dsimp (disch := (first | omega | (simp only [LN]; omega))) only [go_sem, ↓reduceIte, seval, hlen, dropL_nil, dropL_nil', dropL_cons]) | ((with_reducible refine hK _ ?_); clear hK K) | (with_reducible first | refine qA ?_ | refine qB ?_ | refine qC ?_ | refine qD ?_ | refine qE ?_ | refine qF ?_ | refine qL ?_ | refine qM ?_ | refine qN ?_ | refine qO ?_ | refine qQ ?_) | refine qR rfl ?_ | (with_reducible refine AI ?_) | ((with_reducible refine qW (T := TT) (b := ?_) ?_ ?_); rotate_left; exact rfl) | (with_reducible first | refine qX ?_ | refine qY ?_ | refine qZ ?_) | (with_reducible first | refine qI ?_ | refine qIx ?_ | fail) | ((with_reducible refine yS ?_ ?_) <;> (intro h; try simp only [NM] at h)))
      refine AWP.close 42 k 1 36 rfl rfl (by decide) (by simp [ovGet]) (by simp; omega) (by show 1 < 3; decide) rfl ?_
      simp -dsimp (disch := (first | omega | (simp only [LN]; omega))) only [go_sem, ↓reduceIte, seval, closeR_mk, ovCut_cons, ovCut_nil]
      rw [setCell_last eFKO _ k hlen.symm]
      repeat' (first | ((first | with_reducible refine qV tyOk fun K hK => ?_ | (with_reducible first | refine qG ?_ | refine qH ?_ | refine qP ?_ | refine qGx ?_ | refine qHx ?_ | refine qPx ?_) | ((with_reducible first | refine qS ?_ ?_ | refine qT ?_ ?_ | refine qU ?_ ?_) <;> (intro h; try simp only [NM] at h))) <;> simp -dsimp (disch := (first | omega | (simp only [LN]; omega))) only [go_sem, ↓reduceIte, seval]) | ((with_reducible refine hK _ ?_); clear hK K) | (with_reducible first | refine qA ?_ | refine qB ?_ | refine qC ?_ | refine qD ?_ | refine qE ?_ | refine qF ?_ | refine qL ?_ | refine qM ?_ | refine qN ?_ | refine qO ?_ | refine qQ ?_) | refine qR rfl ?_ | (with_reducible refine AI ?_) | ((with_reducible refine qW (T := TT) (b := ?_) ?_ ?_); rotate_left; exact rfl) | (with_reducible first | refine qX ?_ | refine qY ?_ | refine qZ ?_) | (with_reducible first | refine qI ?_ | refine qIx ?_ | fail) | ((with_reducible refine yS ?_ ?_) <;> (intro h; try simp only [NM] at h)))
      refine ⟨⟨k + 1, by omega⟩, by simp only; omega, ?_⟩
      refine St.le_mk ?_ ?_ ?_ <;> simp only [LE, EN, Nat.reduceEqDiff, reduceIte, Nat.reduceSub, eSch, es, eFKO, List.map_append, List.map_cons, List.map_nil, List.set_cons_zero, List.set_cons_succ]
    · have hk : k = s.fks.length := by omega
      subst hk
      repeat' (first | ((first | with_reducible refine qV tyOk fun K hK => ?_ | (with_reducible first | refine qG ?_ | refine qH ?_ | refine qP ?_ | refine qGx ?_ | refine qHx ?_ | refine qPx ?_) | ((with_reducible first | refine qS ?_ ?_ | refine qT ?_ ?_ | refine qU ?_ ?_) <;> (intro h; try simp only [NM] at h))) <;> simp -dsimp (disch := (first | omega | (simp only [LN]; omega))) only [go_sem, ↓reduceIte, seval]) | ((with_reducible refine hK _ ?_); clear hK K) | (with_reducible first | refine qA ?_ | refine qB ?_ | refine qC ?_ | refine qD ?_ | refine qE ?_ | refine qF ?_ | refine qL ?_ | refine qM ?_ | refine qN ?_ | refine qO ?_ | refine qQ ?_) | refine qR rfl ?_ | (with_reducible refine AI ?_) | ((with_reducible refine qW (T := TT) (b := ?_) ?_ ?_); rotate_left; exact rfl) | (with_reducible first | refine qX ?_ | refine qY ?_ | refine qZ ?_) | (with_reducible first | refine qI ?_ | refine qIx ?_ | fail) | ((with_reducible refine yS ?_ ?_) <;> (intro h; try simp only [NM] at h)))
      simp -dsimp (disch := (first | omega | (simp only [LN]; omega))) only [retQ, Tryd.results18, resVals, cellRV, resOf, St.rest, St.freeze, RT, go_sem, ↓reduceIte, seval]
      all_goals rw [List.take_length]

section
open Go.Proofs Go.RowKit

theorem sat_of_calls {P : Program} {f : FuncId} {fn : Func} {c : Code} {xs : List V} {args : List Value} {v : Value} {r : A} (hf : P.funcs[f]? = some fn) (hb : fn.body = some c) (hn : (fn.name == "runtime.NumGoroutine") = false)
    (ha : ∀ m ω vs, ArgsRep m ω vs xs → vs = args) (hr : ∀ m ω, ARep m ω v r)
    (h : ∀ w, LaidW P w → Calls P f args.toArray w fun e w' => e = .returned v ∧ Below w.heap.size w w') : Sat P f xs r := by
  refine ⟨fun m w vs ω hC hA => ?_⟩
  have e := ha _ _ _ hA
  subst e
  refine .inr ⟨?_, (h w (hC.good w (Keeps.refl _ _))).mono fun e w' ⟨he, hw⟩ => ⟨v, he, m, ω, hC.grow hw (Mem.le_refl m) (fun _ _ => rfl) (fun x u hx => (hw.cell (World.block_lt_of_cell? w x (hC.ok x u hx))).trans (hC.ok x u hx)), hr m ω⟩⟩
  simp only [callFunc, Sem.run_bind, program, Sem.run, Result.andThen_ok, hf]
  rw [hn, hb]
  simp
theorem args1 {m : Mem} {ω : Wh} {vs : List Value} {l : L} {u : Value} (hA : ArgsRep m ω vs [.one l]) (h : ∀ v, ERep m ω v l → v = u) : vs = [u] := by
  obtain ⟨h1, h2⟩ := hA
  obtain ⟨v, h3, h4⟩ := h2 0 (.one l) rfl
  match vs, h1, h3 with
  | [x], _, h3 =>
    simp only [List.getElem?_cons_zero, Option.some.injEq] at h3
    subst h3
    rw [h x h4]
theorem erep_int {m : Mem} {ω : Wh} {v : Value} {k : IntKind} {n : Int} (h : ERep m ω v (.int k n)) : v = .int k n := by
  have h : Rep m v (.int k n) := h
  cases h; rfl
theorem erep_bool {m : Mem} {ω : Wh} {v : Value} {b : Bool} (h : ERep m ω v (.bool b)) : v = .bool b := by
  have h : Rep m v (.bool b) := h
  cases h; rfl
def itoaB (n : Int) : ByteArray := ⟨(Lib.itoa n).toArray⟩
theorem itoa_sat (n : Int) (h0 : -9223372036854775808 ≤ n) (h1 : n ≤ 9223372036854775807) : Sat Tryd.prog 39 [.one (.int .i64 n)] (.v (.one (.str (itoaB n)))) :=
  sat_of_calls (args := [.int .i64 n]) (v := .string (itoaB n)) Tryd.func39 rfl (by kernel_rfl) (fun m ω vs hA => args1 hA fun v h => erep_int h) (fun m ω => Rep.str _) fun w hw =>
    (Tryd.strconv_Itoa n h0 h1 w (hw.pow (by kernel_rfl))).mono fun e w' ⟨he, k, os, hk⟩ => ⟨he, hk ▸ Lib.below_grow _ w (Nat.le_refl _) k os⟩
def boolB (b : Bool) : ByteArray := ⟨(Lib.formatBool b).toArray⟩
theorem formatBool_sat (b : Bool) : Sat Tryd.prog 83 [.one (.bool b)] (.v (.one (.str (boolB b)))) :=
  sat_of_calls (args := [.bool b]) (v := .string (boolB b)) Tryd.func83 rfl (by kernel_rfl) (fun m ω vs hA => args1 hA fun v h => erep_bool h) (fun m ω => Rep.str _) fun w hw =>
    (Tryd.strconv_FormatBool b w).mono fun e w' ⟨he, hk⟩ => ⟨he, hk ▸ Below.refl _ _⟩
end

section
open Go.RowKit
section
variable {P : Program} {T : TypeId → Option TI} {w0 : World} {m0 : Mem} {F0 : Home} {s s' : St} {a : Act} {w w' : World} {m : Mem} {ω : Wh}

theorem ERep.whf {m : Mem} {ω : Wh} (f : Bool → Nat → Nat → Prop) {v : Value} {l : L} (h : ERep m ω v l) : ERep m { ω with f := f } v l := by
  cases l <;> exact h
theorem VRep.whf {m : Mem} {ω : Wh} (f : Bool → Nat → Nat → Prop) {v : Value} {x : V} (h : VRep m ω v x) : VRep m { ω with f := f } v x := by
  cases x with
  | one l => exact ERep.whf f h
  | agg ls => obtain ⟨cs, h1, h2, h3⟩ := h; exact ⟨cs, h1, h2, fun j l hl => let ⟨u, h4, h5⟩ := h3 j l hl; ⟨u, h4, h5.whf f⟩⟩
theorem ARep.whf {m : Mem} {ω : Wh} (f : Bool → Nat → Nat → Prop) {v : Value} {x : A} (h : ARep m ω v x) : ARep m { ω with f := f } v x := by
  cases x with
  | v x => exact VRep.whf f h
  | tup xs => obtain ⟨vs, h1, h2, h3⟩ := h; exact ⟨vs, h1, h2, fun j x hx => let ⟨u, h4, h5⟩ := h3 j x hx; ⟨u, h4, h5.whf f⟩⟩
theorem XRep.whf {m : Mem} {w : World} {ω : Wh} (f : Bool → Nat → Nat → Prop) {G : Nat → Prop} {v : Value} {l : L} (h : XRep m w ω G v l) : XRep m w { ω with f := f } G v l := by
  rcases h.cases with ⟨sz, xs, rfl, h⟩ | ⟨_, h⟩ | ⟨t, q, rfl, h⟩
  · exact h
  · exact (h.whf f).xrep
  · exact h
theorem RCell.whf {m : Mem} {w : World} {ω : Wh} (f : Bool → Nat → Nat → Prop) {G : Nat → Prop} {v : Value} {u : L} {o : Option L} (h : RCell m w ω G v u o) : RCell m w { ω with f := f } G v u o := by
  cases o with
  | none => exact h
  | some l => exact ERep.whf (ω := ω) f h
theorem CI.boxGrow (h : CI P w0 m0 F0 s a w m ω) {id : Nat} {ls0 ls : List L} (hb : look s.box id = some ls0)
    (hos : w'.os = w.os) (htp : w'.tape = w.tape) (hout : w'.output = w.output) (hsz : w.heap.size ≤ w'.heap.size) (hk : ∀ k, k < w.heap.size → ¬ ω.f false id k → w'.heap[k]? = w.heap[k]?)
    {cs : Array Value} {e : TypeId} (hh : w'.heap[ω.box id]? = some (.cells cs e (0, 0))) (hs : cs.size = ls.length) (G : Nat → Nat → Prop)
    (hG : ∀ j k, G j k → (ω.f false id k ∨ (w.heap.size ≤ k ∧ k < w'.heap.size)) ∧ k ≠ ω.box id) (hD : ∀ j j' k, G j k → G j' k → j = j')
    (hc : ∀ (j : Nat) (l : L), ls[j]? = some l → ∃ v, cs[j]? = some v ∧ XRep m w' ω (G j) v l) :
    ∃ ω', CI P w0 m0 F0 { s with box := sput id ls s.box } a w' m ω' ∧ ω'.box = ω.box ∧ ω'.row = ω.row := by
  obtain ⟨cs0, e0, g1, g2, g3, _⟩ := h.box id ls0 hb
  have hlive : s.live false id := by show (look s.box id).isSome; rw [hb]; rfl
  have hf := h.fresh false id hlive
  have hl' : ∀ κ i, ({ s with box := sput id ls s.box } : St).live κ i → s.live κ i := by
    intro κ i hl
    cases κ with
    | true => exact hl
    | false =>
      simp only [St.live] at hl ⊢
      rw [look_sput] at hl
      split at hl
      · rename_i e; subst e; rw [hb]; rfl
      · exact hl
  let f' : Bool → Nat → Nat → Prop := fun κ i k => ω.f κ i k ∨ (κ = false ∧ i = id ∧ w.heap.size ≤ k ∧ k < w'.heap.size)
  have hlt : ∀ κ i, s.live κ i → ∀ k, ω.f κ i k → k < w.heap.size := fun κ i hl k hk => (h.fresh κ i hl k hk).1
  have hf' : ∀ κ i, ¬ (κ = false ∧ i = id) → f' κ i = ω.f κ i := fun κ i hn => by
    funext k
    simp only [f', eq_iff_iff]
    exact ⟨fun h => h.elim (fun h => h) fun h => absurd ⟨h.1, h.2.1⟩ hn, fun h => .inl h⟩
  refine ⟨{ ω with f := f' }, ?_, rfl, rfl⟩
  refine { size := h.size, defers := h.defers, keeps := ⟨hos.trans h.keeps.os, htp.trans h.keeps.tape, hout.trans h.keeps.output, Nat.le_trans h.keeps.size hsz, fun k h1 h2 => ?_⟩, mle := h.mle, mold := h.mold, ok := fun x v hx => ?_, env := fun t x hx => (h.env t x hx).whf f', box := ?_, row := ?_, fresh := ?_, apart := ?_, home := ⟨h.home.big, fun i b hb' hi => h.home.box i b hb' (hl' false i hi), h.home.row⟩, good := h.good }
  · have hk1 : k < w.heap.size := Nat.lt_of_lt_of_le h1 h.keeps.size
    rw [hk k hk1 fun hw => by
      rcases (hf k hw).2.1 with h3 | h3
      · omega
      · exact h2 h3]
    exact h.keeps.block k h1 h2
  · have hx' := h.ok x v hx
    rw [World.cell?_of_block (hk x.block (World.block_lt_of_cell? w x hx') fun hw => (hf _ hw).2.2 x v hx rfl)]
    exact hx'
  · intro i l hi
    simp only at hi
    rw [look_sput] at hi
    split at hi
    · rename_i e'
      injection hi with hi
      subst hi; subst e'
      exact ⟨cs, e, hh, hs, .inl g3, G, fun j k hj => ⟨(hG j k hj).1.imp (fun q => q) fun q => ⟨rfl, rfl, q.1, q.2⟩, (hG j k hj).2⟩, hD, fun j l hj => let ⟨v, h1, h2⟩ := hc j l hj; ⟨v, h1, h2.whf f'⟩⟩
    · rename_i hne
      obtain ⟨cs1, e1, k1, k2, k3, G1, k4, k5, k6⟩ := h.box i l hi
      have hli : s.live false i := by show (look s.box i).isSome; rw [hi]; rfl
      have keep : ∀ k, ω.f false i k → w'.heap[k]? = w.heap[k]? := fun k hw => hk k (hlt _ _ hli k hw) fun hw' => hne (h.apart _ _ _ _ hli hlive k hw hw').2
      refine ⟨cs1, e1, (keep _ k3).trans k1, k2, .inl k3, G1, fun j k hj => ⟨.inl (k4 j k hj).1, (k4 j k hj).2⟩, k5, fun j u hj => ?_⟩
      obtain ⟨v, q1, q2⟩ := k6 j u hj
      exact ⟨v, q1, (q2.keep (Mem.le_refl m) fun k hw => keep k (k4 j k hw).1).whf f'⟩
  · intro i r hi
    have hli : s.live true i := by show (look s.row i).isSome; rw [hi]; rfl
    have keep : ∀ k, ω.f true i k → w'.heap[k]? = w.heap[k]? := fun k hw => hk k (hlt _ _ hli k hw) fun hw' => by cases (h.apart _ _ _ _ hli hlive k hw hw').1
    obtain ⟨q1, q2, q3⟩ := h.row i r hi
    refine ⟨q1, q2, ?_⟩
    revert q3
    show (match (ω.row i).blk with | Option.none => _ | some b => _) → (match (ω.row i).blk with | Option.none => _ | some b => _)
    cases hblk : (ω.row i).blk with
    | none => exact fun q3 => q3
    | some b =>
      intro q3
      obtain ⟨cs1, e1, k1, k2, k3, k4, k5, G1, k6, k7, k8⟩ := q3
      refine ⟨cs1, e1, (keep _ k5).trans k1, k2, k3, k4, .inl k5, G1, fun i' j k hj => ⟨.inl (k6 i' j k hj).1, (k6 i' j k hj).2⟩, k7, fun i' j u hj => ?_⟩
      obtain ⟨v, p1, p2⟩ := k8 i' j u hj
      exact ⟨v, p1, (p2.keep (Mem.le_refl m) fun k hw => keep k (k6 i' j k hw).1).whf f'⟩
  · intro κ i hl k hw
    rcases hw with hw | ⟨rfl, rfl, h1, h2⟩
    · obtain ⟨p1, p2, p3⟩ := h.fresh κ i (hl' κ i hl) k hw
      exact ⟨Nat.lt_of_lt_of_le p1 hsz, p2, p3⟩
    · refine ⟨h2, .inl (Nat.le_trans h.keeps.size h1), fun x v hx e => ?_⟩
      have := World.block_lt_of_cell? w x (h.ok x v hx)
      omega
  · intro κ i κ' i' hl hl2 k hw hw'
    have l1 := hl' κ i hl
    have l2 := hl' κ' i' hl2
    rcases hw with hw | ⟨rfl, rfl, h1, h2⟩ <;> rcases hw' with hw' | ⟨rfl, rfl, h3, h4⟩
    · exact h.apart κ i κ' i' l1 l2 k hw hw'
    · have := hlt _ _ l1 k hw; omega
    · have := hlt _ _ l2 k hw'; omega
    · exact ⟨rfl, rfl⟩
end
end

section
open Go.Proofs Go.RowKit Go.Shelf

abbrev tB : TypeId := 5
theorem bytesAt_of {w : World} {G : Nat → Prop} {v : Value} {t : TypeId} {l : List UInt8} (h : ByT w G v t l) : BytesAt w t v l.length (Lib.byteCells l) := by
  refine ⟨Lib.byteCells_length l, ?_⟩
  rcases h with ⟨rfl, rfl⟩ | ⟨g, cap, cur, _, h1, h2, h3, h4, h5, h6⟩
  · exact .inl ⟨rfl, rfl⟩
  · exact .inr ⟨g, cap, cur, h1, h2, h3, h4, h5, h6⟩
theorem byT_own {w : World} {G : Nat → Prop} {v : Value} {t : TypeId} {l : List UInt8} (h : ByT w G v t l) {k : Nat} (hk : v.ownBlock = some k) : G k := by
  rcases h with ⟨rfl, rfl⟩ | ⟨g, cap, cur, h0, rfl, _⟩
  · cases hk
  · simp only [Value.ownBlock, Option.some.injEq] at hk
    exact hk ▸ h0
theorem byT_of {w : World} {v : Value} {t : TypeId} {l : List UInt8} {n : Nat} (h : BytesAt w t v n (Lib.byteCells l)) : ByT w (fun k => v.ownBlock = some k) v t l := by
  have hn : l.length = n := (Lib.byteCells_length l).symm.trans h.1
  subst hn
  rcases h.2 with ⟨rfl, h0⟩ | ⟨g, cap, cur, rfl, h2, h3, h4, h5, h6⟩
  · exact .inl ⟨List.eq_nil_of_length_eq_zero h0, rfl⟩
  · exact .inr ⟨g, cap, cur, rfl, rfl, h2, h3, h4, h5, h6⟩
theorem erep_str' {m : Mem} {ω : Wh} {v : Value} {s : ByteArray} (h : ERep m ω v (.str s)) : v = .string s := by
  have h : Rep m v (.str s) := h
  cases h; rfl
theorem ws_call {P : Program} {f : FuncId} {fn : Func} {c : Code} {args : Array Value} {w : World} {R : Value → World → Prop} (hf : P.funcs[f]? = some fn) (hb : fn.body = some c) (hn : (fn.name == "runtime.NumGoroutine") = false)
    (h : Calls P f args w fun e w' => ∃ v, e = .returned v ∧ R v w') : CallsR P f args w R := by
  refine .inr ⟨?_, h⟩
  simp only [callFunc, Sem.run_bind, program, Sem.run, Result.andThen_ok, hf]
  rw [hn, hb]
  simp
theorem args2 {m : Mem} {ω : Wh} {vs : List Value} {x y : L} (hA : ArgsRep m ω vs [.one x, .one y]) : ∃ a b, vs = [a, b] ∧ ERep m ω a x ∧ ERep m ω b y := by
  obtain ⟨h1, h2⟩ := hA
  match vs, h1 with
  | [a, b], _ =>
    obtain ⟨a', ha, ha'⟩ := h2 0 _ rfl
    obtain ⟨b', hb, hb'⟩ := h2 1 _ rfl
    simp only [List.getElem?_cons_zero, List.getElem?_cons_succ, Option.some.injEq] at ha hb
    subst ha; subst hb
    exact ⟨_, _, rfl, ha', hb'⟩
theorem bld_box {m : Mem} {w : World} {ω : Wh} {id : Nat} {c : L} {t : TypeId} {l : List UInt8} (h : BoxRep m w ω id [c, .byt t l]) :
    ∃ p v e, w.heap[ω.box id]? = some (.cells #[p, v] e (0, 0)) ∧ ω.f false id (ω.box id) ∧ (∃ G0, XRep m w ω G0 p c) ∧ BytesAt w t v l.length (Lib.byteCells l) ∧ v.ownBlock ≠ some (ω.box id) ∧ ∀ k, v.ownBlock = some k → ω.f false id k := by
  obtain ⟨cs, e, h1, h2, h3, G, h4, h5, h6⟩ := h
  obtain ⟨p, hp, xp⟩ := h6 0 c rfl
  obtain ⟨v, hv, xv⟩ := h6 1 (.byt t l) rfl
  have hcs : cs = #[p, v] := by
    obtain ⟨L⟩ := cs
    match L, h2 with
    | [a, b], _ =>
      simp only [List.getElem?_toArray, List.getElem?_cons_zero, List.getElem?_cons_succ, Option.some.injEq] at hp hv
      rw [hp, hv]
  subst hcs
  have xv : ByT w (G 1) v t l := xv
  exact ⟨p, v, e, h1, h3, ⟨_, xp⟩, bytesAt_of xv, fun e' => (h4 1 _ (byT_own xv e')).2 rfl, fun k hk => (h4 1 k (byT_own xv hk)).1⟩
theorem bld_after {P : Program} {w0 : World} {m0 : Mem} {F0 : Home} {s : St} {a : Act} {w w' : World} {m : Mem} {ω : Wh} {id : Nat} {ls0 : List L} {t e : TypeId} {l : List UInt8} {n : Nat} {v v' : Value}
    (h : CI P w0 m0 F0 s a w m ω) (hb : look s.box id = some ls0) (hf : ω.f false id (ω.box id)) (ho : ∀ k, v.ownBlock = some k → ω.f false id k)
    (h1 : w'.heap[ω.box id]? = some (.cells #[.pointer (some ⟨ω.box id, 0, none⟩), v'] e (0, 0))) (h2 : BytesAt w' t v' n (Lib.byteCells l)) (h3 : v'.ownBlock ≠ some (ω.box id)) (h4 : Moved w w' v v') (h5 : KeptBut (fun k => k = ω.box id ∨ v.ownBlock = some k) w w') :
    ∃ ω', CI P w0 m0 F0 { s with box := sput id [.ptr id 0, .byt t l] s.box } a w' m ω' ∧ ω'.box = ω.box ∧ ω'.row = ω.row := by
  refine h.boxGrow hb h5.os h5.tape h5.output h5.size (fun k hk hn => h5.block k hk ?_) h1 rfl (fun j k => j = 1 ∧ v'.ownBlock = some k) (fun j k hj => ⟨?_, fun e' => h3 (e' ▸ hj.2)⟩) (fun j j' k hj hj' => hj.1.trans hj'.1.symm) fun j x hx => ?_
  · rintro (rfl | hk2)
    · exact hn hf
    · exact hn (ho k hk2)
  · rcases h4 with h4 | ⟨k', h6, h7, h8⟩
    · exact .inl (ho k (h4 ▸ hj.2))
    · rw [h6] at hj
      obtain ⟨_, hj⟩ := hj
      injection hj with hj
      subst hj
      exact .inr ⟨h7, h8⟩
  · match j, hx with
    | 0, hx =>
      simp only [List.getElem?_cons_zero, Option.some.injEq] at hx
      subst hx
      exact ⟨_, rfl, rfl⟩
    | 1, hx =>
      simp only [List.getElem?_cons_succ, List.getElem?_cons_zero, Option.some.injEq] at hx
      subst hx
      refine ⟨_, rfl, ?_⟩
      have q := byT_of h2
      show ByT w' (fun k => 1 = 1 ∧ v'.ownBlock = some k) v' t l
      refine q.imp (fun q => q) fun ⟨g, cap, cur, q1, q2⟩ => ⟨g, cap, cur, ⟨rfl, q1⟩, q2⟩
    | k + 2, hx => simp at hx
theorem strCells_bytes (s : ByteArray) : Lib.strCells s = Lib.byteCells s.data.toList := rfl
theorem byteCells_app (a b : List UInt8) : Lib.byteCells a ++ Lib.byteCells b = Lib.byteCells (a ++ b) := by simp [Lib.byteCells]
theorem arep_ws {m : Mem} {ω : Wh} (n : Int) : ARep m ω (.tuple #[.int .i64 n, .nilIface]) (.tup [.one (.int .i64 n), .one .any]) := by
  refine ⟨_, rfl, rfl, fun j x hx => ?_⟩
  match j, hx with
  | 0, hx =>
    simp only [List.getElem?_cons_zero, Option.some.injEq] at hx
    subst hx
    exact ⟨_, rfl, Rep.int _ _⟩
  | 1, hx =>
    simp only [List.getElem?_cons_succ, List.getElem?_cons_zero, Option.some.injEq] at hx
    subst hx
    exact ⟨_, rfl, Rep.any _ rfl⟩
  | k + 2, hx => simp at hx
theorem writeString_satM (l : List UInt8) (s : ByteArray) (hlen : l.length + s.size ≤ 140737488355328) :
    SatM Tryd.prog 38 [.one (.ptr 1000 0), .one (.str s)] [(1000, [.ptr 1000 0, .byt tB l])] [] (.tup [.one (.int .i64 s.size), .one .any]) [(1000, [.ptr 1000 0, .byt tB (l ++ s.data.toList)])] [] := by
  refine ⟨fun m w vs ω hC hA => ?_⟩
  obtain ⟨a, b, rfl, ha, hb⟩ := args2 hA
  have ha : a = .pointer (some ⟨ω.box 1000, 0, none⟩) := ha
  have hb : b = .string s := erep_str' hb
  subst ha; subst hb
  obtain ⟨p, v, e, h1, h2, ⟨G0, h3⟩, h4, h5, h6⟩ := bld_box (hC.box 1000 _ rfl)
  have h3 : p = .pointer (some ⟨ω.box 1000, 0, none⟩) := h3
  subst h3
  refine ws_call Tryd.func38 rfl (by kernel_rfl) ((Any.ws_used Tryd.bld166 Tryd.bldX (ω.box 1000) e v l.length (Lib.byteCells l) s w h1 h4 h5 hlen).mono fun en w' ⟨he, v', k1, k2, k3, k4, k5⟩ => ⟨_, he, ?_⟩)
  rw [strCells_bytes, byteCells_app] at k2
  obtain ⟨ω', q1, q2, q3⟩ := bld_after hC rfl h2 h6 k1 k2 k3 k4 k5
  exact ⟨m, ω', q1, arep_ws _⟩
theorem string_satM (l : List UInt8) (h0 : l ≠ []) : SatM Tryd.prog 40 [.one (.ptr 1000 0)] [(1000, [.ptr 1000 0, .byt tB l])] [] (.v (.one (.str ⟨l.toArray⟩))) [] [] := by
  refine ⟨fun m w vs ω hC hA => ?_⟩
  obtain rfl : vs = [.pointer (some ⟨ω.box 1000, 0, none⟩)] := args1 hA fun v h => h
  obtain ⟨p, v, e, h1, h2, ⟨G0, h3⟩, h4, h5, h6⟩ := bld_box (hC.box 1000 _ rfl)
  refine ws_call Tryd.func40 rfl (by kernel_rfl) ((Any.str_all Tryd.bld169 Tryd.bldX (ω.box 1000) e p v l w h1 h4 h0).mono fun en w' ⟨he, g, k1, k2⟩ => ⟨_, he, ?_⟩)
  have hlive : (roots [(1000, [L.ptr 1000 0, .byt tB l])] []).live false 1000 := rfl
  obtain ⟨f1, f2, f3⟩ := hC.fresh false 1000 hlive g (h6 g k1)
  have hW : CI Tryd.prog w m (handed [(1000, [L.ptr 1000 0, .byt tB l])] [] ω) (roots [] []) a0 w m ω := hC.weaken rfl (fun _ _ h => h) (fun i ls h => by cases h) (fun i ls h => by cases h)
  exact ⟨m, ω, hW.touch k2 f2 (fun κ id hl => by cases κ <;> cases hl) f3, Rep.str _⟩
end
end Go.Bw
