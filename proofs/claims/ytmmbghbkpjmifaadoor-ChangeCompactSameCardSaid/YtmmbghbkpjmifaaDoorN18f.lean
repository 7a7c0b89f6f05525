/-
  WHAT IS PROVED HERE, of this translation: bl_cons, bl_trans, bl_total, chain_lt, okSch_of, conformsRow_sat, scan_all_none, compareRows_sat, cloneRow_own, cloneRow_sat, relClone_own, relClone_sat, find_sat, conforms_sat, scan_ne, scan_all, scan_eq_none, scan_zero, tblsE_ne, fksE_ne, consE_ne, schE_zero, OkTbl.pk_ge, OkTbl.pk6, fkE_zero, small_of, cellE_ne, rowE_zero, pairE_ne, relE_ne, .., sr_of, sr_get, deleteR_sub, mem_upsertR, Sch.Fits.sub, okRel_iff, OkRel.sub, getR_nil, getR_cons, getR_none, cmp_ne, getR_above, getR_ext, getR_upsertR, getR_deleteR, upsertR_sr, validateKey_sat, chgValidate_sat, setRows_length, setRows_get, setRows_getD, setRows_conf, conf_rel, okChg_of, OkRel.upsert, OkRel.delete, applyC_conf, applyL_conf, applyL_bad.
  A theorem that ends in sat says what the function it names returns, whatever the state it is called in; the bounds on its arguments stand ahead of it.
-/
import Derived.Laws.Strings
import Derived.Test.YtmmbghbkpjmifaaDoorN18e
set_option linter.unusedSimpArgs false
set_option linter.unusedVariables false

namespace Go.Bw
open Go.Proofs
theorem bl_cons (x y : UInt8) (a b : List UInt8) : Op.bytesLess (x :: a) (y :: b) = true ↔ x.toNat < y.toNat ∨ (x = y ∧ Op.bytesLess a b = true) := by
  simp [Op.bytesLess, UInt8.lt_iff_toNat_lt]
theorem bl_trans : ∀ {a b c : List UInt8}, Op.bytesLess a b = true → Op.bytesLess b c = true → Op.bytesLess a c = true
  | [], [], _, h, _ => by simp [Op.bytesLess] at h
  | _ :: _, [], _, h, _ => by simp [Op.bytesLess] at h
  | _, _ :: _, [], _, h => by simp [Op.bytesLess] at h
  | [], _ :: _, _ :: _, _, _ => by simp [Op.bytesLess]
  | x :: a, y :: b, z :: c, h1, h2 => by
    rw [bl_cons] at h1 h2 ⊢
    rcases h1 with h1 | ⟨rfl, h1⟩
    · rcases h2 with h2 | ⟨rfl, h2⟩
      · exact .inl (by omega)
      · exact .inl h1
    · rcases h2 with h2 | ⟨rfl, h2⟩
      · exact .inl h2
      · exact .inr ⟨rfl, bl_trans h1 h2⟩
theorem bl_total : ∀ {a b : List UInt8}, Op.bytesLess a b = false → a ≠ b → Op.bytesLess b a = true
  | [], [], _, h => absurd rfl h
  | [], _ :: _, h, _ => by simp [Op.bytesLess] at h
  | _ :: _, [], _, _ => by simp [Op.bytesLess]
  | x :: a, y :: b, h, hne => by
    have h' : ¬ (x.toNat < y.toNat ∨ (x = y ∧ Op.bytesLess a b = true)) := fun e => by rw [← bl_cons, h] at e; cases e
    rw [bl_cons]
    by_cases hxy : x = y
    · subst hxy
      refine .inr ⟨rfl, bl_total ?_ (fun e => hne (by rw [e]))⟩
      cases hb : Op.bytesLess a b with
      | false => rfl
      | true => exact absurd (.inr ⟨rfl, hb⟩) h'
    · refine .inl ?_
      have : x.toNat ≠ y.toNat := fun e => hxy (UInt8.toNat_inj.1 e)
      have : ¬ x.toNat < y.toNat := fun e => h' (.inl e)
      omega

theorem chain_lt {ns : List (List UInt8)} (h : ∀ k, ∀ h : k + 1 < ns.length, Op.bytesLess ns[k] ns[k + 1] = true) : ∀ d i, ∀ h : i + d + 1 < ns.length, Op.bytesLess ns[i] ns[i + d + 1] = true
  | 0, i, hi => h i hi
  | d + 1, i, hi => bl_trans (chain_lt h d i (by omega)) (h (i + d + 1) hi)

structure OkSch (s : Sch) : Prop where
  tbl : ∀ t ∈ s.tables, OkTbl t
  lt : ∀ i j, ∀ h : i < j, ∀ hj : j < s.tables.length, Op.bytesLess s.tables[i].name.toList s.tables[j].name.toList = true
  n6 : s.tables.length ≤ 6
  n8 : s.fks.length ≤ 8
  m8 : s.cons.length ≤ 8

theorem okSch_of {s : Sch} (h : schE s = 0) : OkSch s := by
  unfold schE at h
  split at h
  · cases h
  rename_i h0
  cases hs : scan (tblsE s.tables) s.tables 0 with
  | some e =>
    rw [hs] at h
    simp only at h
    subst h
    exfalso
    have : ∀ (l : List Tbl) (k : Nat) (e : Int), scan (tblsE s.tables) l k = some e → e ≠ 0 := by
      intro l
      induction l with
      | nil => intro k e he; cases he
      | cons x l ih =>
        intro k e he
        unfold scan at he
        split at he
        · rename_i e' he'
          injection he with he
          subst he
          unfold tblsE at he'
          split at he'
          · rename_i hne
            injection he' with he'
            rw [← he']
            exact hne
          · split at he'
            · injection he' with he'; omega
            · cases he'
        · exact ih _ _ he
    exact this _ _ _ hs rfl
  | none =>
    have hk : ∀ k, ∀ h : k < s.tables.length, tblE s.tables[k] = 0 ∧ (0 < k → ¬ (Op.bytesLess s.tables[k].name.toList s.tables[k - 1].name.toList = true ∨ s.tables[k].name.toList = s.tables[k - 1].name.toList)) := by
      intro k hk
      have h1 := scan_none hs k hk
      rw [Nat.zero_add, tblsE] at h1
      split at h1
      · cases h1
      rename_i h2
      split at h1
      · cases h1
      rename_i h3
      refine ⟨by simpa using h2, fun h0 h4 => h3 ⟨by omega, ?_⟩⟩
      rw [show ((k : Int) - 1).toNat = k - 1 by omega, List.getD_eq_getElem?_getD, List.getElem?_eq_getElem (by omega)]
      exact h4
    have hstep : ∀ k, ∀ h : k + 1 < s.tables.length, Op.bytesLess s.tables[k].name.toList s.tables[k + 1].name.toList = true := by
      intro k h1
      have h2 := (hk (k + 1) h1).2 (by omega)
      simp only [not_or, Bool.not_eq_true, Nat.add_sub_cancel] at h2
      exact bl_total h2.1 h2.2
    refine ⟨fun t ht => ?_, fun i j hij hj => ?_, by omega, by omega, by omega⟩
    · obtain ⟨j, hj, rfl⟩ := List.mem_iff_getElem.1 ht
      exact okTbl_of (hk j hj).1
    · have h1 := chain_lt (ns := s.tables.map fun t => t.name.toList) (fun k h => by simpa using hstep k (by simpa using h)) (j - i - 1) i (by simp; omega)
      simp only [List.getElem_map] at h1
      have e : i + (j - i - 1) + 1 = j := by omega
      simpa only [e] using h1
end Go.Bw

namespace Go.Bw
open Go.Proofs
attribute [local go_sem ↓] VOps_nil VOps_cons VOp_callJ VVal_callH VOps_guard GOn_tt GOn_ff GOn_tf GOn_ft GOn_not GOn_none HOn_none HOn_tt HOn_ff HOn_tf HOn_ft HOn_not VHead_nil VHead_cons VHead_guard VVal_move VVal_assign VVal_pickE pickK_true pickK_false VVal_not VVal_neg negK_int VVal_load loadK_fz loadK_ptr loadK_eptr VVal_fieldAddr VVal_field VVal_indexAddr idxK_sl idxK_ref VVal_index indexK_str VVal_extract VVal_binOp binK_one binK_agg VVal_build VVal_buildSlice VVal_makeFunc VVal_slice sliceK_str sliceK_sl sliceK_nil sliceK_ref VVal_slice3 VVal_nilCheck VVal_convert convKk_int convKk_str VVal_len VVal_max VVal_min VOp_assign assignK_int assignK_bool assignK_str assignK_clo assignK_sl assignK_nil assignK_ref assignK_agg assignK_fz assignK_ptr assignK_eptr assignK_any VOp_box VOp_alloc VOp_store storeK_ptr storeK_eptr VOp_buildSlice VOp_append appK_rr appK_rs appK_rn appK_ri appK_nr appK_ns appK_nn appK_ni appStd_eq VOp_copy copyK_ref VOp_clear clearK_ref VOp_cap VOp_eqNil VOp_move VOp_pick VOp_not VOp_neg VOp_load VOp_fieldAddr VOp_field VOp_indexAddr VOp_index VOp_extract VOp_binTmp VOp_binInt VOp_binStr VOp_binPtr VOp_build VOp_makeFunc VOp_slice VOp_nilCheck VOp_convert VOp_len VOp_max VOp_min mO_some mT_some pk_some pk_none look_cons del_cons
attribute [local go_sem] guardB gOf int_bne beq_true beq_false Bool.not_not gSlot pickK_true pickK_false negK_int loadK_fz loadK_ptr loadK_eptr idxK_sl idxK_ref indexK_str binK_one binK_agg sliceK_str sliceK_sl sliceK_nil sliceK_ref convKk_int convKk_str maxL minL assignK_int assignK_bool assignK_str assignK_clo assignK_sl assignK_nil assignK_ref assignK_agg assignK_fz assignK_ptr assignK_eptr assignK_any nilRow_eq takeRow_eq appended_eq storeK_ptr storeK_eptr store_mk appIn_eq appMk_eq marked_eq ovOut_nil ovOut_cons ovIn_nil ovIn_cons padRow_eq ysC capK_nil capK_ref ioSt_mk outB_nil outR_nil outB outR inB_nil inB_cons inR_nil inR_cons L.kl L.kl0 L.ids L.ids0 Option.getD_some evalO constA mO_some mT_some put_mk putO_some putO_none okD_some okD_none pk_some pk_none look_nil del_nil sput noBox_mk noRow_mk newBox_eq newRow0_eq St.killRow RowC.kill rowMap_mk rowOf ovAll ovAdd ovDel ovGet ovShift dstOf ysOf overlay_nil overlay_nil' overlay A.map V.map L.noPtr L.noPtr0 L.noRow L.noRow0 L.peek L.norm L.flat clos_int clos_bool clos_str clos_sl clos_nil clos_any clos_fz L.clos L.isFz L.kd moveL fieldOff eqCells eqCell eqOp oneOf boolOf intOfA tupOf vOf aggOf isPtrLike isSlice lenKind lenL nL elemTI loadV asV binL intBin intDivL shrL boolBin strBin strAdd ptrNil boundN partCells fillL placesOf setL chunks repL capsOf capL callOf argsOf frzV_int frzV_bool frzV_str frzV_sl frzV_nil frzV_fz frzV_any frzV_own frzV_clo frzV_ref frzV_eptr frzV_ptr frzRow_nil frzRow_ov frzRs_nil frzRs_cons frzCs_nil frzCs_cons frzO_some frzO_none frzN_int frzN_bool frzN_str frzN_sl frzN_nil frzN_any frzN_own List.map_cons List.map_nil List.cons_append List.nil_append List.append_nil List.length_cons List.length_nil List.length_map List.length_append List.headD_cons List.tail_cons List.getElem?_cons_zero List.getElem?_cons_succ List.drop_zero List.drop_succ_cons List.drop_nil List.take_succ_cons List.take_zero List.take_nil List.take_length List.filter_cons List.filter_nil List.elem_cons List.elem_nil List.all_cons List.all_nil Option.bind_some Option.map_some Option.some.injEq bne_self_eq_false beq_self_eq_true if_true if_false Bool.false_eq_true true_and and_true and_self Nat.zero_add Nat.add_zero Nat.zero_le Int.toNat_natCast Int.toNat_zero Option.isSome_some List.getElem?_toArray decide_true decide_false ge_iff_le gt_iff_lt Bool.not_true Bool.not_false Nat.le_refl Bool.and_true Bool.true_and Bool.and_false Bool.false_and eVal eRow eRow1 eRows eInt1 eInts eCol eCols eTbl eTbls eFK eFKs eCon eCons eSch eRel eInst eChg eChgs szOf getD_map_lt wrap_nat wrap_in List.take_of_length_le frz_eVal frz_eRow1 frz_eInt1 frz_eCol frz_eTbl frz_eFK frz_eCon frz_eRel frz_eChg noOwn_nil noOwn_cons noOwn_append L.isOwn noOwn_eVal noOwn_eRow1 noOwn_eInt1 noOwn_eCol noOwn_eTbl noOwn_eFK noOwn_eCon noOwn_eRel noOwn_eChg convK_2 convK_3 convK_5 convK_12 convK_21 convK_57 convK_155 convK_162 convK_166 TT_2 TT_3 TT_4 TT_5 TT_9 TT_12 TT_13 TT_21 TT_22 TT_23 TT_24 TT_25 TT_26 TT_27 TT_28 TT_38 TT_39 TT_40 TT_41 TT_42 TT_45 TT_46 TT_47 TT_48 TT_49 TT_50 TT_51 TT_52 TT_54 TT_55 TT_56 TT_57 TT_65 TT_66 TT_82 TT_83 TT_84 TT_100 TT_101 TT_118 TT_155 TT_162 TT_166 boolTy_4 eqK_46 eqK_50 eqK_52
attribute [local congr] VOps.congr VHead.congr VOp.congr VVal.congr pk.congr assignK.congr appK.congr appStd.congr copyK.congr clearK.congr storeK.congr loadK.congr idxK.congr sliceK.congr indexK.congr binK.congr convKk.congr
def cellE (t : Tbl) (k : Nat) (v : Val) : Option Int :=
  if valE v ≠ 0 then some (valE v) else if v.kind = 0 ∧ (t.cols.getD k zCol).nullable = false then some 8 else if v.kind ≠ 0 ∧ v.kind ≠ (t.cols.getD k zCol).kind then some 7 else none
def rowE (t : Tbl) (r : Row) : Int :=
  if r.length ≠ t.cols.length then 3 else match scan (cellE t) r 0 with
    | some e => e
    | none => 0
set_option maxHeartbeats 8000000 in
theorem conformsRow_sat (t : Tbl) (r : Row) (h1 : r.length ≤ 140737488355328) (h2 : t.cols.length ≤ 140737488355328) : Sat Tryd.prog 85 [.agg (eTbl t), .one (eRow r)] (.v (oI (rowE t r))) := by
  refine sat_of_body tyOk Tryd.func85 rfl (by kernel_rfl) ⟨Nat.le_of_ble_eq_true rfl, Nat.le_of_ble_eq_true rfl⟩ fun w0 m0 F0 => ?_
  simp only [Tryd.ntmps85, envOf, Nat.reduceAdd]
  repeat' (first | ((first | with_reducible refine qV tyOk fun K hK => ?_ | (with_reducible first | refine qG ?_ | refine qH ?_ | refine qP ?_ | refine qGx ?_ | refine qHx ?_ | refine qPx ?_) | ((with_reducible first | refine qS ?_ ?_ | refine qT ?_ ?_ | refine qU ?_ ?_) <;> (intro h; try simp only [NM] at h)) | with_reducible refine yD tyOk mixed 6 (by kernel_rfl) fun K hK => ?_ | ((with_reducible refine CallJ.is ?_); (first | refine CallJ.pure (validate_sat _) ?_ | ((apply CallJ.lentI); (focus (simp -dsimp (disch := (first | omega | (simp only [LN]; omega))) only [go_sem, ↓reduceIte, seval]; rfl)); (focus (first | exact (validate_sat _)))))) | ((with_reducible refine CallH.is ?_); (first | refine CallH.intro (validate_sat _) ?_))) <;> simp -dsimp (disch := (first | omega | (simp only [LN]; omega))) only [go_sem, ↓reduceIte, seval]) | ((with_reducible refine hK _ ?_); clear hK K) | (with_reducible first | refine qA ?_ | refine qB ?_ | refine qC ?_ | refine qD ?_ | refine qE ?_ | refine qF ?_ | refine qL ?_ | refine qM ?_ | refine qN ?_ | refine qO ?_ | refine qQ ?_) | refine qR rfl ?_ | (with_reducible refine AI ?_) | ((with_reducible refine qW (T := TT) (b := ?_) ?_ ?_); rotate_left; exact rfl) | (with_reducible first | refine qX ?_ | refine qY ?_ | refine qZ ?_) | (with_reducible first | refine qI ?_ | refine qIx ?_ | fail) | ((with_reducible refine yS ?_ ?_) <;> (intro h; try simp only [NM] at h)))
  rotate_left
  · simp -dsimp (disch := (first | omega | (simp only [LN]; omega))) only [retQ, Tryd.results85, resVals, cellRV, resOf, St.rest, St.freeze, RT, go_sem, ↓reduceIte, seval]
    have : r.length ≠ t.cols.length := by omega
    simp [rowE, this]
  have hl : r.length = t.cols.length := by omega
  have spec : rowE t r = match scan (cellE t) r 0 with
    | some e => e
    | none => 0 := by simp [rowE, hl]
  rw [spec]
  refine AWP.loop (ι := {k : Nat // k ≤ r.length ∧ scan (cellE t) (r.drop k) k = scan (cellE t) r 0}) (fun k => ⟨53, [(2, .v (.one (.ptr 2 0))), (14, .v (.one (eRow r))), (15, .v (oI r.length)), (16, .v (oI k.1))], [(2, eTbl t)], []⟩) (fun k => r.length - k.1) ⟨0, Nat.zero_le _, rfl⟩ ?_ fun ⟨k, hkl, hi⟩ => ?_
  · refine St.le_mk ?_ ?_ ?_ <;> simp only [LE, EN, Nat.reduceEqDiff, reduceIte, Nat.reduceSub, eTbl]
  rcases Nat.lt_or_ge k r.length with hc | hc
  · repeat' (first | ((first | with_reducible refine qV tyOk fun K hK => ?_ | (with_reducible first | refine qG ?_ | refine qH ?_ | refine qP ?_ | refine qGx ?_ | refine qHx ?_ | refine qPx ?_) | ((with_reducible first | refine qS ?_ ?_ | refine qT ?_ ?_ | refine qU ?_ ?_) <;> (intro h; try simp only [NM] at h)) | with_reducible refine yD tyOk mixed 6 (by kernel_rfl) fun K hK => ?_ | ((with_reducible refine CallJ.is ?_); (first | refine CallJ.pure (validate_sat _) ?_ | ((apply CallJ.lentI); (focus (simp -dsimp (disch := (first | omega | (simp only [LN]; omega))) only [go_sem, ↓reduceIte, seval]; rfl)); (focus (first | exact (validate_sat _)))))) | ((with_reducible refine CallH.is ?_); (first | refine CallH.intro (validate_sat _) ?_))) <;> simp -dsimp (disch := (first | omega | (simp only [LN]; omega))) only [go_sem, ↓reduceIte, seval]) | ((with_reducible refine hK _ ?_); clear hK K) | (with_reducible first | refine qA ?_ | refine qB ?_ | refine qC ?_ | refine qD ?_ | refine qE ?_ | refine qF ?_ | refine qL ?_ | refine qM ?_ | refine qN ?_ | refine qO ?_ | refine qQ ?_) | refine qR rfl ?_ | (with_reducible refine AI ?_) | ((with_reducible refine qW (T := TT) (b := ?_) ?_ ?_); rotate_left; exact rfl) | (with_reducible first | refine qX ?_ | refine qY ?_ | refine qZ ?_) | (with_reducible first | refine qI ?_ | refine qIx ?_ | fail) | ((with_reducible refine yS ?_ ?_) <;> (intro h; try simp only [NM] at h)))
    all_goals
      first
        | (have hs : (cellE t) k r[k] = none := by
             (simp (disch := omega) only [cellE, getD_lt]; (repeat' split) <;> first | rfl | with_reducible assumption | omega | (exfalso; omega) | (simp_all; done) | (simp_all; omega))
           refine ⟨⟨k + 1, by omega, by rw [scan_step (by omega) hs, hi]⟩, by simp only; omega, ?_⟩
           refine St.le_mk ?_ ?_ ?_ <;> simp only [LE, EN, Nat.reduceEqDiff, reduceIte, Nat.reduceSub, eTbl]
           done)
        | (simp -dsimp (disch := (first | omega | (simp only [LN]; omega))) only [retQ, Tryd.results85, resVals, cellRV, resOf, St.rest, St.freeze, RT, go_sem, ↓reduceIte, seval]
           rw [scan_leaf (by omega) ?_ hi]
           all_goals first | with_reducible rfl | ((simp (disch := omega) only [cellE, getD_lt]; (repeat' split) <;> first | rfl | with_reducible assumption | omega | (exfalso; omega) | (simp_all; done) | (simp_all; omega)); done) | rfl
           done)
  · rw [scan_end (by omega)] at hi
    repeat' (first | ((first | with_reducible refine qV tyOk fun K hK => ?_ | (with_reducible first | refine qG ?_ | refine qH ?_ | refine qP ?_ | refine qGx ?_ | refine qHx ?_ | refine qPx ?_) | ((with_reducible first | refine qS ?_ ?_ | refine qT ?_ ?_ | refine qU ?_ ?_) <;> (intro h; try simp only [NM] at h)) | with_reducible refine yD tyOk mixed 6 (by kernel_rfl) fun K hK => ?_) <;> simp -dsimp (disch := (first | omega | (simp only [LN]; omega))) only [go_sem, ↓reduceIte, seval]) | ((with_reducible refine hK _ ?_); clear hK K) | (with_reducible first | refine qA ?_ | refine qB ?_ | refine qC ?_ | refine qD ?_ | refine qE ?_ | refine qF ?_ | refine qL ?_ | refine qM ?_ | refine qN ?_ | refine qO ?_ | refine qQ ?_) | refine qR rfl ?_ | (with_reducible refine AI ?_) | ((with_reducible refine qW (T := TT) (b := ?_) ?_ ?_); rotate_left; exact rfl) | (with_reducible first | refine qX ?_ | refine qY ?_ | refine qZ ?_) | (with_reducible first | refine qI ?_ | refine qIx ?_ | fail) | ((with_reducible refine yS ?_ ?_) <;> (intro h; try simp only [NM] at h)))
    simp -dsimp (disch := (first | omega | (simp only [LN]; omega))) only [retQ, Tryd.results85, resVals, cellRV, resOf, St.rest, St.freeze, RT, go_sem, ↓reduceIte, seval]
    rw [← hi]

def cmpCell (b : Row) (k : Nat) (x : Val) : Option Int := if k < b.length ∧ cmpV x (b.getD k zV) ≠ 0 then some (cmpV x (b.getD k zV)) else none
def cmpRows (a b : Row) : Int := match scan (cmpCell b) a 0 with
  | some e => e
  | none => cmpInts a.length b.length
theorem scan_all_none {α : Type} {f : Nat → α → Option Int} : ∀ {l : List α} {k : Nat}, (∀ j x, k ≤ j → f j x = none) → scan f l k = none
  | [], _, _ => rfl
  | x :: l, k, h => by
    rw [scan, h k x (Nat.le_refl _)]
    exact scan_all_none fun j y hj => h j y (by omega)

set_option maxHeartbeats 8000000 in
theorem compareRows_sat (a b : Row) (h1 : a.length ≤ 140737488355328) (h2 : b.length ≤ 140737488355328) : Sat Tryd.prog 36 [.one (eRow a), .one (eRow b)] (.v (oI (cmpRows a b))) := by
  refine sat_of_body tyOk Tryd.func36 rfl (by kernel_rfl) ⟨Nat.le_of_ble_eq_true rfl, Nat.le_of_ble_eq_true rfl⟩ fun w0 m0 F0 => ?_
  simp only [Tryd.ntmps36, envOf, Nat.reduceAdd]
  repeat' (first | ((first | with_reducible refine qV tyOk fun K hK => ?_ | (with_reducible first | refine qG ?_ | refine qH ?_ | refine qP ?_ | refine qGx ?_ | refine qHx ?_ | refine qPx ?_) | ((with_reducible first | refine qS ?_ ?_ | refine qT ?_ ?_ | refine qU ?_ ?_) <;> (intro h; try simp only [NM] at h)) | with_reducible refine yD tyOk mixed 6 (by kernel_rfl) fun K hK => ?_ | ((with_reducible refine CallJ.is ?_); (first | refine CallJ.pure (compare_sat _ _) ?_ | ((apply CallJ.lentI); (focus (simp -dsimp (disch := (first | omega | (simp only [LN]; omega))) only [go_sem, ↓reduceIte, seval]; rfl)); (focus (first | exact (compare_sat _ _)))))) | ((with_reducible refine CallH.is ?_); (first | refine CallH.intro (compare_sat _ _) ?_))) <;> simp -dsimp (disch := (first | omega | (simp only [LN]; omega))) only [go_sem, ↓reduceIte, seval]) | ((with_reducible refine hK _ ?_); clear hK K) | (with_reducible first | refine qA ?_ | refine qB ?_ | refine qC ?_ | refine qD ?_ | refine qE ?_ | refine qF ?_ | refine qL ?_ | refine qM ?_ | refine qN ?_ | refine qO ?_ | refine qQ ?_) | refine qR rfl ?_ | (with_reducible refine AI ?_) | ((with_reducible refine qW (T := TT) (b := ?_) ?_ ?_); rotate_left; exact rfl) | (with_reducible first | refine qX ?_ | refine qY ?_ | refine qZ ?_) | (with_reducible first | refine qI ?_ | refine qIx ?_ | fail) | ((with_reducible refine yS ?_ ?_) <;> (intro h; try simp only [NM] at h)))
  refine AWP.loop (ι := {k : Nat // k ≤ a.length ∧ k ≤ b.length ∧ scan (cmpCell b) (a.drop k) k = scan (cmpCell b) a 0}) (fun k => ⟨33, [(0, .v (.one (eRow a))), (1, .v (.one (eRow b))), (11, .v (oI (if (b.length : Int) < (a.length : Int) then (b.length : Int) else (a.length : Int)))), (12, .v (oI k.1))], [], []⟩) (fun k => a.length - k.1) ⟨0, Nat.zero_le _, Nat.zero_le _, rfl⟩ ?_ fun ⟨k, hkl, hkb, hi⟩ => ?_
  · refine St.le_mk ?_ ?_ ?_ <;> simp only [LE, EN, Nat.reduceEqDiff, reduceIte, Nat.reduceSub]
  by_cases hc : k < a.length ∧ k < b.length
  · obtain ⟨hc1, hc2⟩ := hc
    have hm : (k : Int) < (if (b.length : Int) < (a.length : Int) then (b.length : Int) else (a.length : Int)) := by split <;> omega
    repeat' (first | ((first | with_reducible refine qV tyOk fun K hK => ?_ | (with_reducible first | refine qG ?_ | refine qH ?_ | refine qP ?_ | refine qGx ?_ | refine qHx ?_ | refine qPx ?_) | ((with_reducible first | refine qS ?_ ?_ | refine qT ?_ ?_ | refine qU ?_ ?_) <;> (intro h; try simp only [NM] at h)) | with_reducible refine yD tyOk mixed 6 (by kernel_rfl) fun K hK => ?_ | ((with_reducible refine CallJ.is ?_); (first | refine CallJ.pure (compare_sat _ _) ?_ | ((apply CallJ.lentI); (focus (simp -dsimp (disch := (first | omega | (simp only [LN]; omega))) only [go_sem, ↓reduceIte, seval, hm]; rfl)); (focus (first | exact (compare_sat _ _)))))) | ((with_reducible refine CallH.is ?_); (first | refine CallH.intro (compare_sat _ _) ?_))) <;> simp -dsimp (disch := (first | omega | (simp only [LN]; omega))) only [go_sem, ↓reduceIte, seval, hm]) | ((with_reducible refine hK _ ?_); clear hK K) | (with_reducible first | refine qA ?_ | refine qB ?_ | refine qC ?_ | refine qD ?_ | refine qE ?_ | refine qF ?_ | refine qL ?_ | refine qM ?_ | refine qN ?_ | refine qO ?_ | refine qQ ?_) | refine qR rfl ?_ | (with_reducible refine AI ?_) | ((with_reducible refine qW (T := TT) (b := ?_) ?_ ?_); rotate_left; exact rfl) | (with_reducible first | refine qX ?_ | refine qY ?_ | refine qZ ?_) | (with_reducible first | refine qI ?_ | refine qIx ?_ | fail) | ((with_reducible refine yS ?_ ?_) <;> (intro h; try simp only [NM] at h)))
    all_goals first
      | (have hs : cmpCell b k a[k] = none := by
           (simp (disch := omega) only [cmpCell, getD_lt]; rw [if_neg]; omega)
         refine ⟨⟨k + 1, by omega, by omega, by rw [scan_step (by omega) hs, hi]⟩, by simp only; omega, ?_⟩
         refine St.le_mk ?_ ?_ ?_ <;> simp only [LE, EN, Nat.reduceEqDiff, reduceIte, Nat.reduceSub]
         done)
      | (have hs : cmpCell b k a[k] = some (cmpV a[k] b[k]) := by
           (simp (disch := omega) only [cmpCell, getD_lt]; rw [if_pos]; omega)
         simp -dsimp (disch := (first | omega | (simp only [LN]; omega))) only [retQ, Tryd.results36, resVals, cellRV, resOf, St.rest, St.freeze, RT, go_sem, ↓reduceIte, seval]
         rw [cmpRows, scan_leaf (by omega) hs hi]
         done)
  · have hm : ¬ (k : Int) < (if (b.length : Int) < (a.length : Int) then (b.length : Int) else (a.length : Int)) := by split <;> omega
    have hn : scan (cmpCell b) a 0 = none := by
      rw [← hi]
      rcases Nat.lt_or_ge k a.length with h | h
      · exact scan_all_none fun j x hj => if_neg (by omega)
      · rw [scan_end (by omega)]
    repeat' (first | ((first | with_reducible refine qV tyOk fun K hK => ?_ | (with_reducible first | refine qG ?_ | refine qH ?_ | refine qP ?_ | refine qGx ?_ | refine qHx ?_ | refine qPx ?_) | ((with_reducible first | refine qS ?_ ?_ | refine qT ?_ ?_ | refine qU ?_ ?_) <;> (intro h; try simp only [NM] at h)) | with_reducible refine yD tyOk mixed 6 (by kernel_rfl) fun K hK => ?_ | ((with_reducible refine CallJ.is ?_); (first | refine CallJ.pure (compareInts_sat _ _) ?_ | ((apply CallJ.lentI); (focus (simp -dsimp (disch := (first | omega | (simp only [LN]; omega))) only [go_sem, ↓reduceIte, seval, hm]; rfl)); (focus (first | exact (compareInts_sat _ _)))))) | ((with_reducible refine CallH.is ?_); (first | refine CallH.intro (compareInts_sat _ _) ?_))) <;> simp -dsimp (disch := (first | omega | (simp only [LN]; omega))) only [go_sem, ↓reduceIte, seval, hm]) | ((with_reducible refine hK _ ?_); clear hK K) | (with_reducible first | refine qA ?_ | refine qB ?_ | refine qC ?_ | refine qD ?_ | refine qE ?_ | refine qF ?_ | refine qL ?_ | refine qM ?_ | refine qN ?_ | refine qO ?_ | refine qQ ?_) | refine qR rfl ?_ | (with_reducible refine AI ?_) | ((with_reducible refine qW (T := TT) (b := ?_) ?_ ?_); rotate_left; exact rfl) | (with_reducible first | refine qX ?_ | refine qY ?_ | refine qZ ?_) | (with_reducible first | refine qI ?_ | refine qIx ?_ | fail) | ((with_reducible refine yS ?_ ?_) <;> (intro h; try simp only [NM] at h)))
    simp -dsimp (disch := (first | omega | (simp only [LN]; omega))) only [retQ, Tryd.results36, resVals, cellRV, resOf, St.rest, St.freeze, RT, go_sem, ↓reduceIte, seval]
    rw [cmpRows, hn]

set_option maxHeartbeats 8000000 in
theorem cloneRow_own (r : List Val) (h1 : r.length ≤ 1099511627776) : SatM Tryd.prog 27 [.one (eRow r)] [] [] (.v (.one (.ref 2 0 r.length))) [] [(2, ⟨3, r.map eVal, []⟩)] := by
  refine satM_of_body tyOk [] [2] Tryd.func27 rfl (by kernel_rfl) ⟨Nat.le_of_ble_eq_true rfl, Nat.le_of_ble_eq_true rfl⟩ fun w0 m0 F0 => ?_
  simp only [Tryd.ntmps27, envOf, Nat.reduceAdd]
  repeat' (first | ((first | with_reducible refine qV tyOk fun K hK => ?_ | (with_reducible first | refine qG ?_ | refine qH ?_ | refine qP ?_ | refine qGx ?_ | refine qHx ?_ | refine qPx ?_) | ((with_reducible first | refine qS ?_ ?_ | refine qT ?_ ?_ | refine qU ?_ ?_) <;> (intro h; try simp only [NM] at h)) | with_reducible refine yD tyOk mixed 6 (by kernel_rfl) fun K hK => ?_) <;> simp -dsimp (disch := (first | omega | (simp only [LN]; omega))) only [go_sem, ↓reduceIte, seval]) | ((with_reducible refine hK _ ?_); clear hK K) | (with_reducible first | refine qA ?_ | refine qB ?_ | refine qC ?_ | refine qD ?_ | refine qE ?_ | refine qF ?_ | refine qL ?_ | refine qM ?_ | refine qN ?_ | refine qO ?_ | refine qQ ?_) | refine qR rfl ?_ | (with_reducible refine AI ?_) | ((with_reducible refine qW (T := TT) (b := ?_) ?_ ?_); rotate_left; exact rfl) | (with_reducible first | refine qX ?_ | refine qY ?_ | refine qZ ?_) | (with_reducible first | refine qI ?_ | refine qIx ?_ | fail) | ((with_reducible refine yS ?_ ?_) <;> (intro h; try simp only [NM] at h)))
  intro b hb
  refine hK _ ?_
  clear hK K
  repeat' (first | ((first | with_reducible refine qV tyOk fun K hK => ?_ | (with_reducible first | refine qG ?_ | refine qH ?_ | refine qP ?_ | refine qGx ?_ | refine qHx ?_ | refine qPx ?_) | ((with_reducible first | refine qS ?_ ?_ | refine qT ?_ ?_ | refine qU ?_ ?_) <;> (intro h; try simp only [NM] at h)) | with_reducible refine yD tyOk mixed 6 (by kernel_rfl) fun K hK => ?_) <;> simp -dsimp (disch := (first | omega | (simp only [LN]; omega))) only [go_sem, ↓reduceIte, seval]) | ((with_reducible refine hK _ ?_); clear hK K) | (with_reducible first | refine qA ?_ | refine qB ?_ | refine qC ?_ | refine qD ?_ | refine qE ?_ | refine qF ?_ | refine qL ?_ | refine qM ?_ | refine qN ?_ | refine qO ?_ | refine qQ ?_) | refine qR rfl ?_ | (with_reducible refine AI ?_) | ((with_reducible refine qW (T := TT) (b := ?_) ?_ ?_); rotate_left; exact rfl) | (with_reducible first | refine qX ?_ | refine qY ?_ | refine qZ ?_) | (with_reducible first | refine qI ?_ | refine qIx ?_ | fail) | ((with_reducible refine yS ?_ ?_) <;> (intro h; try simp only [NM] at h)))
  all_goals simp -dsimp (disch := (first | omega | (simp only [LN]; omega))) only [retQ, Tryd.results27, resVals, cellRV, resOf, St.rest, St.freeze, RT, go_sem, ↓reduceIte, seval]
  have h2 : r = [] := by
    cases r with
    | nil => rfl
    | cons x r => exact absurd ((hb _ rfl (by simp)).symm.trans ‹b = true›) (by decide)
  subst h2
  exact ⟨rfl, rfl⟩
theorem cloneRow_sat (r : List Val) (h1 : r.length ≤ 1099511627776) : Sat Tryd.prog 27 [.one (eRow r)] (.v (.one (eRow r))) :=
  (cloneRow_own r h1).frz (by
    simp -dsimp (disch := (first | omega | (simp only [LN]; omega))) only [go_sem, ↓reduceIte, seval, topL_ref, St.rest, roots, dropL_nil, eRow]
    )

set_option maxHeartbeats 8000000 in
theorem relClone_own (l : List Row) (h1 : l.length ≤ 1099511627776) (h2 : ∀ r ∈ l, r.length ≤ 1099511627776) : SatM Tryd.prog 33 [.one (eRows l)] [] [] (.v (.one (.ref 2 0 l.length))) [] [(2, ⟨1, l.map eRow1, []⟩)] := by
  refine satM_of_body tyOk [] [2] Tryd.func33 rfl (by kernel_rfl) ⟨Nat.le_of_ble_eq_true rfl, Nat.le_of_ble_eq_true rfl⟩ fun w0 m0 F0 => ?_
  simp only [Tryd.ntmps33, envOf, Nat.reduceAdd]
  repeat' (first | ((first | with_reducible refine qV tyOk fun K hK => ?_ | (with_reducible first | refine qG ?_ | refine qH ?_ | refine qP ?_ | refine qGx ?_ | refine qHx ?_ | refine qPx ?_) | ((with_reducible first | refine qS ?_ ?_ | refine qT ?_ ?_ | refine qU ?_ ?_) <;> (intro h; try simp only [NM] at h)) | with_reducible refine yD tyOk mixed 6 (by kernel_rfl) fun K hK => ?_) <;> simp -dsimp (disch := (first | omega | (simp only [LN]; omega))) only [go_sem, ↓reduceIte, seval]) | ((with_reducible refine hK _ ?_); clear hK K) | (with_reducible first | refine qA ?_ | refine qB ?_ | refine qC ?_ | refine qD ?_ | refine qE ?_ | refine qF ?_ | refine qL ?_ | refine qM ?_ | refine qN ?_ | refine qO ?_ | refine qQ ?_) | refine qR rfl ?_ | (with_reducible refine AI ?_) | ((with_reducible refine qW (T := TT) (b := ?_) ?_ ?_); rotate_left; exact rfl) | (with_reducible first | refine qX ?_ | refine qY ?_ | refine qZ ?_) | (with_reducible first | refine qI ?_ | refine qIx ?_ | fail) | ((with_reducible refine yS ?_ ?_) <;> (intro h; try simp only [NM] at h)))
  refine AWP.loop (ι := {k : Nat // k ≤ l.length}) (fun k => ⟨19, [(3, .v (.one (.ref 3 0 k.1))), (6, .v (.one (eRows l))), (7, .v (oI l.length)), (8, .v (oI k.1))], [], [(3, ⟨1, (l.take k.1).map eRow1, []⟩)]⟩) (fun k => l.length - k.1) ⟨0, Nat.zero_le _⟩ ?_ fun ⟨k, hkl⟩ => ?_
  · refine St.le_mk ?_ ?_ ?_ <;> simp only [LE, EN, Nat.reduceEqDiff, reduceIte, Nat.reduceSub]
  have hlen : (l.take k).length = k := by simp; omega
  rcases Nat.lt_or_ge k l.length with hc | hc
  · have b1 := h2 l[k] (List.getElem_mem hc)
    repeat' (first | ((first | with_reducible refine qV tyOk fun K hK => ?_ | (with_reducible first | refine qG ?_ | refine qH ?_ | refine qP ?_ | refine qGx ?_ | refine qHx ?_ | refine qPx ?_) | ((with_reducible first | refine qS ?_ ?_ | refine qT ?_ ?_ | refine qU ?_ ?_) <;> (intro h; try simp only [NM] at h)) | with_reducible refine yD tyOk mixed 6 (by kernel_rfl) fun K hK => ?_ | ((with_reducible refine CallJ.is ?_); (first | refine CallJ.pure (cloneRow_sat _ b1) ?_ | ((apply CallJ.lentI); (focus (simp -dsimp (disch := (first | omega | (simp only [LN]; omega))) only [go_sem, ↓reduceIte, seval, hlen]; rfl)); (focus (first | exact (cloneRow_sat _ b1)))))) | ((with_reducible refine CallH.is ?_); (first | refine CallH.intro (cloneRow_sat _ b1) ?_))) <;> simp -dsimp (disch := (first | omega | (simp only [LN]; omega))) only [go_sem, ↓reduceIte, seval, hlen]) | ((with_reducible refine hK _ ?_); clear hK K) | (with_reducible first | refine qA ?_ | refine qB ?_ | refine qC ?_ | refine qD ?_ | refine qE ?_ | refine qF ?_ | refine qL ?_ | refine qM ?_ | refine qN ?_ | refine qO ?_ | refine qQ ?_) | refine qR rfl ?_ | (with_reducible refine AI ?_) | ((with_reducible refine qW (T := TT) (b := ?_) ?_ ?_); rotate_left; exact rfl) | (with_reducible first | refine qX ?_ | refine qY ?_ | refine qZ ?_) | (with_reducible first | refine qI ?_ | refine qIx ?_ | fail) | ((with_reducible refine yS ?_ ?_) <;> (intro h; try simp only [NM] at h)))
    refine ⟨⟨k + 1, by omega⟩, by simp only; omega, ?_⟩
    have e := take_snoc l k hc
    refine St.le_mk ?_ ?_ ?_ <;> simp only [LE, EN, Nat.reduceEqDiff, reduceIte, Nat.reduceSub, e, eRow1, eRow]
  · have hk : k = l.length := by omega
    subst hk
    repeat' (first | ((first | with_reducible refine qV tyOk fun K hK => ?_ | (with_reducible first | refine qG ?_ | refine qH ?_ | refine qP ?_ | refine qGx ?_ | refine qHx ?_ | refine qPx ?_) | ((with_reducible first | refine qS ?_ ?_ | refine qT ?_ ?_ | refine qU ?_ ?_) <;> (intro h; try simp only [NM] at h)) | with_reducible refine yD tyOk mixed 6 (by kernel_rfl) fun K hK => ?_) <;> simp -dsimp (disch := (first | omega | (simp only [LN]; omega))) only [go_sem, ↓reduceIte, seval]) | ((with_reducible refine hK _ ?_); clear hK K) | (with_reducible first | refine qA ?_ | refine qB ?_ | refine qC ?_ | refine qD ?_ | refine qE ?_ | refine qF ?_ | refine qL ?_ | refine qM ?_ | refine qN ?_ | refine qO ?_ | refine qQ ?_) | refine qR rfl ?_ | (with_reducible refine AI ?_) | ((with_reducible refine qW (T := TT) (b := ?_) ?_ ?_); rotate_left; exact rfl) | (with_reducible first | refine qX ?_ | refine qY ?_ | refine qZ ?_) | (with_reducible first | refine qI ?_ | refine qIx ?_ | fail) | ((with_reducible refine yS ?_ ?_) <;> (intro h; try simp only [NM] at h)))
    simp -dsimp (disch := (first | omega | (simp only [LN]; omega))) only [retQ, Tryd.results33, resVals, cellRV, resOf, St.rest, St.freeze, RT, go_sem, ↓reduceIte, seval]
theorem relClone_sat (l : List Row) (h1 : l.length ≤ 1099511627776) (h2 : ∀ r ∈ l, r.length ≤ 1099511627776) : Sat Tryd.prog 33 [.one (eRows l)] (.v (.one (eRows l))) :=
  (relClone_own l h1 h2).frz (by
    simp -dsimp (disch := (first | omega | (simp only [LN]; omega))) only [go_sem, ↓reduceIte, seval, topL_ref, St.rest, roots, dropL_nil, eRows]
    )

def atKey (t : Tbl) (key : Row) (r : Row) : Bool := decide (0 ≤ cmpRows (keyOf t.pk r) key)
def findPos (t : Tbl) (rows : List Row) (key : Row) : Int := idx (atKey t key) rows 0
def findI (t : Tbl) (rows : List Row) (key : Row) : Int := if findPos t rows key < 0 then rows.length else findPos t rows key
def findB (t : Tbl) (rows : List Row) (key : Row) : Bool := if findPos t rows key < 0 then false else cmpRows (keyOf t.pk (rows.getD (findPos t rows key).toNat [])) key == 0

set_option maxHeartbeats 8000000 in
theorem find_sat (t : Tbl) (rows : List Row) (key : Row) (h1 : t.pk.length ≤ 1099511627776) (h2 : rows.length ≤ 140737488355328) (h3 : key.length ≤ 140737488355328) :
    Sat Tryd.prog 12 [.agg (eTbl t), .one (eRows rows), .one (eRow key)] (.tup [oI (findI t rows key), oB (findB t rows key)]) := by
  refine sat_of_body tyOk Tryd.func12 rfl (by kernel_rfl) ⟨Nat.le_of_ble_eq_true rfl, Nat.le_of_ble_eq_true rfl⟩ fun w0 m0 F0 => ?_
  simp only [Tryd.ntmps12, envOf, Nat.reduceAdd]
  repeat' (first | ((first | with_reducible refine qV tyOk fun K hK => ?_ | (with_reducible first | refine qG ?_ | refine qH ?_ | refine qP ?_ | refine qGx ?_ | refine qHx ?_ | refine qPx ?_) | ((with_reducible first | refine qS ?_ ?_ | refine qT ?_ ?_ | refine qU ?_ ?_) <;> (intro h; try simp only [NM] at h)) | with_reducible refine yD tyOk mixed 6 (by kernel_rfl) fun K hK => ?_) <;> simp -dsimp (disch := (first | omega | (simp only [LN]; omega))) only [go_sem, ↓reduceIte, seval]) | ((with_reducible refine hK _ ?_); clear hK K) | (with_reducible first | refine qA ?_ | refine qB ?_ | refine qC ?_ | refine qD ?_ | refine qE ?_ | refine qF ?_ | refine qL ?_ | refine qM ?_ | refine qN ?_ | refine qO ?_ | refine qQ ?_) | refine qR rfl ?_ | (with_reducible refine AI ?_) | ((with_reducible refine qW (T := TT) (b := ?_) ?_ ?_); rotate_left; exact rfl) | (with_reducible first | refine qX ?_ | refine qY ?_ | refine qZ ?_) | (with_reducible first | refine qI ?_ | refine qIx ?_ | fail) | ((with_reducible refine yS ?_ ?_) <;> (intro h; try simp only [NM] at h)))
  refine AWP.loop (ι := {k : Nat // k ≤ rows.length ∧ idx (atKey t key) (rows.drop k) k = findPos t rows key}) (fun k => ⟨31, [(3, .v (.one (.ptr 3 0))), (1, .v (.one (eRows rows))), (2, .v (.one (eRow key))), (11, .v (.one (eRows rows))), (12, .v (oI rows.length)), (13, .v (oI k.1))], [(3, eTbl t)], []⟩) (fun k => rows.length - k.1) ⟨0, Nat.zero_le _, rfl⟩ ?_ fun ⟨k, hkl, hi⟩ => ?_
  · refine St.le_mk ?_ ?_ ?_ <;> simp only [LE, EN, Nat.reduceEqDiff, reduceIte, Nat.reduceSub, eTbl]
  rcases Nat.lt_or_ge k rows.length with hc | hc
  · have b1 : (keyOf t.pk rows[k]).length ≤ 140737488355328 := by rw [keyOf_length]; omega
    repeat' (first | ((first | with_reducible refine qV tyOk fun K hK => ?_ | (with_reducible first | refine qG ?_ | refine qH ?_ | refine qP ?_ | refine qGx ?_ | refine qHx ?_ | refine qPx ?_) | ((with_reducible first | refine qS ?_ ?_ | refine qT ?_ ?_ | refine qU ?_ ?_) <;> (intro h; try simp only [NM] at h)) | with_reducible refine yD tyOk mixed 6 (by kernel_rfl) fun K hK => ?_ | ((with_reducible refine CallJ.is ?_); (first | refine CallJ.pure (key_sat t rows[k] h1) ?_ | refine CallJ.pure (compareRows_sat (keyOf t.pk rows[k]) key b1 h3) ?_ | ((apply CallJ.lentI); (focus (simp -dsimp (disch := (first | omega | (simp only [LN]; omega))) only [go_sem, ↓reduceIte, seval]; rfl)); (focus (first | exact (key_sat t rows[k] h1) | exact (compareRows_sat (keyOf t.pk rows[k]) key b1 h3)))))) | ((with_reducible refine CallH.is ?_); (first | refine CallH.intro (key_sat t rows[k] h1) ?_ | refine CallH.intro (compareRows_sat (keyOf t.pk rows[k]) key b1 h3) ?_))) <;> simp -dsimp (disch := (first | omega | (simp only [LN]; omega))) only [go_sem, ↓reduceIte, seval]) | ((with_reducible refine hK _ ?_); clear hK K) | (with_reducible first | refine qA ?_ | refine qB ?_ | refine qC ?_ | refine qD ?_ | refine qE ?_ | refine qF ?_ | refine qL ?_ | refine qM ?_ | refine qN ?_ | refine qO ?_ | refine qQ ?_) | refine qR rfl ?_ | (with_reducible refine AI ?_) | ((with_reducible refine qW (T := TT) (b := ?_) ?_ ?_); rotate_left; exact rfl) | (with_reducible first | refine qX ?_ | refine qY ?_ | refine qZ ?_) | (with_reducible first | refine qI ?_ | refine qIx ?_ | fail) | ((with_reducible refine yS ?_ ?_) <;> (intro h; try simp only [NM] at h)))
    · have hp : atKey t key rows[k] = true := by simp only [atKey, decide_eq_true_eq]; omega
      have hq : findPos t rows key = (k : Int) := by rw [← hi, idx_hit hc hp]
      simp -dsimp (disch := (first | omega | (simp only [LN]; omega))) only [retQ, Tryd.results12, resVals, cellRV, resOf, St.rest, St.freeze, RT, go_sem, ↓reduceIte, seval]
      simp only [findI, findB, hq, Int.toNat_natCast, getD_lt _ hc]
      rw [if_neg (by omega), if_neg (by omega)]
    · have hp : atKey t key rows[k] = false := by simp only [atKey, decide_eq_false_iff_not]; omega
      refine ⟨⟨k + 1, by omega, by rw [idx_step hc hp, hi]⟩, by simp only; omega, ?_⟩
      refine St.le_mk ?_ ?_ ?_ <;> simp only [LE, EN, Nat.reduceEqDiff, reduceIte, Nat.reduceSub, eTbl]
  · rw [idx_end (by omega)] at hi
    repeat' (first | ((first | with_reducible refine qV tyOk fun K hK => ?_ | (with_reducible first | refine qG ?_ | refine qH ?_ | refine qP ?_ | refine qGx ?_ | refine qHx ?_ | refine qPx ?_) | ((with_reducible first | refine qS ?_ ?_ | refine qT ?_ ?_ | refine qU ?_ ?_) <;> (intro h; try simp only [NM] at h)) | with_reducible refine yD tyOk mixed 6 (by kernel_rfl) fun K hK => ?_) <;> simp -dsimp (disch := (first | omega | (simp only [LN]; omega))) only [go_sem, ↓reduceIte, seval]) | ((with_reducible refine hK _ ?_); clear hK K) | (with_reducible first | refine qA ?_ | refine qB ?_ | refine qC ?_ | refine qD ?_ | refine qE ?_ | refine qF ?_ | refine qL ?_ | refine qM ?_ | refine qN ?_ | refine qO ?_ | refine qQ ?_) | refine qR rfl ?_ | (with_reducible refine AI ?_) | ((with_reducible refine qW (T := TT) (b := ?_) ?_ ?_); rotate_left; exact rfl) | (with_reducible first | refine qX ?_ | refine qY ?_ | refine qZ ?_) | (with_reducible first | refine qI ?_ | refine qIx ?_ | fail) | ((with_reducible refine yS ?_ ?_) <;> (intro h; try simp only [NM] at h)))
    simp -dsimp (disch := (first | omega | (simp only [LN]; omega))) only [retQ, Tryd.results12, resVals, cellRV, resOf, St.rest, St.freeze, RT, go_sem, ↓reduceIte, seval]
    simp [findI, findB, ← hi]

structure Bounds (s : Sch) (i : Inst) : Prop where
  tables : s.tables.length ≤ 140737488355328
  table : ∀ t ∈ s.tables, t.cols.length ≤ 1099511627776 ∧ t.pk.length ≤ 1099511627776
  fk : ∀ f ∈ s.fks, f.cols.length ≤ 1099511627776
  rel : ∀ r ∈ i, r.rows.length ≤ 1099511627776 ∧ ∀ x ∈ r.rows, x.length ≤ 1099511627776
structure Bounds0 (s : Sch) (i : Inst) : Prop where
  tables : s.tables.length ≤ 140737488355328
  table : ∀ t ∈ s.tables, t.cols.length ≤ 1099511627776 ∧ t.pk.length ≤ 1099511627776
  fk : ∀ f ∈ s.fks, f.cols.length ≤ 1099511627776
  fks : s.fks.length ≤ 140737488355328
  cons : s.cons.length ≤ 140737488355328
  rel : ∀ r ∈ i, r.rows.length ≤ 140737488355328 ∧ ∀ x ∈ r.rows, x.length ≤ 140737488355328

def pairE (t : Tbl) (rows : List Row) (j : Nat) (x : Row) : Option Int :=
  if rowE t x ≠ 0 then some (rowE t x) else if j = 0 then none else
  if cmpRows (keyOf t.pk (rows.getD ((j : Int) - 1).toNat [])) (keyOf t.pk x) = 0 then some 9 else if 0 < cmpRows (keyOf t.pk (rows.getD ((j : Int) - 1).toNat [])) (keyOf t.pk x) then some 6 else none
def relE (s : Sch) (k : Nat) (r : Rel) : Option Int :=
  if sEq r.table (s.tables.getD k zTbl).name = false then some 3 else if 24 < r.rows.length then some 2 else scan (pairE (s.tables.getD k zTbl) r.rows) r.rows 0
def confE (s : Sch) (i : Inst) : Int :=
  if i.length ≠ s.tables.length then 3 else match scan (relE s) i 0 with
    | some e => e
    | none => 0
set_option maxHeartbeats 16000000 in
theorem conforms_sat (s : Sch) (i : Inst) (hB : Bounds0 s i) (hi : i.length ≤ 140737488355328) : Sat Tryd.prog 60 [.agg (eSch s), .one (eInst i)] (.v (oI (confE s i))) := by
  refine sat_of_body tyOk Tryd.func60 rfl (by kernel_rfl) ⟨Nat.le_of_ble_eq_true rfl, Nat.le_of_ble_eq_true rfl⟩ fun w0 m0 F0 => ?_
  simp only [Tryd.ntmps60, envOf, Nat.reduceAdd]
  repeat' (first | ((first | with_reducible refine qV tyOk fun K hK => ?_ | (with_reducible first | refine qG ?_ | refine qH ?_ | refine qP ?_ | refine qGx ?_ | refine qHx ?_ | refine qPx ?_) | ((with_reducible first | refine qS ?_ ?_ | refine qT ?_ ?_ | refine qU ?_ ?_) <;> (intro h; try simp only [NM] at h)) | with_reducible refine yD tyOk mixed 6 (by kernel_rfl) fun K hK => ?_) <;> simp -dsimp (disch := (first | omega | (simp only [LN]; omega))) only [go_sem, ↓reduceIte, seval]) | ((with_reducible refine hK _ ?_); clear hK K) | (with_reducible first | refine qA ?_ | refine qB ?_ | refine qC ?_ | refine qD ?_ | refine qE ?_ | refine qF ?_ | refine qL ?_ | refine qM ?_ | refine qN ?_ | refine qO ?_ | refine qQ ?_) | refine qR rfl ?_ | (with_reducible refine AI ?_) | ((with_reducible refine qW (T := TT) (b := ?_) ?_ ?_); rotate_left; exact rfl) | (with_reducible first | refine qX ?_ | refine qY ?_ | refine qZ ?_) | (with_reducible first | refine qI ?_ | refine qIx ?_ | fail) | ((with_reducible refine yS ?_ ?_) <;> (intro h; try simp only [NM] at h)))
  rotate_left
  · simp -dsimp (disch := (first | omega | (simp only [LN]; omega))) only [retQ, Tryd.results60, resVals, cellRV, resOf, St.rest, St.freeze, RT, go_sem, ↓reduceIte, seval]
    have : i.length ≠ s.tables.length := by omega
    simp [confE, this]
  have hl : i.length = s.tables.length := by omega
  have spec : confE s i = match scan (relE s) i 0 with
    | some e => e
    | none => 0 := by simp [confE, hl]
  rw [spec]
  refine AWP.loop (ι := {k : Nat // k ≤ i.length ∧ scan (relE s) (i.drop k) k = scan (relE s) i 0}) (fun k => ⟨75, [(2, .v (.one (.ptr 2 0))), (18, .v (.one (eInst i))), (19, .v (oI i.length)), (20, .v (oI k.1))], [(2, eSch s)], []⟩) (fun k => i.length - k.1) ⟨0, Nat.zero_le _, rfl⟩ ?_ fun ⟨k, hkl, hi⟩ => ?_
  · refine St.le_mk ?_ ?_ ?_ <;> simp only [LE, EN, Nat.reduceEqDiff, reduceIte, Nat.reduceSub, eSch]
  rcases Nat.lt_or_ge k i.length with hc | hc
  · have hcs : k < s.tables.length := by omega
    repeat' (first | ((first | with_reducible refine qV tyOk fun K hK => ?_ | (with_reducible first | refine qG ?_ | refine qH ?_ | refine qP ?_ | refine qGx ?_ | refine qHx ?_ | refine qPx ?_) | ((with_reducible first | refine qS ?_ ?_ | refine qT ?_ ?_ | refine qU ?_ ?_) <;> (intro h; try simp only [NM] at h)) | with_reducible refine yD tyOk mixed 6 (by kernel_rfl) fun K hK => ?_) <;> simp -dsimp (disch := (first | omega | (simp only [LN]; omega))) only [go_sem, ↓reduceIte, seval]) | ((with_reducible refine hK _ ?_); clear hK K) | (with_reducible first | refine qA ?_ | refine qB ?_ | refine qC ?_ | refine qD ?_ | refine qE ?_ | refine qF ?_ | refine qL ?_ | refine qM ?_ | refine qN ?_ | refine qO ?_ | refine qQ ?_) | refine qR rfl ?_ | (with_reducible refine AI ?_) | ((with_reducible refine qW (T := TT) (b := ?_) ?_ ?_); rotate_left; exact rfl) | (with_reducible first | refine qX ?_ | refine qY ?_ | refine qZ ?_) | (with_reducible first | refine qI ?_ | refine qIx ?_ | fail) | ((with_reducible refine yS ?_ ?_) <;> (intro h; try simp only [NM] at h)))
    rotate_left
    rotate_left
    · have hs : relE s k i[k] = some 3 := by
        simp (disch := omega) only [relE, getD_lt]
        rw [if_pos]
        simp_all [sEq]
      simp -dsimp (disch := (first | omega | (simp only [LN]; omega))) only [retQ, Tryd.results60, resVals, cellRV, resOf, St.rest, St.freeze, RT, go_sem, ↓reduceIte, seval]
      rw [scan_leaf (by omega) hs hi]
    · have hs : relE s k i[k] = some 2 := by
        simp (disch := omega) only [relE, getD_lt]
        rw [if_neg (by simp_all [sEq]), if_pos (by omega)]
      simp -dsimp (disch := (first | omega | (simp only [LN]; omega))) only [retQ, Tryd.results60, resVals, cellRV, resOf, St.rest, St.freeze, RT, go_sem, ↓reduceIte, seval]
      rw [scan_leaf (by omega) hs hi]
    have hrel : relE s k i[k] = scan (pairE s.tables[k] i[k].rows) i[k].rows 0 := by
      simp (disch := omega) only [relE, getD_lt]
      rw [if_neg (by simp_all [sEq]), if_neg (by omega)]
    obtain ⟨t1, t2⟩ := hB.table _ (List.getElem_mem hcs)
    obtain ⟨r1, r2⟩ := hB.rel _ (List.getElem_mem hc)
    refine AWP.loop (ι := {j : Nat // j ≤ i[k].rows.length ∧ scan (pairE s.tables[k] i[k].rows) (i[k].rows.drop j) j = scan (pairE s.tables[k] i[k].rows) i[k].rows 0}) (fun j => ⟨75, [(2, .v (.one (.ptr 2 0))), (18, .v (.one (eInst i))), (19, .v (oI i.length)), (20, .v (oI k)), (6, .v (.one (.ptr 6 0))), (7, .v (.one (.ptr 7 0))), (40, .v (.one (eRows i[k].rows))), (41, .v (oI i[k].rows.length)), (42, .v (oI j.1))], [(7, eTbl s.tables[k]), (6, eRel i[k]), (2, eSch s)], []⟩) (fun j => i[k].rows.length - j.1) ⟨0, Nat.zero_le _, rfl⟩ ?_ fun ⟨j, hjl, hj⟩ => ?_
    · refine St.le_mk ?_ ?_ ?_ <;> simp only [LE, EN, Nat.reduceEqDiff, reduceIte, Nat.reduceSub, eSch, eTbl, eRel]
    rcases Nat.lt_or_ge j i[k].rows.length with hcj | hcj
    · have x1 := r2 _ (List.getElem_mem hcj)
      rcases Nat.eq_zero_or_pos j with hj0 | hj0
      · repeat' (first | ((first | with_reducible refine qV tyOk fun K hK => ?_ | (with_reducible first | refine qG ?_ | refine qH ?_ | refine qP ?_ | refine qGx ?_ | refine qHx ?_ | refine qPx ?_) | ((with_reducible first | refine qS ?_ ?_ | refine qT ?_ ?_ | refine qU ?_ ?_) <;> (intro h; try simp only [NM] at h)) | with_reducible refine yD tyOk mixed 6 (by kernel_rfl) fun K hK => ?_ | ((with_reducible refine CallJ.is ?_); (first | refine CallJ.pure (conformsRow_sat s.tables[k] i[k].rows[j] (by omega) (by omega)) ?_ | ((apply CallJ.lentI); (focus (simp -dsimp (disch := (first | omega | (simp only [LN]; omega))) only [go_sem, ↓reduceIte, seval]; rfl)); (focus (first | exact (conformsRow_sat s.tables[k] i[k].rows[j] (by omega) (by omega))))))) | ((with_reducible refine CallH.is ?_); (first | refine CallH.intro (conformsRow_sat s.tables[k] i[k].rows[j] (by omega) (by omega)) ?_))) <;> simp -dsimp (disch := (first | omega | (simp only [LN]; omega))) only [go_sem, ↓reduceIte, seval]) | ((with_reducible refine hK _ ?_); clear hK K) | (with_reducible first | refine qA ?_ | refine qB ?_ | refine qC ?_ | refine qD ?_ | refine qE ?_ | refine qF ?_ | refine qL ?_ | refine qM ?_ | refine qN ?_ | refine qO ?_ | refine qQ ?_) | refine qR rfl ?_ | (with_reducible refine AI ?_) | ((with_reducible refine qW (T := TT) (b := ?_) ?_ ?_); rotate_left; exact rfl) | (with_reducible first | refine qX ?_ | refine qY ?_ | refine qZ ?_) | (with_reducible first | refine qI ?_ | refine qIx ?_ | fail) | ((with_reducible refine yS ?_ ?_) <;> (intro h; try simp only [NM] at h)))
        all_goals first
          | (have hs : pairE s.tables[k] i[k].rows j i[k].rows[j] = none := by
               (simp (disch := omega) only [pairE, getD_lt]; (repeat' split) <;> first | rfl | with_reducible assumption | omega | (exfalso; omega) | (simp_all; done) | (simp_all; omega))
             refine ⟨⟨j + 1, by omega, by rw [scan_step hcj hs, hj]⟩, by simp only; omega, ?_⟩
             refine St.le_mk ?_ ?_ ?_ <;> simp only [LE, EN, Nat.reduceEqDiff, reduceIte, Nat.reduceSub, eSch, eTbl, eRel]
             done)
          | (
             simp -dsimp (disch := (first | omega | (simp only [LN]; omega))) only [retQ, Tryd.results60, resVals, cellRV, resOf, St.rest, St.freeze, RT, go_sem, ↓reduceIte, seval]
             rw [scan_leaf hc (hrel.trans (scan_leaf hcj ?_ hj)) hi]
             all_goals first
               | with_reducible rfl
               | (
                  (simp (disch := omega) only [pairE, getD_lt]; (repeat' split) <;> first | rfl | with_reducible assumption | omega | (exfalso; omega) | (simp_all; done) | (simp_all; omega))
                  done)
               | rfl
             done)
      · have hjp : j - 1 < i[k].rows.length := by omega
        repeat' (first | ((first | with_reducible refine qV tyOk fun K hK => ?_ | (with_reducible first | refine qG ?_ | refine qH ?_ | refine qP ?_ | refine qGx ?_ | refine qHx ?_ | refine qPx ?_) | ((with_reducible first | refine qS ?_ ?_ | refine qT ?_ ?_ | refine qU ?_ ?_) <;> (intro h; try simp only [NM] at h)) | with_reducible refine yD tyOk mixed 6 (by kernel_rfl) fun K hK => ?_ | ((with_reducible refine CallJ.is ?_); (first | refine CallJ.pure (conformsRow_sat s.tables[k] i[k].rows[j] (by omega) (by omega)) ?_ | refine CallJ.pure (key_sat s.tables[k] _ t2) ?_ | refine CallJ.pure (compareRows_sat _ _ (by rw [keyOf_length]; omega) (by rw [keyOf_length]; omega)) ?_ | ((apply CallJ.lentI); (focus (simp -dsimp (disch := (first | omega | (simp only [LN]; omega))) only [go_sem, ↓reduceIte, seval]; rfl)); (focus (first | exact (conformsRow_sat s.tables[k] i[k].rows[j] (by omega) (by omega)) | exact (key_sat s.tables[k] _ t2) | exact (compareRows_sat _ _ (by rw [keyOf_length]; omega) (by rw [keyOf_length]; omega))))))) | ((with_reducible refine CallH.is ?_); (first | refine CallH.intro (conformsRow_sat s.tables[k] i[k].rows[j] (by omega) (by omega)) ?_ | refine CallH.intro (key_sat s.tables[k] _ t2) ?_ | refine CallH.intro (compareRows_sat _ _ (by rw [keyOf_length]; omega) (by rw [keyOf_length]; omega)) ?_))) <;> simp -dsimp (disch := (first | omega | (simp only [LN]; omega))) only [go_sem, ↓reduceIte, seval]) | ((with_reducible refine hK _ ?_); clear hK K) | (with_reducible first | refine qA ?_ | refine qB ?_ | refine qC ?_ | refine qD ?_ | refine qE ?_ | refine qF ?_ | refine qL ?_ | refine qM ?_ | refine qN ?_ | refine qO ?_ | refine qQ ?_) | refine qR rfl ?_ | (with_reducible refine AI ?_) | ((with_reducible refine qW (T := TT) (b := ?_) ?_ ?_); rotate_left; exact rfl) | (with_reducible first | refine qX ?_ | refine qY ?_ | refine qZ ?_) | (with_reducible first | refine qI ?_ | refine qIx ?_ | fail) | ((with_reducible refine yS ?_ ?_) <;> (intro h; try simp only [NM] at h)))
        all_goals first
          | (have hs : pairE s.tables[k] i[k].rows j i[k].rows[j] = none := by
               (simp (disch := omega) only [pairE, getD_lt]; (repeat' split) <;> first | rfl | with_reducible assumption | omega | (exfalso; omega) | (simp_all; done) | (simp_all; omega))
             refine ⟨⟨j + 1, by omega, by rw [scan_step hcj hs, hj]⟩, by simp only; omega, ?_⟩
             refine St.le_mk ?_ ?_ ?_ <;> simp only [LE, EN, Nat.reduceEqDiff, reduceIte, Nat.reduceSub, eSch, eTbl, eRel]
             done)
          | (
             simp -dsimp (disch := (first | omega | (simp only [LN]; omega))) only [retQ, Tryd.results60, resVals, cellRV, resOf, St.rest, St.freeze, RT, go_sem, ↓reduceIte, seval]
             rw [scan_leaf hc (hrel.trans (scan_leaf hcj ?_ hj)) hi]
             all_goals first
               | with_reducible rfl
               | (
                  (simp (disch := omega) only [pairE, getD_lt]; (repeat' split) <;> first | rfl | with_reducible assumption | omega | (exfalso; omega) | (simp_all; done) | (simp_all; omega))
                  done)
               | rfl
             done)
    · rw [scan_end (by omega)] at hj
      repeat' (first | ((first | with_reducible refine qV tyOk fun K hK => ?_ | (with_reducible first | refine qG ?_ | refine qH ?_ | refine qP ?_ | refine qGx ?_ | refine qHx ?_ | refine qPx ?_) | ((with_reducible first | refine qS ?_ ?_ | refine qT ?_ ?_ | refine qU ?_ ?_) <;> (intro h; try simp only [NM] at h)) | with_reducible refine yD tyOk mixed 6 (by kernel_rfl) fun K hK => ?_) <;> simp -dsimp (disch := (first | omega | (simp only [LN]; omega))) only [go_sem, ↓reduceIte, seval]) | ((with_reducible refine hK _ ?_); clear hK K) | (with_reducible first | refine qA ?_ | refine qB ?_ | refine qC ?_ | refine qD ?_ | refine qE ?_ | refine qF ?_ | refine qL ?_ | refine qM ?_ | refine qN ?_ | refine qO ?_ | refine qQ ?_) | refine qR rfl ?_ | (with_reducible refine AI ?_) | ((with_reducible refine qW (T := TT) (b := ?_) ?_ ?_); rotate_left; exact rfl) | (with_reducible first | refine qX ?_ | refine qY ?_ | refine qZ ?_) | (with_reducible first | refine qI ?_ | refine qIx ?_ | fail) | ((with_reducible refine yS ?_ ?_) <;> (intro h; try simp only [NM] at h)))
      have hs : relE s k i[k] = none := by rw [hrel, ← hj]
      refine ⟨⟨k + 1, by omega, by rw [scan_step hc hs, hi]⟩, by simp only; omega, ?_⟩
      refine St.le_mk ?_ ?_ ?_ <;> simp only [LE, EN, Nat.reduceEqDiff, reduceIte, Nat.reduceSub, eSch]
  · rw [scan_end (by omega)] at hi
    repeat' (first | ((first | with_reducible refine qV tyOk fun K hK => ?_ | (with_reducible first | refine qG ?_ | refine qH ?_ | refine qP ?_ | refine qGx ?_ | refine qHx ?_ | refine qPx ?_) | ((with_reducible first | refine qS ?_ ?_ | refine qT ?_ ?_ | refine qU ?_ ?_) <;> (intro h; try simp only [NM] at h)) | with_reducible refine yD tyOk mixed 6 (by kernel_rfl) fun K hK => ?_) <;> simp -dsimp (disch := (first | omega | (simp only [LN]; omega))) only [go_sem, ↓reduceIte, seval]) | ((with_reducible refine hK _ ?_); clear hK K) | (with_reducible first | refine qA ?_ | refine qB ?_ | refine qC ?_ | refine qD ?_ | refine qE ?_ | refine qF ?_ | refine qL ?_ | refine qM ?_ | refine qN ?_ | refine qO ?_ | refine qQ ?_) | refine qR rfl ?_ | (with_reducible refine AI ?_) | ((with_reducible refine qW (T := TT) (b := ?_) ?_ ?_); rotate_left; exact rfl) | (with_reducible first | refine qX ?_ | refine qY ?_ | refine qZ ?_) | (with_reducible first | refine qI ?_ | refine qIx ?_ | fail) | ((with_reducible refine yS ?_ ?_) <;> (intro h; try simp only [NM] at h)))
    simp -dsimp (disch := (first | omega | (simp only [LN]; omega))) only [retQ, Tryd.results60, resVals, cellRV, resOf, St.rest, St.freeze, RT, go_sem, ↓reduceIte, seval]
    rw [← hi]

theorem scan_ne {α : Type} {f : Nat → α → Option Int} (h : ∀ k x e, f k x = some e → e ≠ 0) : ∀ {l : List α} {k : Nat} {e : Int}, scan f l k = some e → e ≠ 0
  | [], k, e, he => by cases he
  | x :: l, k, e, he => by
    unfold scan at he
    split at he
    · rename_i e' he'
      injection he with he
      subst he
      exact h _ _ _ he'
    · exact scan_ne h he
theorem scan_all {α : Type} {f : Nat → α → Option Int} : ∀ {l : List α} {k : Nat}, (∀ j, ∀ h : j < l.length, f (k + j) l[j] = none) → scan f l k = none
  | [], _, _ => rfl
  | x :: l, k, h => by
    have h0 := h 0 (by simp)
    simp only [Nat.add_zero, List.getElem_cons_zero] at h0
    rw [scan, h0]
    exact scan_all fun j hj => by
      have := h (j + 1) (by simpa using hj)
      rw [show k + 1 + j = k + (j + 1) by omega]
      simpa using this
theorem scan_eq_none {α : Type} {f : Nat → α → Option Int} {l : List α} : scan f l 0 = none ↔ ∀ j, ∀ h : j < l.length, f j l[j] = none :=
  ⟨fun h j hj => by have := scan_none h j hj; rwa [Nat.zero_add] at this, fun h => scan_all fun j hj => by rw [Nat.zero_add]; exact h j hj⟩
def orE (x : Option Int) (y : Int) : Int := match x with | some e => e | none => y
theorem scan_zero {α : Type} {f : Nat → α → Option Int} {l : List α} {k : Nat} {y : Int} (h : ∀ k x e, f k x = some e → e ≠ 0) : orE (scan f l k) y = 0 ↔ scan f l k = none ∧ y = 0 := by
  cases hs : scan f l k with
  | none => simp [orE]
  | some e => simp [orE, scan_ne h hs]

theorem tblsE_ne (ts : List Tbl) : ∀ k x e, tblsE ts k x = some e → e ≠ 0 := by
  intro k x e h
  unfold tblsE at h
  split at h
  · rename_i hne; injection h with h; rw [← h]; exact hne
  · split at h
    · injection h with h; omega
    · cases h
theorem fksE_ne (s : Sch) : ∀ k x e, fksE s k x = some e → e ≠ 0 := by
  intro k x e h
  unfold fksE at h
  split at h
  · rename_i hne; injection h with h; rw [← h]; exact hne
  · split at h
    · injection h with h; omega
    · cases h
theorem consE_ne (s : Sch) : ∀ k x e, consE s k x = some e → e ≠ 0 := by
  intro k x e h
  unfold consE at h
  split at h
  · rename_i hne; injection h with h; rw [← h]; exact hne
  · split at h
    · injection h with h; omega
    · cases h
theorem schE_zero (s : Sch) : schE s = 0 ↔ (s.tables.length ≤ 6 ∧ s.fks.length ≤ 8 ∧ s.cons.length ≤ 8) ∧ (∀ j, ∀ h : j < s.tables.length, tblsE s.tables j s.tables[j] = none) ∧
    (∀ j, ∀ h : j < s.fks.length, fksE s j s.fks[j] = none) ∧ ∀ j, ∀ h : j < s.cons.length, consE s j s.cons[j] = none := by
  unfold schE
  split
  · simp only [false_iff, not_and, reduceCtorEq, show (2 : Int) ≠ 0 by decide]
    omega
  · change orE (scan (tblsE s.tables) s.tables 0) (orE (scan (fksE s) s.fks 0) (orE (scan (consE s) s.cons 0) 0)) = 0 ↔ _
    rw [scan_zero (tblsE_ne _), scan_zero (fksE_ne s), scan_zero (consE_ne s), scan_eq_none, scan_eq_none, scan_eq_none]
    constructor
    · rintro ⟨h1, h2, h3, _⟩; exact ⟨by omega, h1, h2, h3⟩
    · rintro ⟨_, h1, h2, h3⟩; exact ⟨h1, h2, h3, rfl⟩

theorem OkTbl.pk_ge {t : Tbl} (h : OkTbl t) : ∀ k, ∀ hk : k < t.pk.length, (k : Int) ≤ t.pk[k]
  | 0, hk => (h.key 0 hk).1
  | k + 1, hk => by
    have h1 := pk_ge h k (by omega)
    have h2 := (h.key (k + 1) hk).2.2.2 (by omega)
    simp only [Nat.add_sub_cancel] at h2
    omega
theorem OkTbl.pk6 {t : Tbl} (h : OkTbl t) : t.pk.length ≤ t.cols.length := by
  rcases Nat.eq_zero_or_pos t.pk.length with h0 | h0
  · omega
  · have h1 := h.pk_ge (t.pk.length - 1) (by omega)
    have h2 := (h.key (t.pk.length - 1) (by omega)).2.1
    omega

theorem fkE_zero {s : Sch} {f : FK} (h : fkE s f = 0) : ∃ i q, ∃ hi : i < s.tables.length, ∃ hq : q < s.tables.length, tblAt s.tables f.table = (i : Int) ∧ tblAt s.tables f.ref = (q : Int) ∧ f.cols.length = s.tables[q].pk.length ∧
    ∀ j, ∀ hj : j < f.cols.length, 0 ≤ f.cols[j] ∧ f.cols[j] < s.tables[i].cols.length := by
  unfold fkE at h
  split at h
  · cases h
  rename_i h0
  rcases idx_cases (fun t => sEq t.name f.table) s.tables 0 with ⟨e1, _⟩ | ⟨i, hi, e1, _⟩
  · have e1 : tblAt s.tables f.table = -1 := e1
    omega
  rcases idx_cases (fun t => sEq t.name f.ref) s.tables 0 with ⟨e2, _⟩ | ⟨q, hq, e2, _⟩
  · have e2 : tblAt s.tables f.ref = -1 := e2
    omega
  have e1 : tblAt s.tables f.table = (i : Int) := by unfold tblAt; simpa using e1
  have e2 : tblAt s.tables f.ref = (q : Int) := by unfold tblAt; simpa using e2
  simp only [e1, e2, Int.toNat_natCast, getD_lt _ hi, getD_lt _ hq, fkTE] at h
  split at h
  · cases h
  rename_i h1
  change orE (scan (fkColE s.tables[i] s.tables[q]) f.cols 0) 0 = 0 at h
  rw [scan_zero (fun k x e he => by
    unfold fkColE at he
    split at he
    · injection he with he; omega
    · split at he
      · injection he with he; omega
      · cases he), scan_eq_none] at h
  refine ⟨i, q, hi, hq, e1, e2, by omega, fun j hj => ?_⟩
  have := h.1 j hj
  unfold fkColE at this
  split at this
  · cases this
  · omega

structure Small (s : Sch) : Prop where
  tables : s.tables.length ≤ 6
  table : ∀ t ∈ s.tables, t.cols.length ≤ 6 ∧ t.pk.length ≤ 6
  fks : s.fks.length ≤ 8
  fk : ∀ f ∈ s.fks, f.cols.length ≤ 6
  cons : s.cons.length ≤ 8
theorem small_of {s : Sch} (h : schE s = 0) : Small s := by
  have ok := okSch_of h
  obtain ⟨h1, h2, h3, h4⟩ := (schE_zero s).1 h
  refine ⟨h1.1, fun t ht => ?_, h1.2.1, fun f hf => ?_, h1.2.2⟩
  · have o := ok.tbl t ht
    have := o.pk6
    have := o.cols6
    omega
  · obtain ⟨j, hj, rfl⟩ := List.mem_iff_getElem.1 hf
    have h5 := h3 j hj
    unfold fksE at h5
    split at h5
    · cases h5
    rename_i h6
    obtain ⟨i, q, hi, hq, _, _, h7, _⟩ := fkE_zero (s := s) (f := s.fks[j]) (by simpa using h6)
    have o := ok.tbl _ (List.getElem_mem hq)
    have := o.pk6
    have := o.cols6
    omega

theorem cellE_ne (t : Tbl) : ∀ k x e, cellE t k x = some e → e ≠ 0 := by
  intro k x e h
  unfold cellE at h
  split at h
  · rename_i hne; injection h with h; rw [← h]; exact hne
  · split at h
    · injection h with h; omega
    · split at h
      · injection h with h; omega
      · cases h
theorem rowE_zero (t : Tbl) (r : Row) : rowE t r = 0 ↔ r.length = t.cols.length ∧ ∀ j, ∀ h : j < r.length, cellE t j r[j] = none := by
  unfold rowE
  split
  · rename_i h
    simp [show (3 : Int) ≠ 0 by decide, h]
  · rename_i h
    change orE (scan (cellE t) r 0) 0 = 0 ↔ _
    rw [scan_zero (cellE_ne t), scan_eq_none]
    simp only [and_true]
    exact ⟨fun h1 => ⟨by omega, h1⟩, fun h1 => h1.2⟩
theorem pairE_ne (t : Tbl) (rows : List Row) : ∀ k x e, pairE t rows k x = some e → e ≠ 0 := by
  intro k x e h
  unfold pairE at h
  split at h
  · rename_i hne; injection h with h; rw [← h]; exact hne
  · split at h
    · cases h
    · split at h
      · injection h with h; omega
      · split at h
        · injection h with h; omega
        · cases h
theorem relE_ne (s : Sch) : ∀ k x e, relE s k x = some e → e ≠ 0 := by
  intro k x e h
  unfold relE at h
  split at h
  · injection h with h; omega
  · split at h
    · injection h with h; omega
    · exact scan_ne (pairE_ne _ _) h

structure OkRel (t : Tbl) (rows : List Row) : Prop where
  n24 : rows.length ≤ 24
  row : ∀ j, ∀ h : j < rows.length, rowE t rows[j] = 0
  ord : ∀ j, ∀ h : j + 1 < rows.length, cmpRows (keyOf t.pk rows[j]) (keyOf t.pk rows[j + 1]) < 0
theorem pairs_none (t : Tbl) (rows : List Row) : scan (pairE t rows) rows 0 = none ↔ (∀ j, ∀ h : j < rows.length, rowE t rows[j] = 0) ∧ ∀ j, ∀ h : j + 1 < rows.length, cmpRows (keyOf t.pk rows[j]) (keyOf t.pk rows[j + 1]) < 0 := by
  rw [scan_eq_none]
  constructor
  · intro h
    refine ⟨fun j hj => ?_, fun j hj => ?_⟩
    · have := h j hj
      unfold pairE at this
      split at this
      · cases this
      · rename_i h1; simpa using h1
    · have := h (j + 1) hj
      unfold pairE at this
      split at this
      · cases this
      split at this
      · omega
      rw [show ((j + 1 : Nat) : Int) - 1 = (j : Int) by omega, Int.toNat_natCast, getD_lt _ (by omega : j < rows.length)] at this
      split at this
      · cases this
      split at this
      · cases this
      · omega
  · rintro ⟨h1, h2⟩ j hj
    unfold pairE
    rw [if_neg (by simpa using h1 j hj)]
    cases j with
    | zero => rfl
    | succ j =>
      have := h2 j hj
      rw [if_neg (by omega), show ((j + 1 : Nat) : Int) - 1 = (j : Int) by omega, Int.toNat_natCast, getD_lt _ (by omega : j < rows.length), if_neg (by omega), if_neg (by omega)]
theorem confE_zero (s : Sch) (i : Inst) : confE s i = 0 ↔ i.length = s.tables.length ∧ ∀ k, ∀ h : k < i.length, sEq i[k].table (s.tables.getD k zTbl).name = true ∧ OkRel (s.tables.getD k zTbl) i[k].rows := by
  unfold confE
  split
  · rename_i h
    simp [show (3 : Int) ≠ 0 by decide, h]
  · rename_i h
    change orE (scan (relE s) i 0) 0 = 0 ↔ _
    rw [scan_zero (relE_ne s), scan_eq_none]
    simp only [and_true]
    constructor
    · intro h1
      refine ⟨by omega, fun k hk => ?_⟩
      have := h1 k hk
      unfold relE at this
      split at this
      · cases this
      split at this
      · cases this
      rename_i h2 h3
      obtain ⟨h4, h5⟩ := (pairs_none _ _).1 this
      exact ⟨by simpa using h2, by omega, h4, h5⟩
    · rintro ⟨_, h1⟩ k hk
      obtain ⟨h2, h3, h4, h5⟩ := h1 k hk
      unfold relE
      rw [if_neg (by rw [h2]; decide), if_neg (by omega)]
      exact (pairs_none _ _).2 ⟨h4, h5⟩

theorem bounds_of {s : Sch} {i : Inst} (hB : Bounds0 s i) (h : confE s i = 0) : Bounds s i := by
  obtain ⟨h1, h2⟩ := (confE_zero s i).1 h
  refine ⟨hB.tables, hB.table, hB.fk, fun r hr => ?_⟩
  obtain ⟨k, hk, rfl⟩ := List.mem_iff_getElem.1 hr
  obtain ⟨_, h3, h4, _⟩ := h2 k hk
  refine ⟨by omega, fun x hx => ?_⟩
  obtain ⟨j, hj, rfl⟩ := List.mem_iff_getElem.1 hx
  have h5 := ((rowE_zero _ _).1 (h4 j hj)).1
  rw [getD_lt _ (by omega : k < s.tables.length)] at h5
  have := (hB.table _ (List.getElem_mem (by omega : k < s.tables.length))).1
  omega
theorem Small.bounds0 {s : Sch} {i : Inst} (h : Small s) (hi : ∀ r ∈ i, r.rows.length ≤ 140737488355328 ∧ ∀ x ∈ r.rows, x.length ≤ 140737488355328) : Bounds0 s i :=
  ⟨by have := h.tables; omega, fun t ht => by have := h.table t ht; omega, fun f hf => by have := h.fk f hf; omega, by have := h.fks; omega, by have := h.cons; omega, hi⟩

set_option maxHeartbeats 8000000 in
theorem instClone_own (i : Inst) (h1 : i.length ≤ 1099511627776) (h2 : ∀ r ∈ i, r.rows.length ≤ 1099511627776 ∧ ∀ x ∈ r.rows, x.length ≤ 1099511627776) : SatM Tryd.prog 26 [.one (eInst i)] [] [] (.v (.one (.ref 2 0 i.length))) [] [(2, ⟨2, i.map eRel, []⟩)] := by
  refine satM_of_body tyOk [] [2] Tryd.func26 rfl (by kernel_rfl) ⟨Nat.le_of_ble_eq_true rfl, Nat.le_of_ble_eq_true rfl⟩ fun w0 m0 F0 => ?_
  simp only [Tryd.ntmps26, envOf, Nat.reduceAdd]
  repeat' (first | ((first | with_reducible refine qV tyOk fun K hK => ?_ | (with_reducible first | refine qG ?_ | refine qH ?_ | refine qP ?_ | refine qGx ?_ | refine qHx ?_ | refine qPx ?_) | ((with_reducible first | refine qS ?_ ?_ | refine qT ?_ ?_ | refine qU ?_ ?_) <;> (intro h; try simp only [NM] at h)) | with_reducible refine yD tyOk mixed 6 (by kernel_rfl) fun K hK => ?_) <;> simp -dsimp (disch := (first | omega | (simp only [LN]; omega))) only [go_sem, ↓reduceIte, seval]) | ((with_reducible refine hK _ ?_); clear hK K) | (with_reducible first | refine qA ?_ | refine qB ?_ | refine qC ?_ | refine qD ?_ | refine qE ?_ | refine qF ?_ | refine qL ?_ | refine qM ?_ | refine qN ?_ | refine qO ?_ | refine qQ ?_) | refine qR rfl ?_ | (with_reducible refine AI ?_) | ((with_reducible refine qW (T := TT) (b := ?_) ?_ ?_); rotate_left; exact rfl) | (with_reducible first | refine qX ?_ | refine qY ?_ | refine qZ ?_) | (with_reducible first | refine qI ?_ | refine qIx ?_ | fail) | ((with_reducible refine yS ?_ ?_) <;> (intro h; try simp only [NM] at h)))
  refine AWP.loop (ι := {k : Nat // k ≤ i.length}) (fun k => ⟨23, [(3, .v (.one (.ref 3 0 k.1))), (6, .v (.one (eInst i))), (7, .v (oI i.length)), (8, .v (oI k.1))], [], [(3, ⟨2, (i.take k.1).map eRel, []⟩)]⟩) (fun k => i.length - k.1) ⟨0, Nat.zero_le _⟩ ?_ fun ⟨k, hkl⟩ => ?_
  · refine St.le_mk ?_ ?_ ?_ <;> simp only [LE, EN, Nat.reduceEqDiff, reduceIte, Nat.reduceSub]
  have hlen : (i.take k).length = k := by simp; omega
  rcases Nat.lt_or_ge k i.length with hc | hc
  · obtain ⟨b1, b2⟩ := h2 i[k] (List.getElem_mem hc)
    repeat' (first | ((first | with_reducible refine qV tyOk fun K hK => ?_ | (with_reducible first | refine qG ?_ | refine qH ?_ | refine qP ?_ | refine qGx ?_ | refine qHx ?_ | refine qPx ?_) | ((with_reducible first | refine qS ?_ ?_ | refine qT ?_ ?_ | refine qU ?_ ?_) <;> (intro h; try simp only [NM] at h))) <;> simp -dsimp (disch := (first | omega | (simp only [LN]; omega))) only [go_sem, ↓reduceIte, seval, hlen]) | ((with_reducible refine hK _ ?_); clear hK K) | (with_reducible first | refine qA ?_ | refine qB ?_ | refine qC ?_ | refine qD ?_ | refine qE ?_ | refine qF ?_ | refine qL ?_ | refine qM ?_ | refine qN ?_ | refine qO ?_ | refine qQ ?_) | refine qR rfl ?_ | (with_reducible refine AI ?_) | ((with_reducible refine qW (T := TT) (b := ?_) ?_ ?_); rotate_left; exact rfl) | (with_reducible first | refine qX ?_ | refine qY ?_ | refine qZ ?_) | (with_reducible first | refine qI ?_ | refine qIx ?_ | fail) | ((with_reducible refine yS ?_ ?_) <;> (intro h; try simp only [NM] at h)))
    refine AWP.drawT tyOk mixed 8 8 (by kernel_rfl) rfl rfl fun K hK => ?_
    simp -dsimp (disch := (first | omega | (simp only [LN]; omega))) only [go_sem, ↓reduceIte, seval, hlen]
    repeat' (first | ((first | with_reducible refine qV tyOk fun K hK => ?_ | (with_reducible first | refine qG ?_ | refine qH ?_ | refine qP ?_ | refine qGx ?_ | refine qHx ?_ | refine qPx ?_) | ((with_reducible first | refine qS ?_ ?_ | refine qT ?_ ?_ | refine qU ?_ ?_) <;> (intro h; try simp only [NM] at h)) | ((with_reducible refine CallJ.is ?_); (first | refine CallJ.pure (relClone_sat i[k].rows b1 b2) ?_ | ((apply CallJ.lentI); (focus (simp -dsimp (disch := (first | omega | (simp only [LN]; omega))) only [go_sem, ↓reduceIte, seval, hlen]; rfl)); (focus (first | exact (relClone_sat i[k].rows b1 b2)))))) | ((with_reducible refine CallH.is ?_); (first | refine CallH.intro (relClone_sat i[k].rows b1 b2) ?_))) <;> simp -dsimp (disch := (first | omega | (simp only [LN]; omega))) only [go_sem, ↓reduceIte, seval, hlen]) | ((with_reducible refine hK _ ?_); clear hK K) | (with_reducible first | refine qA ?_ | refine qB ?_ | refine qC ?_ | refine qD ?_ | refine qE ?_ | refine qF ?_ | refine qL ?_ | refine qM ?_ | refine qN ?_ | refine qO ?_ | refine qQ ?_) | refine qR rfl ?_ | (with_reducible refine AI ?_) | ((with_reducible refine qW (T := TT) (b := ?_) ?_ ?_); rotate_left; exact rfl) | (with_reducible first | refine qX ?_ | refine qY ?_ | refine qZ ?_) | (with_reducible first | refine qI ?_ | refine qIx ?_ | fail) | ((with_reducible refine yS ?_ ?_) <;> (intro h; try simp only [NM] at h)))
    intro K hK
    simp -dsimp (disch := (first | omega | (simp only [LN]; omega))) only [go_sem, ↓reduceIte, seval, hlen]
    repeat' (first | ((first | with_reducible refine qV tyOk fun K hK => ?_ | (with_reducible first | refine qG ?_ | refine qH ?_ | refine qP ?_ | refine qGx ?_ | refine qHx ?_ | refine qPx ?_) | ((with_reducible first | refine qS ?_ ?_ | refine qT ?_ ?_ | refine qU ?_ ?_) <;> (intro h; try simp only [NM] at h))) <;> simp -dsimp (disch := (first | omega | (simp only [LN]; omega))) only [go_sem, ↓reduceIte, seval, hlen]) | ((with_reducible refine hK _ ?_); clear hK K) | (with_reducible first | refine qA ?_ | refine qB ?_ | refine qC ?_ | refine qD ?_ | refine qE ?_ | refine qF ?_ | refine qL ?_ | refine qM ?_ | refine qN ?_ | refine qO ?_ | refine qQ ?_) | refine qR rfl ?_ | (with_reducible refine AI ?_) | ((with_reducible refine qW (T := TT) (b := ?_) ?_ ?_); rotate_left; exact rfl) | (with_reducible first | refine qX ?_ | refine qY ?_ | refine qZ ?_) | (with_reducible first | refine qI ?_ | refine qIx ?_ | fail) | ((with_reducible refine yS ?_ ?_) <;> (intro h; try simp only [NM] at h)))
    refine ⟨⟨k + 1, by omega⟩, by simp only; omega, ?_⟩
    have e := take_snoc i k hc
    refine St.le_mk ?_ ?_ ?_ <;> simp only [LE, EN, Nat.reduceEqDiff, reduceIte, Nat.reduceSub, e, eRel, eRows]
  · have hk : k = i.length := by omega
    subst hk
    repeat' (first | ((first | with_reducible refine qV tyOk fun K hK => ?_ | (with_reducible first | refine qG ?_ | refine qH ?_ | refine qP ?_ | refine qGx ?_ | refine qHx ?_ | refine qPx ?_) | ((with_reducible first | refine qS ?_ ?_ | refine qT ?_ ?_ | refine qU ?_ ?_) <;> (intro h; try simp only [NM] at h)) | with_reducible refine yD tyOk mixed 6 (by kernel_rfl) fun K hK => ?_) <;> simp -dsimp (disch := (first | omega | (simp only [LN]; omega))) only [go_sem, ↓reduceIte, seval]) | ((with_reducible refine hK _ ?_); clear hK K) | (with_reducible first | refine qA ?_ | refine qB ?_ | refine qC ?_ | refine qD ?_ | refine qE ?_ | refine qF ?_ | refine qL ?_ | refine qM ?_ | refine qN ?_ | refine qO ?_ | refine qQ ?_) | refine qR rfl ?_ | (with_reducible refine AI ?_) | ((with_reducible refine qW (T := TT) (b := ?_) ?_ ?_); rotate_left; exact rfl) | (with_reducible first | refine qX ?_ | refine qY ?_ | refine qZ ?_) | (with_reducible first | refine qI ?_ | refine qIx ?_ | fail) | ((with_reducible refine yS ?_ ?_) <;> (intro h; try simp only [NM] at h)))
    simp -dsimp (disch := (first | omega | (simp only [LN]; omega))) only [retQ, Tryd.results26, resVals, cellRV, resOf, St.rest, St.freeze, RT, go_sem, ↓reduceIte, seval]

set_option maxHeartbeats 8000000 in
theorem deleteRows_own (xs : List (List L)) (k : Nat) (hk : k < xs.length) (h1 : xs.length ≤ 1099511627776) (hno : noOwn xs) : SatM Tryd.prog 91 [.one (.ref 1000 0 xs.length), oI k, oI ((k : Int) + 1)] [] [(1000, ⟨1, xs, []⟩)] (.v (.one (.ref 6 0 (xs.length - 1)))) [] [(6, ⟨1, xs.take k ++ xs.drop (k + 1) ++ [[.sl 3 []]], []⟩)] := by
  have w1 : ((k : Int) + 1).toNat = k + 1 := by omega
  refine satM_of_body tyOk [] [6] Tryd.func91 rfl (by kernel_rfl) ⟨Nat.le_of_ble_eq_true rfl, Nat.le_of_ble_eq_true rfl⟩ fun w0 m0 F0 => ?_
  simp only [Tryd.ntmps91, envOf, Nat.reduceAdd]
  repeat' (first | ((first | with_reducible refine qV tyOk fun K hK => ?_ | (with_reducible first | refine qG ?_ | refine qH ?_ | refine qP ?_ | refine qGx ?_ | refine qHx ?_ | refine qPx ?_) | ((with_reducible first | refine qS ?_ ?_ | refine qT ?_ ?_ | refine qU ?_ ?_) <;> (intro h; try simp only [NM] at h))) <;> simp -dsimp (disch := (first | omega | (simp only [LN]; omega))) only [go_sem, ↓reduceIte, seval, w1]) | ((with_reducible refine hK _ ?_); clear hK K) | (with_reducible first | refine qA ?_ | refine qB ?_ | refine qC ?_ | refine qD ?_ | refine qE ?_ | refine qF ?_ | refine qL ?_ | refine qM ?_ | refine qN ?_ | refine qO ?_ | refine qQ ?_) | refine qR rfl ?_ | (with_reducible refine AI ?_) | ((with_reducible refine qW (T := TT) (b := ?_) ?_ ?_); rotate_left; exact rfl) | (with_reducible first | refine qX ?_ | refine qY ?_ | refine qZ ?_) | (with_reducible first | refine qI ?_ | refine qIx ?_ | fail) | ((with_reducible refine yS ?_ ?_) <;> (intro h; try simp only [NM] at h)))
  refine AWP.drawT tyOk mixed 6 8 (by kernel_rfl) rfl rfl fun K hK => ?_
  simp -dsimp (disch := (first | omega | (simp only [LN]; omega))) only [go_sem, ↓reduceIte, seval, w1]
  repeat' (first | ((first | with_reducible refine qV tyOk fun K hK => ?_ | (with_reducible first | refine qG ?_ | refine qH ?_ | refine qP ?_ | refine qGx ?_ | refine qHx ?_ | refine qPx ?_) | ((with_reducible first | refine qS ?_ ?_ | refine qT ?_ ?_ | refine qU ?_ ?_) <;> (intro h; try simp only [NM] at h))) <;> simp -dsimp (disch := (first | omega | (simp only [LN]; omega))) only [go_sem, ↓reduceIte, seval, w1]) | ((with_reducible refine hK _ ?_); clear hK K) | (with_reducible first | refine qA ?_ | refine qB ?_ | refine qC ?_ | refine qD ?_ | refine qE ?_ | refine qF ?_ | refine qL ?_ | refine qM ?_ | refine qN ?_ | refine qO ?_ | refine qQ ?_) | refine qR rfl ?_ | (with_reducible refine AI ?_) | ((with_reducible refine qW (T := TT) (b := ?_) ?_ ?_); rotate_left; exact rfl) | (with_reducible first | refine qX ?_ | refine qY ?_ | refine qZ ?_) | (with_reducible first | refine qI ?_ | refine qIx ?_ | fail) | ((with_reducible refine yS ?_ ?_) <;> (intro h; try simp only [NM] at h)))
  intro K hK
  simp -dsimp (disch := (first | omega | (simp only [LN]; omega))) only [go_sem, ↓reduceIte, seval, w1]
  repeat' (first | ((first | with_reducible refine qV tyOk fun K hK => ?_ | (with_reducible first | refine qG ?_ | refine qH ?_ | refine qP ?_ | refine qGx ?_ | refine qHx ?_ | refine qPx ?_) | ((with_reducible first | refine qS ?_ ?_ | refine qT ?_ ?_ | refine qU ?_ ?_) <;> (intro h; try simp only [NM] at h))) <;> simp -dsimp (disch := (first | omega | (simp only [LN]; omega))) only [go_sem, ↓reduceIte, seval, w1]) | ((with_reducible refine hK _ ?_); clear hK K) | (with_reducible first | refine qA ?_ | refine qB ?_ | refine qC ?_ | refine qD ?_ | refine qE ?_ | refine qF ?_ | refine qL ?_ | refine qM ?_ | refine qN ?_ | refine qO ?_ | refine qQ ?_) | refine qR rfl ?_ | (with_reducible refine AI ?_) | ((with_reducible refine qW (T := TT) (b := ?_) ?_ ?_); rotate_left; exact rfl) | (with_reducible first | refine qX ?_ | refine qY ?_ | refine qZ ?_) | (with_reducible first | refine qI ?_ | refine qIx ?_ | fail) | ((with_reducible refine yS ?_ ?_) <;> (intro h; try simp only [NM] at h)))
  have e1 : k - 0 + (xs.length - (k + 1)) = xs.length - 1 := by omega
  have e2 : xs.length - (xs.length - 1) = 1 := by omega
  have e3 : (xs.take (k - 0) ++ xs.drop (k + 1) ++ xs.drop (xs.length - 1)).take (xs.length - 1) = xs.take k ++ xs.drop (k + 1) := List.take_left' (by simp; omega)
  have e4 : (xs.take (k - 0) ++ xs.drop (k + 1) ++ xs.drop (xs.length - 1)).drop (xs.length - 1 + 1) = [] := List.drop_of_length_le (by simp; omega)
  simp only [e1, e2, e3, e4, List.replicate_succ, List.replicate_zero, List.append_nil]
  simp -dsimp (disch := (first | omega | (simp only [LN]; omega))) only [retQ, Tryd.results91, resVals, cellRV, resOf, St.rest, St.freeze, RT, go_sem, ↓reduceIte, seval]

theorem CallJ.apart {P : Program} {T : TypeId → Option TI} {ops : Array Oper} {l : List Oper} {K : St → Prop} {f : FuncId} {fn : Func} {s : St} {d : Option Tmp} {id lo n id' lo' n' : Nat} (t e : TypeId) (tR : TypeId) (sz : Nat) (r r' : RowC) (hf : P.funcs[f]? = some fn) (hname : (fn.name == "runtime.NumGoroutine") = false)
    (hb : fn.body.isNone = true) (hn : Extern.findNext fn = none) (he : Extern.find fn = some (Extern.SlicesOverlaps.overlaps #[t, t] #[tR])) (ht : P.underlying t = some (.slice e)) (hz : ∀ w, (sizeOf e).run P w = .ok sz w)
    (hne : id ≠ id') (hr : look s.row id = some r) (hr' : look s.row id' = some r') (hcl : ovOut r'.ov r'.xs.length) (hfit : lo' + n' ≤ r'.xs.length) (h0 : 0 < n') (hs0 : 0 < r'.sz)
    (hk : s.okD d ∧ VOps P T ops l (St.putO { s with row := sput id' ⟨r'.sz, r'.xs.take (lo' + n'), []⟩ s.row } d (.v (.one (.bool false)))) K) : CallJ P T ops d l s K (f, [.one (.ref id lo n), .one (.ref id' lo' n')]) :=
  ⟨_, CallMoves.apart hf hname hb hn he ht hz hk.1 hne hr hr' hcl hfit h0 hs0, hk.2⟩

set_option maxHeartbeats 16000000 in
theorem insertRow_own (xs : List (List L)) (q : List (List L)) (k : Nat) (hk : k ≤ xs.length) (h1 : xs.length ≤ 1099511627776) (hno : noOwn xs) :
    SatM Tryd.prog 35 [.one (.ref 1000 0 xs.length), oI k, .one (.ref 1001 0 1)] [] [(1000, ⟨1, xs, []⟩), (1001, ⟨1, [[.sl 3 q]], []⟩)] (.v (.one (.ref 6 0 (xs.length + 1)))) [] [(6, ⟨1, xs.take k ++ [[.sl 3 q]] ++ xs.drop k, []⟩)] := by
  have c1 : ((1 : Nat) : Int) = 1 := rfl
  have r3 : (xs.take k).length = k := by simp; omega
  have hnk : noOwn (xs.take k) := fun x hx => hno x (List.mem_of_mem_take hx)
  refine satM_of_body tyOk [] [6] Tryd.func35 rfl (by kernel_rfl) ⟨Nat.le_of_ble_eq_true rfl, Nat.le_of_ble_eq_true rfl⟩ fun w0 m0 F0 => ?_
  simp only [Tryd.ntmps35, envOf, Nat.reduceAdd]
  repeat' (first | ((first | with_reducible refine qV tyOk fun K hK => ?_ | (with_reducible first | refine qG ?_ | refine qH ?_ | refine qP ?_ | refine qGx ?_ | refine qHx ?_ | refine qPx ?_) | ((with_reducible first | refine qS ?_ ?_ | refine qT ?_ ?_ | refine qU ?_ ?_) <;> (intro h; try simp only [NM] at h))) <;> simp -dsimp (disch := (first | omega | (simp only [LN]; omega))) only [go_sem, ↓reduceIte, seval, c1]) | ((with_reducible refine hK _ ?_); clear hK K) | (with_reducible first | refine qA ?_ | refine qB ?_ | refine qC ?_ | refine qD ?_ | refine qE ?_ | refine qF ?_ | refine qL ?_ | refine qM ?_ | refine qN ?_ | refine qO ?_ | refine qQ ?_) | refine qR rfl ?_ | (with_reducible refine AI ?_) | ((with_reducible refine qW (T := TT) (b := ?_) ?_ ?_); rotate_left; exact rfl) | (with_reducible first | refine qX ?_ | refine qY ?_ | refine qZ ?_) | (with_reducible first | refine qI ?_ | refine qIx ?_ | fail) | ((with_reducible refine yS ?_ ?_) <;> (intro h; try simp only [NM] at h)))
  · have hkk : k = xs.length := by omega
    subst hkk
    simp -dsimp (disch := (first | omega | (simp only [LN]; omega))) only [retQ, Tryd.results35, resVals, cellRV, resOf, St.rest, St.freeze, RT, go_sem, ↓reduceIte, seval]
    simp
  intro p hp
  refine hK _ ?_
  clear hK K
  have hkl : k < xs.length := by omega
  have w1 : ((k : Int) + 1).toNat = k + 1 := by omega
  rcases Nat.eq_zero_or_pos p with h0 | h0
  · subst h0
    simp only [List.replicate_zero, List.append_nil, Nat.add_zero]
    repeat' (first | ((first | with_reducible refine qV tyOk fun K hK => ?_ | (with_reducible first | refine qG ?_ | refine qH ?_ | refine qP ?_ | refine qGx ?_ | refine qHx ?_ | refine qPx ?_) | ((with_reducible first | refine qS ?_ ?_ | refine qT ?_ ?_ | refine qU ?_ ?_) <;> (intro h; try simp only [NM] at h))) <;> simp -dsimp (disch := (first | omega | (simp only [LN]; omega))) only [go_sem, ↓reduceIte, seval, c1]) | ((with_reducible refine hK _ ?_); clear hK K) | (with_reducible first | refine qA ?_ | refine qB ?_ | refine qC ?_ | refine qD ?_ | refine qE ?_ | refine qF ?_ | refine qL ?_ | refine qM ?_ | refine qN ?_ | refine qO ?_ | refine qQ ?_) | refine qR rfl ?_ | (with_reducible refine AI ?_) | ((with_reducible refine qW (T := TT) (b := ?_) ?_ ?_); rotate_left; exact rfl) | (with_reducible first | refine qX ?_ | refine qY ?_ | refine qZ ?_) | (with_reducible first | refine qI ?_ | refine qIx ?_ | fail) | ((with_reducible refine yS ?_ ?_) <;> (intro h; try simp only [NM] at h)))
    have r2 : ((xs.length : Int) + 1 - (k : Int)).toNat = xs.length + 1 - k := by omega
    have r4 : k + (xs.length + 1 - k) = xs.length + 1 := by omega
    have r5 : min 1 (xs.length + 1 - k) = 1 := by omega
    have rA : (xs.take k ++ List.replicate (xs.length + 1 - k) [L.sl 3 []]).take k = xs.take k := List.take_left' r3
    have rB : (xs.take k ++ List.replicate (xs.length + 1 - k) [L.sl 3 []]).drop (k + 1) = List.replicate (xs.length - k) [L.sl 3 []] := by
      rw [List.drop_append, r3, List.drop_of_length_le (by omega), List.nil_append, List.drop_replicate]
      congr 1
      omega
    simp only [List.replicate_zero, List.append_nil, Nat.sub_zero, r2, r3, List.length_replicate, r4, r5, rA, rB]
    refine AWP.drawT tyOk mixed 8 8 (by kernel_rfl) rfl rfl fun K hK => ?_
    simp -dsimp (disch := (first | omega | (simp only [LN]; omega))) only [go_sem, ↓reduceIte, seval, c1, w1]
    repeat' (first | ((first | with_reducible refine qV tyOk fun K hK => ?_ | (with_reducible first | refine qG ?_ | refine qH ?_ | refine qP ?_ | refine qGx ?_ | refine qHx ?_ | refine qPx ?_) | ((with_reducible first | refine qS ?_ ?_ | refine qT ?_ ?_ | refine qU ?_ ?_) <;> (intro h; try simp only [NM] at h))) <;> simp -dsimp (disch := (first | omega | (simp only [LN]; omega))) only [go_sem, ↓reduceIte, seval, c1, w1]) | ((with_reducible refine hK _ ?_); clear hK K) | (with_reducible first | refine qA ?_ | refine qB ?_ | refine qC ?_ | refine qD ?_ | refine qE ?_ | refine qF ?_ | refine qL ?_ | refine qM ?_ | refine qN ?_ | refine qO ?_ | refine qQ ?_) | refine qR rfl ?_ | (with_reducible refine AI ?_) | ((with_reducible refine qW (T := TT) (b := ?_) ?_ ?_); rotate_left; exact rfl) | (with_reducible first | refine qX ?_ | refine qY ?_ | refine qZ ?_) | (with_reducible first | refine qI ?_ | refine qIx ?_ | fail) | ((with_reducible refine yS ?_ ?_) <;> (intro h; try simp only [NM] at h)))
    intro K hK
    simp -dsimp (disch := (first | omega | (simp only [LN]; omega))) only [go_sem, ↓reduceIte, seval, c1, w1]
    repeat' (first | ((first | with_reducible refine qV tyOk fun K hK => ?_ | (with_reducible first | refine qG ?_ | refine qH ?_ | refine qP ?_ | refine qGx ?_ | refine qHx ?_ | refine qPx ?_) | ((with_reducible first | refine qS ?_ ?_ | refine qT ?_ ?_ | refine qU ?_ ?_) <;> (intro h; try simp only [NM] at h))) <;> simp -dsimp (disch := (first | omega | (simp only [LN]; omega))) only [go_sem, ↓reduceIte, seval, c1, w1]) | ((with_reducible refine hK _ ?_); clear hK K) | (with_reducible first | refine qA ?_ | refine qB ?_ | refine qC ?_ | refine qD ?_ | refine qE ?_ | refine qF ?_ | refine qL ?_ | refine qM ?_ | refine qN ?_ | refine qO ?_ | refine qQ ?_) | refine qR rfl ?_ | (with_reducible refine AI ?_) | ((with_reducible refine qW (T := TT) (b := ?_) ?_ ?_); rotate_left; exact rfl) | (with_reducible first | refine qX ?_ | refine qY ?_ | refine qZ ?_) | (with_reducible first | refine qI ?_ | refine qIx ?_ | fail) | ((with_reducible refine yS ?_ ?_) <;> (intro h; try simp only [NM] at h)))
    have e1 : min (List.drop k xs).length (xs.length + 1 - (k + 1)) = xs.length - k := by rw [List.length_drop]; omega
    have e2 : List.take (k + 1) (List.take k xs ++ [[L.sl 3 q]] ++ List.replicate (xs.length - k) [L.sl 3 []]) = List.take k xs ++ [[L.sl 3 q]] := List.take_left' (by simp; omega)
    have e3 : List.drop (k + 1 + (xs.length - k)) (List.take k xs ++ [[L.sl 3 q]] ++ List.replicate (xs.length - k) [L.sl 3 []]) = [] := List.drop_of_length_le (by simp; omega)
    have e4 : min (List.drop k xs).length (xs.length - k) = xs.length - k := by rw [List.length_drop]; omega
    simp only [e1, e4, e2, e3, List.append_nil]
    simp -dsimp (disch := (first | omega | (simp only [LN]; omega))) only [retQ, Tryd.results35, resVals, cellRV, resOf, St.rest, St.freeze, RT, go_sem, ↓reduceIte, seval]
  repeat' (first | ((first | with_reducible refine qV tyOk fun K hK => ?_ | (with_reducible first | refine qG ?_ | refine qH ?_ | refine qP ?_ | refine qGx ?_ | refine qHx ?_ | refine qPx ?_) | ((with_reducible first | refine qS ?_ ?_ | refine qT ?_ ?_ | refine qU ?_ ?_) <;> (intro h; try simp only [NM] at h))) <;> simp -dsimp (disch := (first | omega | (simp only [LN]; omega))) only [go_sem, ↓reduceIte, seval, c1, w1]) | ((with_reducible refine hK _ ?_); clear hK K) | (with_reducible first | refine qA ?_ | refine qB ?_ | refine qC ?_ | refine qD ?_ | refine qE ?_ | refine qF ?_ | refine qL ?_ | refine qM ?_ | refine qN ?_ | refine qO ?_ | refine qQ ?_) | refine qR rfl ?_ | (with_reducible refine AI ?_) | ((with_reducible refine qW (T := TT) (b := ?_) ?_ ?_); rotate_left; exact rfl) | (with_reducible first | refine qX ?_ | refine qY ?_ | refine qZ ?_) | (with_reducible first | refine qI ?_ | refine qIx ?_ | fail) | ((with_reducible refine yS ?_ ?_) <;> (intro h; try simp only [NM] at h)))
  have s1 : ((xs.length : Int) + 1).toNat = xs.length + 1 := by omega
  simp only [s1, Nat.sub_zero]
  refine CallJ.apart 26 28 4 1 _ _ Tryd.func70 (by kernel_rfl) (by kernel_rfl) (by kernel_rfl) (by kernel_rfl) Tryd.underlying26 Tryd.sizeOf28 (by decide) rfl rfl ⟨by simp, trivial⟩ (by simp; omega) (by omega) Nat.zero_lt_one ?_
  have e0 : List.take (k + 1 + (xs.length - k)) (xs ++ List.replicate p [L.any]) = xs ++ [[L.any]] := by
    rw [show k + 1 + (xs.length - k) = xs.length + 1 by omega, List.take_append, List.take_of_length_le (by omega : xs.length ≤ xs.length + 1), show xs.length + 1 - xs.length = 1 by omega, List.take_replicate, show min 1 p = 1 by omega]
    rfl
  try simp only [e0]
  simp -dsimp (disch := (first | omega | (simp only [LN]; omega))) only [go_sem, ↓reduceIte, seval, c1, w1, e0]
  repeat' (first | ((first | with_reducible refine qV tyOk fun K hK => ?_ | (with_reducible first | refine qG ?_ | refine qH ?_ | refine qP ?_ | refine qGx ?_ | refine qHx ?_ | refine qPx ?_) | ((with_reducible first | refine qS ?_ ?_ | refine qT ?_ ?_ | refine qU ?_ ?_) <;> (intro h; try simp only [NM] at h))) <;> simp -dsimp (disch := (first | omega | (simp only [LN]; omega))) only [go_sem, ↓reduceIte, seval, c1, w1, e0]) | ((with_reducible refine hK _ ?_); clear hK K) | (with_reducible first | refine qA ?_ | refine qB ?_ | refine qC ?_ | refine qD ?_ | refine qE ?_ | refine qF ?_ | refine qL ?_ | refine qM ?_ | refine qN ?_ | refine qO ?_ | refine qQ ?_) | refine qR rfl ?_ | (with_reducible refine AI ?_) | ((with_reducible refine qW (T := TT) (b := ?_) ?_ ?_); rotate_left; exact rfl) | (with_reducible first | refine qX ?_ | refine qY ?_ | refine qZ ?_) | (with_reducible first | refine qI ?_ | refine qIx ?_ | fail) | ((with_reducible refine yS ?_ ?_) <;> (intro h; try simp only [NM] at h)))
  have hnx : noOwn (xs ++ [[L.any]]) := by
    intro x hx
    rcases List.mem_append.1 hx with hx | hx
    · exact hno x hx
    · simp only [List.mem_singleton] at hx
      subst hx
      intro l hl
      simp only [List.mem_singleton] at hl
      subst hl
      rfl
  refine AWP.drawT tyOk mixed 8 8 (by kernel_rfl) rfl rfl fun K hK => ?_
  simp -dsimp (disch := (first | omega | (simp only [LN]; omega))) only [go_sem, ↓reduceIte, seval, c1, w1, e0]
  repeat' (first | ((first | with_reducible refine qV tyOk fun K hK => ?_ | (with_reducible first | refine qG ?_ | refine qH ?_ | refine qP ?_ | refine qGx ?_ | refine qHx ?_ | refine qPx ?_) | ((with_reducible first | refine qS ?_ ?_ | refine qT ?_ ?_ | refine qU ?_ ?_) <;> (intro h; try simp only [NM] at h))) <;> simp -dsimp (disch := (first | omega | (simp only [LN]; omega))) only [go_sem, ↓reduceIte, seval, c1, w1, e0]) | ((with_reducible refine hK _ ?_); clear hK K) | (with_reducible first | refine qA ?_ | refine qB ?_ | refine qC ?_ | refine qD ?_ | refine qE ?_ | refine qF ?_ | refine qL ?_ | refine qM ?_ | refine qN ?_ | refine qO ?_ | refine qQ ?_) | refine qR rfl ?_ | (with_reducible refine AI ?_) | ((with_reducible refine qW (T := TT) (b := ?_) ?_ ?_); rotate_left; exact rfl) | (with_reducible first | refine qX ?_ | refine qY ?_ | refine qZ ?_) | (with_reducible first | refine qI ?_ | refine qIx ?_ | fail) | ((with_reducible refine yS ?_ ?_) <;> (intro h; try simp only [NM] at h)))
  intro K hK
  simp -dsimp (disch := (first | omega | (simp only [LN]; omega))) only [go_sem, ↓reduceIte, seval, c1, w1, e0]
  repeat' (first | ((first | with_reducible refine qV tyOk fun K hK => ?_ | (with_reducible first | refine qG ?_ | refine qH ?_ | refine qP ?_ | refine qGx ?_ | refine qHx ?_ | refine qPx ?_) | ((with_reducible first | refine qS ?_ ?_ | refine qT ?_ ?_ | refine qU ?_ ?_) <;> (intro h; try simp only [NM] at h))) <;> simp -dsimp (disch := (first | omega | (simp only [LN]; omega))) only [go_sem, ↓reduceIte, seval, c1, w1, e0]) | ((with_reducible refine hK _ ?_); clear hK K) | (with_reducible first | refine qA ?_ | refine qB ?_ | refine qC ?_ | refine qD ?_ | refine qE ?_ | refine qF ?_ | refine qL ?_ | refine qM ?_ | refine qN ?_ | refine qO ?_ | refine qQ ?_) | refine qR rfl ?_ | (with_reducible refine AI ?_) | ((with_reducible refine qW (T := TT) (b := ?_) ?_ ?_); rotate_left; exact rfl) | (with_reducible first | refine qX ?_ | refine qY ?_ | refine qZ ?_) | (with_reducible first | refine qI ?_ | refine qIx ?_ | fail) | ((with_reducible refine yS ?_ ?_) <;> (intro h; try simp only [NM] at h)))
  have hX : (xs ++ [[L.any]]).length = xs.length + 1 := by simp
  have d0 : List.drop k (xs ++ [[L.any]]) = List.drop k xs ++ [[L.any]] := List.drop_append_of_le_length (by omega)
  have d1 : min (List.drop k xs ++ [[L.any]]).length (xs.length + 1 - (k + 1)) = xs.length - k := by rw [List.length_append, List.length_drop]; omega
  have d2 : List.take (xs.length - k) (List.drop k xs ++ [[L.any]]) = List.drop k xs := List.take_left' (by simp)
  have d3 : List.drop (k + 1 + (xs.length - k)) (xs ++ [[L.any]]) = [] := List.drop_of_length_le (by omega)
  have d6 : (List.take (k + 1) (xs ++ [[L.any]])).length = k + 1 := by rw [List.length_take]; omega
  have d4 : List.take k (List.take (k + 1) (xs ++ [[L.any]]) ++ List.drop k xs) = List.take k xs := by
    rw [List.take_append_of_le_length (by omega), List.take_take, show min k (k + 1) = k by omega, List.take_append_of_le_length (by omega)]
  have d5 : List.drop (k + 1) (List.take (k + 1) (xs ++ [[L.any]]) ++ List.drop k xs) = List.drop k xs := List.drop_left' d6
  have d7 : min 1 (xs.length + 1 - k) = 1 := by omega
  have d8 : min (List.drop k xs ++ [[L.any]]).length (xs.length - k) = xs.length - k := by rw [List.length_append, List.length_drop]; omega
  simp only [d0, d1, d8, d2, d3, d4, d5, d7, List.append_nil]
  simp -dsimp (disch := (first | omega | (simp only [LN]; omega))) only [retQ, Tryd.results35, resVals, cellRV, resOf, St.rest, St.freeze, RT, go_sem, ↓reduceIte, seval]

def upsertR (t : Tbl) (rows : List Row) (row : Row) : List Row :=
  if findB t rows (keyOf t.pk row) then rows.set (findI t rows (keyOf t.pk row)).toNat row else rows.take (findI t rows (keyOf t.pk row)).toNat ++ [row] ++ rows.drop (findI t rows (keyOf t.pk row)).toNat
def deleteR (t : Tbl) (rows : List Row) (key : Row) : List Row :=
  if findB t rows key then rows.take (findI t rows key).toNat ++ rows.drop ((findI t rows key).toNat + 1) else rows

theorem find_cases (t : Tbl) (rows : List Row) (key : Row) : (findB t rows key = false ∧ ∃ k : Nat, k ≤ rows.length ∧ findI t rows key = (k : Int)) ∨ (findB t rows key = true ∧ ∃ k : Nat, k < rows.length ∧ findI t rows key = (k : Int)) := by
  unfold findB findI findPos
  rcases idx_cases (atKey t key) rows 0 with ⟨h1, h2⟩ | ⟨j, hj, h1, h2, h3⟩
  · rw [h1]
    exact .inl ⟨rfl, rows.length, Nat.le_refl _, rfl⟩
  · rw [h1, Nat.zero_add]
    rw [if_neg (by omega), if_neg (by omega)]
    cases hb : (cmpRows (keyOf t.pk (rows.getD ((j : Nat) : Int).toNat [])) key == 0) with
    | false => exact .inl ⟨rfl, j, Nat.le_of_lt hj, rfl⟩
    | true => exact .inr ⟨rfl, j, hj, rfl⟩
theorem noOwn_rows (l : List Row) : noOwn (l.map eRow1) := by
  have := noOwn_eRow1 l
  rw [this]; trivial

set_option maxHeartbeats 16000000 in
theorem relDelete_sat (t : Tbl) (rows : List Row) (key : Row) (h1 : t.pk.length ≤ 1099511627776) (h2 : rows.length ≤ 1099511627776) (h3 : key.length ≤ 140737488355328) (h4 : ∀ r ∈ rows, r.length ≤ 1099511627776) :
    Sat Tryd.prog 61 [.agg (eTbl t), .one (eRows rows), .one (eRow key)] (.tup [.one (eRows (deleteR t rows key)), oB (findB t rows key)]) := by
  rcases find_cases t rows key with ⟨hb, k, hk, hi⟩ | ⟨hb, k, hk, hi⟩
  · have sp : deleteR t rows key = rows := by rw [deleteR, hb]; rfl
    rw [sp, hb]
    refine sat_of_body tyOk Tryd.func61 rfl (by kernel_rfl) ⟨Nat.le_of_ble_eq_true rfl, Nat.le_of_ble_eq_true rfl⟩ fun w0 m0 F0 => ?_
    simp only [Tryd.ntmps61, envOf, Nat.reduceAdd]
    repeat' (first | ((first | with_reducible refine qV tyOk fun K hK => ?_ | (with_reducible first | refine qG ?_ | refine qH ?_ | refine qP ?_ | refine qGx ?_ | refine qHx ?_ | refine qPx ?_) | ((with_reducible first | refine qS ?_ ?_ | refine qT ?_ ?_ | refine qU ?_ ?_) <;> (intro h; try simp only [NM] at h)) | with_reducible refine yD tyOk mixed 6 (by kernel_rfl) fun K hK => ?_ | ((with_reducible refine CallJ.is ?_); refine CallJ.io [] [] [] [(2, 12)] [] [12] [] [12] (relClone_own rows h2 h4) rfl ⟨rfl, rfl, rfl, rfl⟩ ?_ ?_ ?_; (focus (simp -dsimp (disch := (first | omega | (simp only [LN]; omega))) only [go_sem, ↓reduceIte, seval, hb, hi, dropL_nil, dropL_nil', dropL_cons]; done)); (focus (simp -dsimp (disch := (first | omega | (simp only [LN]; omega))) only [go_sem, ↓reduceIte, seval, hb, hi, dropL_nil, dropL_nil', dropL_cons]; done))) | ((with_reducible refine CallJ.is ?_); (first | refine CallJ.pure (find_sat t rows key h1 (by omega) h3) ?_ | ((apply CallJ.lentI); (focus (simp -dsimp (disch := (first | omega | (simp only [LN]; omega))) only [go_sem, ↓reduceIte, seval, hb, hi, dropL_nil, dropL_nil', dropL_cons]; rfl)); (focus (first | exact (find_sat t rows key h1 (by omega) h3)))))) | ((with_reducible refine CallH.is ?_); (first | refine CallH.intro (find_sat t rows key h1 (by omega) h3) ?_))) <;> simp -dsimp (disch := (first | omega | (simp only [LN]; omega))) only [go_sem, ↓reduceIte, seval, hb, hi, dropL_nil, dropL_nil', dropL_cons]) | ((with_reducible refine hK _ ?_); clear hK K) | (with_reducible first | refine qA ?_ | refine qB ?_ | refine qC ?_ | refine qD ?_ | refine qE ?_ | refine qF ?_ | refine qL ?_ | refine qM ?_ | refine qN ?_ | refine qO ?_ | refine qQ ?_) | refine qR rfl ?_ | (with_reducible refine AI ?_) | ((with_reducible refine qW (T := TT) (b := ?_) ?_ ?_); rotate_left; exact rfl) | (with_reducible first | refine qX ?_ | refine qY ?_ | refine qZ ?_) | (with_reducible first | refine qI ?_ | refine qIx ?_ | fail) | ((with_reducible refine yS ?_ ?_) <;> (intro h; try simp only [NM] at h)))
    simp -dsimp (disch := (first | omega | (simp only [LN]; omega))) only [retQ, Tryd.results61, resVals, cellRV, resOf, St.rest, St.freeze, RT, go_sem, ↓reduceIte, seval]
  · have sp : deleteR t rows key = rows.take k ++ rows.drop (k + 1) := by rw [deleteR, hb, hi]; rfl
    rw [sp, hb]
    have hl : (rows.map eRow1).length = rows.length := by simp
    have fz := frz_eRow1 (rows.take k ++ rows.drop (k + 1))
    refine sat_of_body tyOk Tryd.func61 rfl (by kernel_rfl) ⟨Nat.le_of_ble_eq_true rfl, Nat.le_of_ble_eq_true rfl⟩ fun w0 m0 F0 => ?_
    simp only [Tryd.ntmps61, envOf, Nat.reduceAdd]
    repeat' (first | ((first | with_reducible refine qV tyOk fun K hK => ?_ | (with_reducible first | refine qG ?_ | refine qH ?_ | refine qP ?_ | refine qGx ?_ | refine qHx ?_ | refine qPx ?_) | ((with_reducible first | refine qS ?_ ?_ | refine qT ?_ ?_ | refine qU ?_ ?_) <;> (intro h; try simp only [NM] at h)) | with_reducible refine yD tyOk mixed 6 (by kernel_rfl) fun K hK => ?_ | ((with_reducible refine CallJ.is ?_); refine CallJ.io [] [] [] [(2, 12)] [] [12] [] [12] (relClone_own rows h2 h4) rfl ⟨rfl, rfl, rfl, rfl⟩ ?_ ?_ ?_; (focus (simp -dsimp (disch := (first | omega | (simp only [LN]; omega))) only [go_sem, ↓reduceIte, seval, hb, hi, dropL_nil, dropL_nil', dropL_cons]; done)); (focus (simp -dsimp (disch := (first | omega | (simp only [LN]; omega))) only [go_sem, ↓reduceIte, seval, hb, hi, dropL_nil, dropL_nil', dropL_cons]; done))) | ((with_reducible refine CallJ.is ?_); refine CallJ.io [] [(1000, 8)] [] [(6, 27)] [] [8, 27] [] [8, 27] (deleteRows_own (rows.map eRow1) k (by omega) (by omega) (noOwn_rows rows)) rfl ⟨rfl, rfl, rfl, rfl⟩ ?_ ?_ ?_; (focus (simp -dsimp (disch := (first | omega | (simp only [LN]; omega))) only [go_sem, ↓reduceIte, seval, hb, hi, dropL_nil, dropL_nil', dropL_cons]; done)); (focus (simp -dsimp (disch := (first | omega | (simp only [LN]; omega))) only [go_sem, ↓reduceIte, seval, hb, hi, dropL_nil, dropL_nil', dropL_cons]; done))) | ((with_reducible refine CallJ.is ?_); (first | refine CallJ.pure (find_sat t rows key h1 (by omega) h3) ?_ | ((apply CallJ.lentI); (focus (simp -dsimp (disch := (first | omega | (simp only [LN]; omega))) only [go_sem, ↓reduceIte, seval, hb, hi, dropL_nil, dropL_nil', dropL_cons]; rfl)); (focus (first | exact (find_sat t rows key h1 (by omega) h3)))))) | ((with_reducible refine CallH.is ?_); (first | refine CallH.intro (find_sat t rows key h1 (by omega) h3) ?_))) <;> simp -dsimp (disch := (first | omega | (simp only [LN]; omega))) only [go_sem, ↓reduceIte, seval, hb, hi, dropL_nil, dropL_nil', dropL_cons]) | ((with_reducible refine hK _ ?_); clear hK K) | (with_reducible first | refine qA ?_ | refine qB ?_ | refine qC ?_ | refine qD ?_ | refine qE ?_ | refine qF ?_ | refine qL ?_ | refine qM ?_ | refine qN ?_ | refine qO ?_ | refine qQ ?_) | refine qR rfl ?_ | (with_reducible refine AI ?_) | ((with_reducible refine qW (T := TT) (b := ?_) ?_ ?_); rotate_left; exact rfl) | (with_reducible first | refine qX ?_ | refine qY ?_ | refine qZ ?_) | (with_reducible first | refine qI ?_ | refine qIx ?_ | fail) | ((with_reducible refine yS ?_ ?_) <;> (intro h; try simp only [NM] at h)))
    simp -dsimp (disch := (first | omega | (simp only [LN]; omega))) only [retQ, Tryd.results61, resVals, cellRV, resOf, St.rest, St.freeze, RT, go_sem, ↓reduceIte, seval]
    have el : (List.take k (rows.map eRow1)).length + (List.drop (k + 1) (rows.map eRow1)).length + 1 = rows.length := by simp; omega
    have ex : List.take (rows.length - 1) (List.map (fun x => List.map (L.frzN 4) x) (List.take k (rows.map eRow1) ++ List.drop (k + 1) (rows.map eRow1) ++ [[L.sl 3 []]])) = (rows.take k ++ rows.drop (k + 1)).map eRow1 := by
      have e0 : List.take k (rows.map eRow1) ++ List.drop (k + 1) (rows.map eRow1) = (rows.take k ++ rows.drop (k + 1)).map eRow1 := by simp [List.map_take, List.map_drop]
      rw [e0, List.map_append, fz]
      exact List.take_left' (by simp; omega)
    rw [if_pos (by omega), ex]

set_option maxHeartbeats 16000000 in
theorem relUpsert_sat (t : Tbl) (rows : List Row) (row : Row) (h1 : t.pk.length ≤ 1099511627776) (h2 : rows.length ≤ 1099511627776) (h3 : row.length ≤ 1099511627776) (h4 : ∀ r ∈ rows, r.length ≤ 1099511627776) :
    Sat Tryd.prog 11 [.agg (eTbl t), .one (eRows rows), .one (eRow row)] (.v (.one (eRows (upsertR t rows row)))) := by
  have b1 : (keyOf t.pk row).length ≤ 140737488355328 := by rw [keyOf_length]; omega
  rcases find_cases t rows (keyOf t.pk row) with ⟨hb, k, hk, hi⟩ | ⟨hb, k, hk, hi⟩
  · have sp : upsertR t rows row = rows.take k ++ [row] ++ rows.drop k := by rw [upsertR, hb, hi]; rfl
    rw [sp]
    have hl : (rows.map eRow1).length = rows.length := by simp
    refine sat_of_body tyOk Tryd.func11 rfl (by kernel_rfl) ⟨Nat.le_of_ble_eq_true rfl, Nat.le_of_ble_eq_true rfl⟩ fun w0 m0 F0 => ?_
    simp only [Tryd.ntmps11, envOf, Nat.reduceAdd]
    repeat' (first | ((first | with_reducible refine qV tyOk fun K hK => ?_ | (with_reducible first | refine qG ?_ | refine qH ?_ | refine qP ?_ | refine qGx ?_ | refine qHx ?_ | refine qPx ?_) | ((with_reducible first | refine qS ?_ ?_ | refine qT ?_ ?_ | refine qU ?_ ?_) <;> (intro h; try simp only [NM] at h)) | with_reducible refine yD tyOk mixed 6 (by kernel_rfl) fun K hK => ?_ | ((with_reducible refine CallJ.is ?_); refine CallJ.io [] [] [] [(2, 11)] [] [11] [] [11] (relClone_own rows h2 h4) rfl ⟨rfl, rfl, rfl, rfl⟩ ?_ ?_ ?_; (focus (simp -dsimp (disch := (first | omega | (simp only [LN]; omega))) only [go_sem, ↓reduceIte, seval, hb, hi, dropL_nil, dropL_nil', dropL_cons]; done)); (focus (simp -dsimp (disch := (first | omega | (simp only [LN]; omega))) only [go_sem, ↓reduceIte, seval, hb, hi, dropL_nil, dropL_nil', dropL_cons]; done))) | ((with_reducible refine CallJ.is ?_); refine CallJ.io [] [(1000, 7), (1001, 32)] [] [(6, 33)] [] [7, 32, 33] [] [7, 32, 33] (insertRow_own (rows.map eRow1) (row.map eVal) k (by omega) (by omega) (noOwn_rows rows)) rfl ⟨rfl, rfl, rfl, rfl⟩ ?_ ?_ ?_; (focus (simp -dsimp (disch := (first | omega | (simp only [LN]; omega))) only [go_sem, ↓reduceIte, seval, hb, hi, dropL_nil, dropL_nil', dropL_cons]; done)); (focus (simp -dsimp (disch := (first | omega | (simp only [LN]; omega))) only [go_sem, ↓reduceIte, seval, hb, hi, dropL_nil, dropL_nil', dropL_cons]; done))) | ((with_reducible refine CallJ.is ?_); (first | refine CallJ.pure (cloneRow_sat row h3) ?_ | refine CallJ.pure (key_sat t row h1) ?_ | refine CallJ.pure (find_sat t rows (keyOf t.pk row) h1 (by omega) b1) ?_ | ((apply CallJ.lentI); (focus (simp -dsimp (disch := (first | omega | (simp only [LN]; omega))) only [go_sem, ↓reduceIte, seval, hb, hi, dropL_nil, dropL_nil', dropL_cons]; rfl)); (focus (first | exact (cloneRow_sat row h3) | exact (key_sat t row h1) | exact (find_sat t rows (keyOf t.pk row) h1 (by omega) b1)))))) | ((with_reducible refine CallH.is ?_); (first | refine CallH.intro (cloneRow_sat row h3) ?_ | refine CallH.intro (key_sat t row h1) ?_ | refine CallH.intro (find_sat t rows (keyOf t.pk row) h1 (by omega) b1) ?_ | ((first | refine CallH.lent (cloneRow_sat row h3) ?_ ?_; focus (simp -dsimp (disch := (first | omega | (simp only [LN]; omega))) only [go_sem, ↓reduceIte, seval, hb, hi, dropL_nil, dropL_nil', dropL_cons]; done) | refine CallH.lent (key_sat t row h1) ?_ ?_; focus (simp -dsimp (disch := (first | omega | (simp only [LN]; omega))) only [go_sem, ↓reduceIte, seval, hb, hi, dropL_nil, dropL_nil', dropL_cons]; done) | refine CallH.lent (find_sat t rows (keyOf t.pk row) h1 (by omega) b1) ?_ ?_; focus (simp -dsimp (disch := (first | omega | (simp only [LN]; omega))) only [go_sem, ↓reduceIte, seval, hb, hi, dropL_nil, dropL_nil', dropL_cons]; done)))))) <;> simp -dsimp (disch := (first | omega | (simp only [LN]; omega))) only [go_sem, ↓reduceIte, seval, hb, hi, dropL_nil, dropL_nil', dropL_cons]) | ((with_reducible refine hK _ ?_); clear hK K) | (with_reducible first | refine qA ?_ | refine qB ?_ | refine qC ?_ | refine qD ?_ | refine qE ?_ | refine qF ?_ | refine qL ?_ | refine qM ?_ | refine qN ?_ | refine qO ?_ | refine qQ ?_) | refine qR rfl ?_ | (with_reducible refine AI ?_) | ((with_reducible refine qW (T := TT) (b := ?_) ?_ ?_); rotate_left; exact rfl) | (with_reducible first | refine qX ?_ | refine qY ?_ | refine qZ ?_) | (with_reducible first | refine qI ?_ | refine qIx ?_ | fail) | ((with_reducible refine yS ?_ ?_) <;> (intro h; try simp only [NM] at h)))
    have ex : List.take k (rows.map eRow1) ++ [[L.sl 3 (row.map eVal)]] ++ List.drop k (rows.map eRow1) = (rows.take k ++ [row] ++ rows.drop k).map eRow1 := by simp [List.map_take, List.map_drop, eRow1, eRow]
    have el : (rows.take k ++ [row] ++ rows.drop k).length = rows.length + 1 := by simp; omega
    simp only [ex]
    simp -dsimp (disch := (first | omega | (simp only [LN]; omega))) only [retQ, Tryd.results11, resVals, cellRV, resOf, St.rest, St.freeze, RT, go_sem, ↓reduceIte, seval]
    have el2 : (rows.take k).length + 1 + (rows.drop k).length = rows.length + 1 := by simp; omega
    rw [if_pos (by omega)]
  · have sp : upsertR t rows row = rows.set k row := by rw [upsertR, hb, hi]; rfl
    rw [sp]
    refine sat_of_body tyOk Tryd.func11 rfl (by kernel_rfl) ⟨Nat.le_of_ble_eq_true rfl, Nat.le_of_ble_eq_true rfl⟩ fun w0 m0 F0 => ?_
    simp only [Tryd.ntmps11, envOf, Nat.reduceAdd]
    repeat' (first | ((first | with_reducible refine qV tyOk fun K hK => ?_ | (with_reducible first | refine qG ?_ | refine qH ?_ | refine qP ?_ | refine qGx ?_ | refine qHx ?_ | refine qPx ?_) | ((with_reducible first | refine qS ?_ ?_ | refine qT ?_ ?_ | refine qU ?_ ?_) <;> (intro h; try simp only [NM] at h)) | with_reducible refine yD tyOk mixed 6 (by kernel_rfl) fun K hK => ?_ | ((with_reducible refine CallJ.is ?_); refine CallJ.io [] [] [] [(2, 11)] [] [11] [] [11] (relClone_own rows h2 h4) rfl ⟨rfl, rfl, rfl, rfl⟩ ?_ ?_ ?_; (focus (simp -dsimp (disch := (first | omega | (simp only [LN]; omega))) only [go_sem, ↓reduceIte, seval, hb, hi, dropL_nil, dropL_nil', dropL_cons]; done)); (focus (simp -dsimp (disch := (first | omega | (simp only [LN]; omega))) only [go_sem, ↓reduceIte, seval, hb, hi, dropL_nil, dropL_nil', dropL_cons]; done))) | ((with_reducible refine CallJ.is ?_); (first | refine CallJ.pure (cloneRow_sat row h3) ?_ | refine CallJ.pure (key_sat t row h1) ?_ | refine CallJ.pure (find_sat t rows (keyOf t.pk row) h1 (by omega) b1) ?_ | ((apply CallJ.lentI); (focus (simp -dsimp (disch := (first | omega | (simp only [LN]; omega))) only [go_sem, ↓reduceIte, seval, hb, hi, dropL_nil, dropL_nil', dropL_cons]; rfl)); (focus (first | exact (cloneRow_sat row h3) | exact (key_sat t row h1) | exact (find_sat t rows (keyOf t.pk row) h1 (by omega) b1)))))) | ((with_reducible refine CallH.is ?_); (first | refine CallH.intro (cloneRow_sat row h3) ?_ | refine CallH.intro (key_sat t row h1) ?_ | refine CallH.intro (find_sat t rows (keyOf t.pk row) h1 (by omega) b1) ?_ | ((first | refine CallH.lent (cloneRow_sat row h3) ?_ ?_; focus (simp -dsimp (disch := (first | omega | (simp only [LN]; omega))) only [go_sem, ↓reduceIte, seval, hb, hi, dropL_nil, dropL_nil', dropL_cons]; done) | refine CallH.lent (key_sat t row h1) ?_ ?_; focus (simp -dsimp (disch := (first | omega | (simp only [LN]; omega))) only [go_sem, ↓reduceIte, seval, hb, hi, dropL_nil, dropL_nil', dropL_cons]; done) | refine CallH.lent (find_sat t rows (keyOf t.pk row) h1 (by omega) b1) ?_ ?_; focus (simp -dsimp (disch := (first | omega | (simp only [LN]; omega))) only [go_sem, ↓reduceIte, seval, hb, hi, dropL_nil, dropL_nil', dropL_cons]; done)))))) <;> simp -dsimp (disch := (first | omega | (simp only [LN]; omega))) only [go_sem, ↓reduceIte, seval, hb, hi, dropL_nil, dropL_nil', dropL_cons]) | ((with_reducible refine hK _ ?_); clear hK K) | (with_reducible first | refine qA ?_ | refine qB ?_ | refine qC ?_ | refine qD ?_ | refine qE ?_ | refine qF ?_ | refine qL ?_ | refine qM ?_ | refine qN ?_ | refine qO ?_ | refine qQ ?_) | refine qR rfl ?_ | (with_reducible refine AI ?_) | ((with_reducible refine qW (T := TT) (b := ?_) ?_ ?_); rotate_left; exact rfl) | (with_reducible first | refine qX ?_ | refine qY ?_ | refine qZ ?_) | (with_reducible first | refine qI ?_ | refine qIx ?_ | fail) | ((with_reducible refine yS ?_ ?_) <;> (intro h; try simp only [NM] at h)))
    have ex : (rows.map eRow1).set k [L.sl 3 (row.map eVal)] = (rows.set k row).map eRow1 := by simp [List.map_set, eRow1, eRow]
    have el : (rows.set k row).length = rows.length := by simp
    simp only [ex]
    simp -dsimp (disch := (first | omega | (simp only [LN]; omega))) only [retQ, Tryd.results11, resVals, cellRV, resOf, St.rest, St.freeze, RT, go_sem, ↓reduceIte, seval]
    rw [if_pos (by omega)]

theorem toList_inj {a b : ByteArray} (h : a.toList = b.toList) : a = b := by
  rw [ByteArray.toList_eq, ByteArray.toList_eq] at h
  cases a; cases b
  simp only at h
  congr 1
  exact Array.ext' h
theorem sEq_iff {a b : ByteArray} : sEq a b = true ↔ a = b := by
  simp only [sEq, beq_iff_eq]
  exact ⟨toList_inj, fun h => by rw [h]⟩

structure IsCmp {α : Type} (c : α → α → Int) : Prop where
  eq0 : ∀ a b, c a b = 0 ↔ a = b
  anti : ∀ a b, c a b = -(c b a)
  trans : ∀ x y z, c x y < 0 → c y z < 0 → c x z < 0
theorem IsCmp.refl {α : Type} {c : α → α → Int} (h : IsCmp c) (a : α) : c a a = 0 := (h.eq0 a a).2 rfl
theorem IsCmp.total {α : Type} {c : α → α → Int} (h : IsCmp c) (a b : α) : c a b < 0 ∨ a = b ∨ c b a < 0 := by
  have h1 := h.anti a b
  have h2 := h.eq0 a b
  rcases Int.lt_trichotomy (c a b) 0 with h3 | h3 | h3
  · exact .inl h3
  · exact .inr (.inl (h2.1 h3))
  · exact .inr (.inr (by omega))
theorem IsCmp.le_trans {α : Type} {c : α → α → Int} (h : IsCmp c) {x y z : α} (h1 : c x y ≤ 0) (h2 : c y z ≤ 0) : c x z ≤ 0 := by
  rcases Int.lt_or_eq_of_le h1 with h1 | h1
  · rcases Int.lt_or_eq_of_le h2 with h2 | h2
    · exact Int.le_of_lt (h.trans _ _ _ h1 h2)
    · rw [← (h.eq0 _ _).1 h2]; omega
  · rw [(h.eq0 _ _).1 h1]; exact h2
theorem cmpInts_is : IsCmp cmpInts := by
  refine ⟨fun a b => ?_, fun a b => ?_, fun x y z => ?_⟩ <;> unfold cmpInts <;> (repeat' split) <;> omega
theorem cmpL_is : IsCmp Lib.compareBytes := by
  refine ⟨fun a => ?_, fun a => ?_, fun a => ?_⟩
  · induction a with
    | nil => intro b; cases b <;> simp [Lib.compareBytes]
    | cons x a ih =>
      intro b
      cases b with
      | nil => simp [Lib.compareBytes]
      | cons y b =>
        simp only [Lib.compareBytes, List.cons.injEq]
        have := ih b
        have hxy : x = y ↔ x.toNat = y.toNat := ⟨fun h => by rw [h], fun h => UInt8.toNat_inj.1 h⟩
        simp only [UInt8.lt_iff_toNat_lt] at *
        (repeat' split) <;> simp_all <;> omega
  · induction a with
    | nil => intro b; cases b <;> simp [Lib.compareBytes]
    | cons x a ih =>
      intro b
      cases b with
      | nil => simp [Lib.compareBytes]
      | cons y b =>
        simp only [Lib.compareBytes]
        have := ih b
        simp only [UInt8.lt_iff_toNat_lt] at *
        (repeat' split) <;> simp_all <;> omega
  · induction a with
    | nil =>
      intro y z h1 h2
      cases y <;> cases z <;> simp_all [Lib.compareBytes]
    | cons x a ih =>
      intro b c h1 h2
      cases b with
      | nil => simp [Lib.compareBytes] at h1
      | cons y b =>
        cases c with
        | nil => simp [Lib.compareBytes] at h2
        | cons z c =>
          simp only [Lib.compareBytes] at *
          have := ih b c
          simp only [UInt8.lt_iff_toNat_lt] at *
          (repeat' split) <;> (repeat' split at h1) <;> (repeat' split at h2) <;> simp_all <;> omega
theorem cmpS_is : IsCmp cmpS := by
  refine ⟨fun a b => ?_, fun a b => cmpL_is.anti _ _, fun x y z => cmpL_is.trans _ _ _⟩
  unfold cmpS
  rw [cmpL_is.eq0]
  exact ⟨fun h => toList_inj (by rw [ByteArray.toList_eq, ByteArray.toList_eq]; exact h), fun h => by rw [h]⟩
def lexC {α β γ : Type} (f : γ → α) (g : γ → β) (c : α → α → Int) (d : β → β → Int) (x y : γ) : Int := if c (f x) (f y) ≠ 0 then c (f x) (f y) else d (g x) (g y)
theorem lexC_is {α β γ : Type} {f : γ → α} {g : γ → β} {c : α → α → Int} {d : β → β → Int} (hc : IsCmp c) (hd : IsCmp d) (hi : ∀ x y, f x = f y → g x = g y → x = y) : IsCmp (lexC f g c d) := by
  refine ⟨fun a b => ?_, fun a b => ?_, fun x y z h1 h2 => ?_⟩
  · unfold lexC
    have h1 := hc.eq0 (f a) (f b)
    have h2 := hd.eq0 (g a) (g b)
    split
    · rename_i h
      exact ⟨fun e => absurd e h, fun e => by rw [e] at h; exact absurd (hc.refl _) h⟩
    · rename_i h
      have h : c (f a) (f b) = 0 := by simpa using h
      rw [h2]
      exact ⟨fun e => hi a b (h1.1 h) e, fun e => by rw [e]⟩
  · unfold lexC
    have h1 := hc.anti (f a) (f b)
    have h2 := hd.anti (g a) (g b)
    split <;> split <;> omega
  · unfold lexC at *
    by_cases e1 : c (f x) (f y) = 0
    · have e1' := (hc.eq0 _ _).1 e1
      rw [if_neg (by simp [e1])] at h1
      rw [e1']
      by_cases e2 : c (f y) (f z) = 0
      · rw [if_neg (by simp [e2])] at h2 ⊢
        exact hd.trans _ _ _ h1 h2
      · rw [if_pos e2] at h2 ⊢
        exact h2
    · rw [if_pos e1] at h1
      by_cases e2 : c (f y) (f z) = 0
      · rw [← (hc.eq0 _ _).1 e2, if_pos e1]
        exact h1
      · rw [if_pos e2] at h2
        have h3 := hc.trans _ _ _ h1 h2
        rw [if_pos (by omega)]
        exact h3
theorem cmpV_is : IsCmp cmpV := by
  have h1 : IsCmp (lexC (γ := Val) Val.kind (fun v => (v.int, v.text)) cmpInts (lexC Prod.fst Prod.snd cmpInts cmpS)) :=
    lexC_is cmpInts_is (lexC_is cmpInts_is cmpS_is fun x y h1 h2 => Prod.ext h1 h2) fun x y h1 h2 => by
      cases x; cases y
      simp only [Prod.mk.injEq] at h1 h2
      simp [h1, h2.1, h2.2]
  exact h1

theorem cmpCell_shift (y : Val) (b : Row) : ∀ (a : Row) (k : Nat), scan (cmpCell (y :: b)) a (k + 1) = scan (cmpCell b) a k
  | [], _ => rfl
  | x :: a, k => by
    have e : cmpCell (y :: b) (k + 1) x = cmpCell b k x := by
      unfold cmpCell
      simp
    rw [scan, scan, e, cmpCell_shift y b a (k + 1)]
theorem cmpRows_nil_nil : cmpRows [] [] = 0 := rfl
theorem cmpRows_nil_cons (y : Val) (b : Row) : cmpRows [] (y :: b) = -1 := by
  unfold cmpRows
  simp only [scan, cmpInts, List.length_nil, List.length_cons]
  rw [if_pos (by omega)]
theorem cmpRows_cons_nil (x : Val) (a : Row) : cmpRows (x :: a) [] = 1 := by
  have h : scan (cmpCell []) (x :: a) 0 = none := scan_all_none fun j y _ => by simp [cmpCell]
  unfold cmpRows
  rw [h]
  simp only [cmpInts, List.length_nil, List.length_cons]
  rw [if_neg (by omega), if_pos (by omega)]
theorem cmpRows_cons (x y : Val) (a b : Row) : cmpRows (x :: a) (y :: b) = if cmpV x y ≠ 0 then cmpV x y else cmpRows a b := by
  unfold cmpRows
  rw [scan, show cmpCell (y :: b) 0 x = if cmpV x y ≠ 0 then some (cmpV x y) else none by simp [cmpCell]]
  by_cases h : cmpV x y = 0
  · rw [if_neg (by simp [h]), if_neg (by simp [h])]
    simp only
    rw [cmpCell_shift y b a 0]
    cases scan (cmpCell b) a 0 with
    | some e => rfl
    | none =>
      simp only [cmpInts, List.length_cons]
      (repeat' split) <;> omega
  · rw [if_pos h, if_pos h]
theorem cmpRows_is : IsCmp cmpRows := by
  refine ⟨fun a => ?_, fun a => ?_, fun a => ?_⟩
  · induction a with
    | nil => intro b; cases b with
      | nil => simp [cmpRows_nil_nil]
      | cons y b => simp [cmpRows_nil_cons]
    | cons x a ih => intro b; cases b with
      | nil => simp [cmpRows_cons_nil]
      | cons y b =>
        rw [cmpRows_cons]
        have h1 := cmpV_is.eq0 x y
        have h2 := ih b
        split
        · rename_i h; simp [h]; intro e; exact absurd (h1.2 e) h
        · rename_i h
          have h : cmpV x y = 0 := by simpa using h
          rw [h2]; simp [h1.1 h]
  · induction a with
    | nil => intro b; cases b with
      | nil => rfl
      | cons y b => rw [cmpRows_nil_cons, cmpRows_cons_nil]
    | cons x a ih => intro b; cases b with
      | nil => rw [cmpRows_nil_cons, cmpRows_cons_nil]; rfl
      | cons y b =>
        rw [cmpRows_cons, cmpRows_cons]
        have h1 := cmpV_is.anti x y
        have h2 := ih b
        split <;> split <;> omega
  · induction a with
    | nil => intro b c h1 h2; cases b with
      | nil => rw [cmpRows_nil_nil] at h1; omega
      | cons y b => cases c with
        | nil => rw [cmpRows_cons_nil] at h2; omega
        | cons z c => rw [cmpRows_nil_cons]; omega
    | cons x a ih => intro b c h1 h2; cases b with
      | nil => rw [cmpRows_cons_nil] at h1; omega
      | cons y b => cases c with
        | nil => rw [cmpRows_cons_nil] at h2; omega
        | cons z c =>
          rw [cmpRows_cons] at h1 h2 ⊢
          by_cases e1 : cmpV x y = 0
          · rw [if_neg (by simp [e1])] at h1
            rw [(cmpV_is.eq0 _ _).1 e1]
            by_cases e2 : cmpV y z = 0
            · rw [if_neg (by simp [e2])] at h2 ⊢
              exact ih b c h1 h2
            · rw [if_pos e2] at h2 ⊢; exact h2
          · rw [if_pos e1] at h1
            by_cases e2 : cmpV y z = 0
            · rw [← (cmpV_is.eq0 _ _).1 e2, if_pos e1]; exact h1
            · rw [if_pos e2] at h2
              have h3 := cmpV_is.trans _ _ _ h1 h2
              rw [if_pos (by omega)]; exact h3

theorem val_eq {a b : Val} : a = b ↔ a.kind = b.kind ∧ a.int = b.int ∧ a.text.toList = b.text.toList := by
  constructor
  · rintro rfl; exact ⟨rfl, rfl, rfl⟩
  · rintro ⟨h1, h2, h3⟩
    cases a; cases b
    simp only at h1 h2 h3
    rw [h1, h2, toList_inj h3]
theorem take_eq_succ {α : Type} {a b : List α} {k : Nat} (ha : k < a.length) (hb : k < b.length) (h : a.take k = b.take k) (e : a[k] = b[k]) : a.take (k + 1) = b.take (k + 1) := by
  rw [take_snoc a k ha, take_snoc b k hb, h, e]
theorem get_of_eq {α : Type} {a b : List α} {k : Nat} (ha : k < a.length) (hb : k < b.length) (h : a = b) : a[k] = b[k] := by subst h; rfl

set_option maxHeartbeats 8000000 in
theorem equalRow_sat (a b : Row) (h1 : a.length ≤ 140737488355328) (h2 : b.length ≤ 140737488355328) : Sat Tryd.prog 43 [.one (eRow a), .one (eRow b)] (.v (oB (decide (a = b)))) := by
  refine sat_of_body tyOk Tryd.func43 rfl (by kernel_rfl) ⟨Nat.le_of_ble_eq_true rfl, Nat.le_of_ble_eq_true rfl⟩ fun w0 m0 F0 => ?_
  simp only [Tryd.ntmps43, envOf, Nat.reduceAdd]
  repeat' (first | ((first | with_reducible refine qV tyOk fun K hK => ?_ | (with_reducible first | refine qG ?_ | refine qH ?_ | refine qP ?_ | refine qGx ?_ | refine qHx ?_ | refine qPx ?_) | ((with_reducible first | refine qS ?_ ?_ | refine qT ?_ ?_ | refine qU ?_ ?_) <;> (intro h; try simp only [NM] at h)) | with_reducible refine yD tyOk mixed 6 (by kernel_rfl) fun K hK => ?_) <;> simp -dsimp (disch := (first | omega | (simp only [LN]; omega))) only [go_sem, ↓reduceIte, seval]) | ((with_reducible refine hK _ ?_); clear hK K) | (with_reducible first | refine qA ?_ | refine qB ?_ | refine qC ?_ | refine qD ?_ | refine qE ?_ | refine qF ?_ | refine qL ?_ | refine qM ?_ | refine qN ?_ | refine qO ?_ | refine qQ ?_) | refine qR rfl ?_ | (with_reducible refine AI ?_) | ((with_reducible refine qW (T := TT) (b := ?_) ?_ ?_); rotate_left; exact rfl) | (with_reducible first | refine qX ?_ | refine qY ?_ | refine qZ ?_) | (with_reducible first | refine qI ?_ | refine qIx ?_ | fail) | ((with_reducible refine yS ?_ ?_) <;> (intro h; try simp only [NM] at h)))
  rotate_left
  · simp -dsimp (disch := (first | omega | (simp only [LN]; omega))) only [retQ, Tryd.results43, resVals, cellRV, resOf, St.rest, St.freeze, RT, go_sem, ↓reduceIte, seval]
    have hn : ¬ a = b := fun e => by rw [e] at h; exact h rfl
    simp [hn]
  have hl : a.length = b.length := by omega
  refine AWP.loop (ι := {k : Nat // k ≤ a.length ∧ a.take k = b.take k}) (fun k => ⟨26, [(0, .v (.one (eRow a))), (1, .v (.one (eRow b))), (12, .v (oI a.length)), (13, .v (oI k.1))], [], []⟩) (fun k => a.length - k.1) ⟨0, Nat.zero_le _, rfl⟩ ?_ fun ⟨k, hkl, hi⟩ => ?_
  · refine St.le_mk ?_ ?_ ?_ <;> simp only [LE, EN, Nat.reduceEqDiff, reduceIte, Nat.reduceSub]
  rcases Nat.lt_or_ge k a.length with hc | hc
  · have hb : k < b.length := by omega
    repeat' (first | ((first | with_reducible refine qV tyOk fun K hK => ?_ | (with_reducible first | refine qG ?_ | refine qH ?_ | refine qP ?_ | refine qGx ?_ | refine qHx ?_ | refine qPx ?_) | ((with_reducible first | refine qS ?_ ?_ | refine qT ?_ ?_ | refine qU ?_ ?_) <;> (intro h; try simp only [NM] at h)) | with_reducible refine yD tyOk mixed 6 (by kernel_rfl) fun K hK => ?_) <;> simp -dsimp (disch := (first | omega | (simp only [LN]; omega))) only [go_sem, ↓reduceIte, seval]) | ((with_reducible refine hK _ ?_); clear hK K) | (with_reducible first | refine qA ?_ | refine qB ?_ | refine qC ?_ | refine qD ?_ | refine qE ?_ | refine qF ?_ | refine qL ?_ | refine qM ?_ | refine qN ?_ | refine qO ?_ | refine qQ ?_) | refine qR rfl ?_ | (with_reducible refine AI ?_) | ((with_reducible refine qW (T := TT) (b := ?_) ?_ ?_); rotate_left; exact rfl) | (with_reducible first | refine qX ?_ | refine qY ?_ | refine qZ ?_) | (with_reducible first | refine qI ?_ | refine qIx ?_ | fail) | ((with_reducible refine yS ?_ ?_) <;> (intro h; try simp only [NM] at h)))
    · refine ⟨⟨k + 1, by omega, take_eq_succ hc hb hi (val_eq.2 h)⟩, by simp only; omega, ?_⟩
      refine St.le_mk ?_ ?_ ?_ <;> simp only [LE, EN, Nat.reduceEqDiff, reduceIte, Nat.reduceSub]
    · simp -dsimp (disch := (first | omega | (simp only [LN]; omega))) only [retQ, Tryd.results43, resVals, cellRV, resOf, St.rest, St.freeze, RT, go_sem, ↓reduceIte, seval]
      have hn : ¬ a = b := fun e => by
        obtain ⟨e1, e2, e3⟩ := val_eq.1 (get_of_eq hc hb e)
        exact h e1 e2 e3
      simp [hn]
  · have hk : a = b := by
      rw [List.take_of_length_le (by omega), List.take_of_length_le (by omega)] at hi
      exact hi
    repeat' (first | ((first | with_reducible refine qV tyOk fun K hK => ?_ | (with_reducible first | refine qG ?_ | refine qH ?_ | refine qP ?_ | refine qGx ?_ | refine qHx ?_ | refine qPx ?_) | ((with_reducible first | refine qS ?_ ?_ | refine qT ?_ ?_ | refine qU ?_ ?_) <;> (intro h; try simp only [NM] at h)) | with_reducible refine yD tyOk mixed 6 (by kernel_rfl) fun K hK => ?_) <;> simp -dsimp (disch := (first | omega | (simp only [LN]; omega))) only [go_sem, ↓reduceIte, seval]) | ((with_reducible refine hK _ ?_); clear hK K) | (with_reducible first | refine qA ?_ | refine qB ?_ | refine qC ?_ | refine qD ?_ | refine qE ?_ | refine qF ?_ | refine qL ?_ | refine qM ?_ | refine qN ?_ | refine qO ?_ | refine qQ ?_) | refine qR rfl ?_ | (with_reducible refine AI ?_) | ((with_reducible refine qW (T := TT) (b := ?_) ?_ ?_); rotate_left; exact rfl) | (with_reducible first | refine qX ?_ | refine qY ?_ | refine qZ ?_) | (with_reducible first | refine qI ?_ | refine qIx ?_ | fail) | ((with_reducible refine yS ?_ ?_) <;> (intro h; try simp only [NM] at h)))
    simp -dsimp (disch := (first | omega | (simp only [LN]; omega))) only [retQ, Tryd.results43, resVals, cellRV, resOf, St.rest, St.freeze, RT, go_sem, ↓reduceIte, seval]
    simp [hk]
theorem relEqual1_sat (a b : Row) (h1 : a.length ≤ 140737488355328) (h2 : b.length ≤ 140737488355328) : Sat Tryd.prog 42 [.one (eRow a), .one (eRow b)] (.v (oB (decide (a = b)))) := by
  refine sat_of_body tyOk Tryd.func42 rfl (by kernel_rfl) ⟨Nat.le_of_ble_eq_true rfl, Nat.le_of_ble_eq_true rfl⟩ fun w0 m0 F0 => ?_
  simp only [Tryd.ntmps42, envOf, Nat.reduceAdd]
  repeat' (first | ((first | with_reducible refine qV tyOk fun K hK => ?_ | (with_reducible first | refine qG ?_ | refine qH ?_ | refine qP ?_ | refine qGx ?_ | refine qHx ?_ | refine qPx ?_) | ((with_reducible first | refine qS ?_ ?_ | refine qT ?_ ?_ | refine qU ?_ ?_) <;> (intro h; try simp only [NM] at h)) | with_reducible refine yD tyOk mixed 6 (by kernel_rfl) fun K hK => ?_ | ((with_reducible refine CallJ.is ?_); (first | refine CallJ.pure (equalRow_sat a b h1 h2) ?_ | ((apply CallJ.lentI); (focus (simp -dsimp (disch := (first | omega | (simp only [LN]; omega))) only [go_sem, ↓reduceIte, seval]; rfl)); (focus (first | exact (equalRow_sat a b h1 h2)))))) | ((with_reducible refine CallH.is ?_); (first | refine CallH.intro (equalRow_sat a b h1 h2) ?_))) <;> simp -dsimp (disch := (first | omega | (simp only [LN]; omega))) only [go_sem, ↓reduceIte, seval]) | ((with_reducible refine hK _ ?_); clear hK K) | (with_reducible first | refine qA ?_ | refine qB ?_ | refine qC ?_ | refine qD ?_ | refine qE ?_ | refine qF ?_ | refine qL ?_ | refine qM ?_ | refine qN ?_ | refine qO ?_ | refine qQ ?_) | refine qR rfl ?_ | (with_reducible refine AI ?_) | ((with_reducible refine qW (T := TT) (b := ?_) ?_ ?_); rotate_left; exact rfl) | (with_reducible first | refine qX ?_ | refine qY ?_ | refine qZ ?_) | (with_reducible first | refine qI ?_ | refine qIx ?_ | fail) | ((with_reducible refine yS ?_ ?_) <;> (intro h; try simp only [NM] at h)))
  simp -dsimp (disch := (first | omega | (simp only [LN]; omega))) only [retQ, Tryd.results42, resVals, cellRV, resOf, St.rest, St.freeze, RT, go_sem, ↓reduceIte, seval]
set_option maxHeartbeats 8000000 in
theorem equalFuncRows_sat (a b : List Row) (h1 : a.length ≤ 140737488355328) (h2 : b.length ≤ 140737488355328) (h3 : ∀ r ∈ a, r.length ≤ 140737488355328) (h4 : ∀ r ∈ b, r.length ≤ 140737488355328) :
    Sat Tryd.prog 41 [.one (eRows a), .one (eRows b), .one (.clo 42 [])] (.v (oB (decide (a = b)))) := by
  refine sat_of_body tyOk Tryd.func41 rfl (by kernel_rfl) ⟨Nat.le_of_ble_eq_true rfl, Nat.le_of_ble_eq_true rfl⟩ fun w0 m0 F0 => ?_
  simp only [Tryd.ntmps41, envOf, Nat.reduceAdd]
  repeat' (first | ((first | with_reducible refine qV tyOk fun K hK => ?_ | (with_reducible first | refine qG ?_ | refine qH ?_ | refine qP ?_ | refine qGx ?_ | refine qHx ?_ | refine qPx ?_) | ((with_reducible first | refine qS ?_ ?_ | refine qT ?_ ?_ | refine qU ?_ ?_) <;> (intro h; try simp only [NM] at h)) | with_reducible refine yD tyOk mixed 6 (by kernel_rfl) fun K hK => ?_) <;> simp -dsimp (disch := (first | omega | (simp only [LN]; omega))) only [go_sem, ↓reduceIte, seval]) | ((with_reducible refine hK _ ?_); clear hK K) | (with_reducible first | refine qA ?_ | refine qB ?_ | refine qC ?_ | refine qD ?_ | refine qE ?_ | refine qF ?_ | refine qL ?_ | refine qM ?_ | refine qN ?_ | refine qO ?_ | refine qQ ?_) | refine qR rfl ?_ | (with_reducible refine AI ?_) | ((with_reducible refine qW (T := TT) (b := ?_) ?_ ?_); rotate_left; exact rfl) | (with_reducible first | refine qX ?_ | refine qY ?_ | refine qZ ?_) | (with_reducible first | refine qI ?_ | refine qIx ?_ | fail) | ((with_reducible refine yS ?_ ?_) <;> (intro h; try simp only [NM] at h)))
  rotate_left
  · simp -dsimp (disch := (first | omega | (simp only [LN]; omega))) only [retQ, Tryd.results41, resVals, cellRV, resOf, St.rest, St.freeze, RT, go_sem, ↓reduceIte, seval]
    have hn : ¬ a = b := fun e => by rw [e] at h; exact h rfl
    simp [hn]
  have hl : a.length = b.length := by omega
  refine AWP.loop (ι := {k : Nat // k ≤ a.length ∧ a.take k = b.take k}) (fun k => ⟨32, [(1, .v (.one (eRows b))), (2, .v (.one (.clo 42 []))), (15, .v (.one (eRows a))), (16, .v (oI a.length)), (17, .v (oI k.1))], [], []⟩) (fun k => a.length - k.1) ⟨0, Nat.zero_le _, rfl⟩ ?_ fun ⟨k, hkl, hi⟩ => ?_
  · refine St.le_mk ?_ ?_ ?_ <;> simp only [LE, EN, Nat.reduceEqDiff, reduceIte, Nat.reduceSub]
  rcases Nat.lt_or_ge k a.length with hc | hc
  · have hb : k < b.length := by omega
    repeat' (first | ((first | with_reducible refine qV tyOk fun K hK => ?_ | (with_reducible first | refine qG ?_ | refine qH ?_ | refine qP ?_ | refine qGx ?_ | refine qHx ?_ | refine qPx ?_) | ((with_reducible first | refine qS ?_ ?_ | refine qT ?_ ?_ | refine qU ?_ ?_) <;> (intro h; try simp only [NM] at h)) | with_reducible refine yD tyOk mixed 6 (by kernel_rfl) fun K hK => ?_ | ((with_reducible refine CallJ.is ?_); (first | refine CallJ.pure (relEqual1_sat a[k] b[k] (h3 _ (List.getElem_mem hc)) (h4 _ (List.getElem_mem hb))) ?_ | ((apply CallJ.lentI); (focus (simp -dsimp (disch := (first | omega | (simp only [LN]; omega))) only [go_sem, ↓reduceIte, seval]; rfl)); (focus (first | exact (relEqual1_sat a[k] b[k] (h3 _ (List.getElem_mem hc)) (h4 _ (List.getElem_mem hb)))))))) | ((with_reducible refine CallH.is ?_); (first | refine CallH.intro (relEqual1_sat a[k] b[k] (h3 _ (List.getElem_mem hc)) (h4 _ (List.getElem_mem hb))) ?_))) <;> simp -dsimp (disch := (first | omega | (simp only [LN]; omega))) only [go_sem, ↓reduceIte, seval]) | ((with_reducible refine hK _ ?_); clear hK K) | (with_reducible first | refine qA ?_ | refine qB ?_ | refine qC ?_ | refine qD ?_ | refine qE ?_ | refine qF ?_ | refine qL ?_ | refine qM ?_ | refine qN ?_ | refine qO ?_ | refine qQ ?_) | refine qR rfl ?_ | (with_reducible refine AI ?_) | ((with_reducible refine qW (T := TT) (b := ?_) ?_ ?_); rotate_left; exact rfl) | (with_reducible first | refine qX ?_ | refine qY ?_ | refine qZ ?_) | (with_reducible first | refine qI ?_ | refine qIx ?_ | fail) | ((with_reducible refine yS ?_ ?_) <;> (intro h; try simp only [NM] at h)))
    all_goals first
      | (refine ⟨⟨k + 1, by omega, take_eq_succ hc hb hi ‹_›⟩, by simp only; omega, ?_⟩
         refine St.le_mk ?_ ?_ ?_ <;> simp only [LE, EN, Nat.reduceEqDiff, reduceIte, Nat.reduceSub]
         done)
      | (have hn : ¬ a = b := fun e => ‹¬ _› (get_of_eq hc hb e)
         simp -dsimp (disch := (first | omega | (simp only [LN]; omega))) only [retQ, Tryd.results41, resVals, cellRV, resOf, St.rest, St.freeze, RT, go_sem, ↓reduceIte, seval]
         simp [hn])
  · have hk : a = b := by
      rw [List.take_of_length_le (by omega), List.take_of_length_le (by omega)] at hi
      exact hi
    repeat' (first | ((first | with_reducible refine qV tyOk fun K hK => ?_ | (with_reducible first | refine qG ?_ | refine qH ?_ | refine qP ?_ | refine qGx ?_ | refine qHx ?_ | refine qPx ?_) | ((with_reducible first | refine qS ?_ ?_ | refine qT ?_ ?_ | refine qU ?_ ?_) <;> (intro h; try simp only [NM] at h)) | with_reducible refine yD tyOk mixed 6 (by kernel_rfl) fun K hK => ?_) <;> simp -dsimp (disch := (first | omega | (simp only [LN]; omega))) only [go_sem, ↓reduceIte, seval]) | ((with_reducible refine hK _ ?_); clear hK K) | (with_reducible first | refine qA ?_ | refine qB ?_ | refine qC ?_ | refine qD ?_ | refine qE ?_ | refine qF ?_ | refine qL ?_ | refine qM ?_ | refine qN ?_ | refine qO ?_ | refine qQ ?_) | refine qR rfl ?_ | (with_reducible refine AI ?_) | ((with_reducible refine qW (T := TT) (b := ?_) ?_ ?_); rotate_left; exact rfl) | (with_reducible first | refine qX ?_ | refine qY ?_ | refine qZ ?_) | (with_reducible first | refine qI ?_ | refine qIx ?_ | fail) | ((with_reducible refine yS ?_ ?_) <;> (intro h; try simp only [NM] at h)))
    simp -dsimp (disch := (first | omega | (simp only [LN]; omega))) only [retQ, Tryd.results41, resVals, cellRV, resOf, St.rest, St.freeze, RT, go_sem, ↓reduceIte, seval]
    simp [hk]
theorem relEqual_sat (a b : List Row) (h1 : a.length ≤ 140737488355328) (h2 : b.length ≤ 140737488355328) (h3 : ∀ r ∈ a, r.length ≤ 140737488355328) (h4 : ∀ r ∈ b, r.length ≤ 140737488355328) :
    Sat Tryd.prog 15 [.one (eRows a), .one (eRows b)] (.v (oB (decide (a = b)))) := by
  refine sat_of_body tyOk Tryd.func15 rfl (by kernel_rfl) ⟨Nat.le_of_ble_eq_true rfl, Nat.le_of_ble_eq_true rfl⟩ fun w0 m0 F0 => ?_
  simp only [Tryd.ntmps15, envOf, Nat.reduceAdd]
  repeat' (first | ((first | with_reducible refine qV tyOk fun K hK => ?_ | (with_reducible first | refine qG ?_ | refine qH ?_ | refine qP ?_ | refine qGx ?_ | refine qHx ?_ | refine qPx ?_) | ((with_reducible first | refine qS ?_ ?_ | refine qT ?_ ?_ | refine qU ?_ ?_) <;> (intro h; try simp only [NM] at h)) | with_reducible refine yD tyOk mixed 6 (by kernel_rfl) fun K hK => ?_ | ((with_reducible refine CallJ.is ?_); (first | refine CallJ.pure (equalFuncRows_sat a b h1 h2 h3 h4) ?_ | ((apply CallJ.lentI); (focus (simp -dsimp (disch := (first | omega | (simp only [LN]; omega))) only [go_sem, ↓reduceIte, seval]; rfl)); (focus (first | exact (equalFuncRows_sat a b h1 h2 h3 h4)))))) | ((with_reducible refine CallH.is ?_); (first | refine CallH.intro (equalFuncRows_sat a b h1 h2 h3 h4) ?_))) <;> simp -dsimp (disch := (first | omega | (simp only [LN]; omega))) only [go_sem, ↓reduceIte, seval]) | ((with_reducible refine hK _ ?_); clear hK K) | (with_reducible first | refine qA ?_ | refine qB ?_ | refine qC ?_ | refine qD ?_ | refine qE ?_ | refine qF ?_ | refine qL ?_ | refine qM ?_ | refine qN ?_ | refine qO ?_ | refine qQ ?_) | refine qR rfl ?_ | (with_reducible refine AI ?_) | ((with_reducible refine qW (T := TT) (b := ?_) ?_ ?_); rotate_left; exact rfl) | (with_reducible first | refine qX ?_ | refine qY ?_ | refine qZ ?_) | (with_reducible first | refine qI ?_ | refine qIx ?_ | fail) | ((with_reducible refine yS ?_ ?_) <;> (intro h; try simp only [NM] at h)))
  simp -dsimp (disch := (first | omega | (simp only [LN]; omega))) only [retQ, Tryd.results15, resVals, cellRV, resOf, St.rest, St.freeze, RT, go_sem, ↓reduceIte, seval]

theorem idx_succ {α : Type} (p : α → Bool) : ∀ (l : List α) (k : Nat), idx p l (k + 1) = if idx p l k < 0 then -1 else idx p l k + 1
  | [], k => rfl
  | x :: l, k => by
    unfold idx
    split
    · rw [if_neg (by omega)]; omega
    · exact idx_succ p l (k + 1)
theorem findPos_cons (t : Tbl) (x : Row) (l : List Row) (key : Row) : findPos t (x :: l) key = if 0 ≤ cmpRows (keyOf t.pk x) key then 0 else if findPos t l key < 0 then -1 else findPos t l key + 1 := by
  unfold findPos
  rw [idx]
  simp only [atKey, decide_eq_true_eq]
  split
  · rfl
  · exact idx_succ _ l 0
theorem findI_cons (t : Tbl) (x : Row) (l : List Row) (key : Row) : findI t (x :: l) key = if 0 ≤ cmpRows (keyOf t.pk x) key then 0 else findI t l key + 1 := by
  unfold findI
  rw [findPos_cons]
  split
  · simp
  · by_cases h : findPos t l key < 0
    · rw [if_pos h, if_pos h, if_pos (by omega)]; simp
    · rw [if_neg h, if_neg h, if_neg (by omega)]
theorem findB_cons (t : Tbl) (x : Row) (l : List Row) (key : Row) : findB t (x :: l) key = if 0 ≤ cmpRows (keyOf t.pk x) key then cmpRows (keyOf t.pk x) key == 0 else findB t l key := by
  unfold findB
  rw [findPos_cons]
  split
  · rw [if_neg (by omega)]; rfl
  · by_cases h : findPos t l key < 0
    · rw [if_pos h, if_pos h, if_pos (by omega)]
    · have hg : 0 ≤ findPos t l key := by omega
      rw [if_neg h, if_neg h, if_neg (by omega)]
      have e : (findPos t l key + 1).toNat = (findPos t l key).toNat + 1 := by omega
      rw [e]
      simp
theorem deleteR_nil (t : Tbl) (key : Row) : deleteR t [] key = [] := rfl
theorem deleteR_cons (t : Tbl) (x : Row) (l : List Row) (key : Row) : deleteR t (x :: l) key = if 0 ≤ cmpRows (keyOf t.pk x) key then (if cmpRows (keyOf t.pk x) key = 0 then l else x :: l) else x :: deleteR t l key := by
  unfold deleteR
  rw [findB_cons, findI_cons]
  split
  · rename_i h
    by_cases h0 : cmpRows (keyOf t.pk x) key = 0
    · simp [h0]
    · simp [h0]
  · rename_i h
    rcases find_cases t l key with ⟨hb, k, hk, hi⟩ | ⟨hb, k, hk, hi⟩
    · simp [hb]
    · rw [hb, hi]
      have e : ((k : Int) + 1).toNat = k + 1 := by omega
      simp [e]
theorem upsertR_nil (t : Tbl) (row : Row) : upsertR t [] row = [row] := rfl
theorem upsertR_cons (t : Tbl) (x : Row) (l : List Row) (row : Row) : upsertR t (x :: l) row = if 0 ≤ cmpRows (keyOf t.pk x) (keyOf t.pk row) then (if cmpRows (keyOf t.pk x) (keyOf t.pk row) = 0 then row :: l else row :: x :: l) else x :: upsertR t l row := by
  unfold upsertR
  rw [findB_cons, findI_cons]
  split
  · rename_i h
    by_cases h0 : cmpRows (keyOf t.pk x) (keyOf t.pk row) = 0
    · simp [h0]
    · simp [h0]
  · rename_i h
    rcases find_cases t l (keyOf t.pk row) with ⟨hb, k, hk, hi⟩ | ⟨hb, k, hk, hi⟩
    · rw [hb, hi]
      have e : ((k : Int) + 1).toNat = k + 1 := by omega
      simp [e]
    · rw [hb, hi]
      have e : ((k : Int) + 1).toNat = k + 1 := by omega
      simp [e]

def SR (t : Tbl) (rows : List Row) : Prop := rows.Pairwise fun a b => cmpRows (keyOf t.pk a) (keyOf t.pk b) < 0
theorem sr_of {t : Tbl} : ∀ {rows : List Row}, (∀ j, ∀ h : j + 1 < rows.length, cmpRows (keyOf t.pk rows[j]) (keyOf t.pk rows[j + 1]) < 0) → SR t rows
  | [], _ => .nil
  | x :: l, h => by
    have hl : SR t l := sr_of fun j hj => h (j + 1) (by simpa using hj)
    refine .cons (fun y hy => ?_) hl
    cases l with
    | nil => cases hy
    | cons z l =>
      have h0 : cmpRows (keyOf t.pk x) (keyOf t.pk z) < 0 := by simpa using h 0 (by simp)
      rcases List.mem_cons.1 hy with rfl | hy
      · exact h0
      · exact cmpRows_is.trans _ _ _ h0 ((List.pairwise_cons.1 hl).1 y hy)
theorem sr_get {t : Tbl} {rows : List Row} (h : SR t rows) : ∀ j, ∀ hj : j + 1 < rows.length, cmpRows (keyOf t.pk rows[j]) (keyOf t.pk rows[j + 1]) < 0 :=
  fun j hj => List.pairwise_iff_getElem.1 h j (j + 1) (by omega) hj (by omega)
theorem deleteR_sub (t : Tbl) (key : Row) : ∀ (l : List Row), (deleteR t l key).Sublist l
  | [] => .slnil
  | x :: l => by
    rw [deleteR_cons]
    split
    · split
      · exact List.sublist_cons_self x l
      · exact List.Sublist.refl _
    · exact (deleteR_sub t key l).cons_cons x
theorem mem_upsertR {t : Tbl} {row : Row} : ∀ {l : List Row} {x : Row}, x ∈ upsertR t l row → x = row ∨ x ∈ l
  | [], x, h => by rw [upsertR_nil] at h; exact .inl (by simpa using h)
  | y :: l, x, h => by
    rw [upsertR_cons] at h
    split at h
    · split at h
      · rcases List.mem_cons.1 h with h | h
        · exact .inl h
        · exact .inr (List.mem_cons_of_mem _ h)
      · rcases List.mem_cons.1 h with h | h
        · exact .inl h
        · exact .inr h
    · rcases List.mem_cons.1 h with h | h
      · exact .inr (h ▸ List.mem_cons_self ..)
      · exact (mem_upsertR h).imp id (List.mem_cons_of_mem _)

theorem Sch.Fits.sub {s : Sch} (h : s.Fits) {fks : List FK} {cons : List Con} (hf : fks.Sublist s.fks) (hc : cons.Sublist s.cons) : (⟨s.tables, fks, cons⟩ : Sch).Fits :=
  ⟨h.tables, h.table, Nat.le_trans hf.length_le h.fks, fun f hf' => h.fk f (hf.subset hf'), Nat.le_trans hc.length_le h.cons⟩

theorem okRel_iff (t : Tbl) (rows : List Row) : OkRel t rows ↔ rows.length ≤ 24 ∧ (∀ x ∈ rows, rowE t x = 0) ∧ SR t rows := by
  constructor
  · rintro ⟨h1, h2, h3⟩
    refine ⟨h1, fun x hx => ?_, sr_of h3⟩
    obtain ⟨j, hj, rfl⟩ := List.mem_iff_getElem.1 hx
    exact h2 j hj
  · rintro ⟨h1, h2, h3⟩
    exact ⟨h1, fun j hj => h2 _ (List.getElem_mem hj), fun j hj => sr_get h3 j hj⟩
theorem OkRel.sub {t : Tbl} {l rows : List Row} (h : OkRel t rows) (hs : l.Sublist rows) : OkRel t l := by
  obtain ⟨h1, h2, h3⟩ := (okRel_iff _ _).1 h
  exact (okRel_iff _ _).2 ⟨Nat.le_trans hs.length_le h1, fun x hx => h2 x (hs.subset hx), List.Pairwise.sublist hs h3⟩

def getR (t : Tbl) : List Row → Row → Option Row
  | [], _ => none
  | x :: l, k => if keyOf t.pk x = k then some x else getR t l k
theorem getR_nil (t : Tbl) (k : Row) : getR t [] k = none := rfl
theorem getR_cons (t : Tbl) (x : Row) (l : List Row) (k : Row) : getR t (x :: l) k = if keyOf t.pk x = k then some x else getR t l k := rfl
theorem getR_none {t : Tbl} {k : Row} : ∀ {l : List Row}, (∀ y ∈ l, keyOf t.pk y ≠ k) → getR t l k = none
  | [], _ => rfl
  | x :: l, h => by
    rw [getR_cons, if_neg (h x (List.mem_cons_self ..))]
    exact getR_none fun y hy => h y (List.mem_cons_of_mem _ hy)
theorem cmp_ne {a b : Row} (h : cmpRows a b < 0) : a ≠ b := fun e => by
  have := (cmpRows_is.eq0 a b).2 e
  omega
theorem getR_above {t : Tbl} {k : Row} {l : List Row} (h : ∀ y ∈ l, cmpRows k (keyOf t.pk y) < 0) : getR t l k = none :=
  getR_none fun y hy e => cmp_ne (h y hy) e.symm
theorem getR_ext {t : Tbl} : ∀ {l m : List Row}, SR t l → SR t m → (∀ k, getR t l k = getR t m k) → l = m
  | [], [], _, _, _ => rfl
  | [], y :: m, _, _, h => by
    have := h (keyOf t.pk y)
    rw [getR_cons, if_pos rfl] at this
    cases this
  | x :: l, [], _, _, h => by
    have := h (keyOf t.pk x)
    rw [getR_cons, if_pos rfl] at this
    cases this
  | x :: l, y :: m, hl, hm, h => by
    obtain ⟨l1, l2⟩ := List.pairwise_cons.1 hl
    obtain ⟨m1, m2⟩ := List.pairwise_cons.1 hm
    have hx := h (keyOf t.pk x)
    have hy := h (keyOf t.pk y)
    rw [getR_cons, if_pos rfl] at hx
    rw [getR_cons t y, if_pos rfl] at hy
    rcases cmpRows_is.total (keyOf t.pk x) (keyOf t.pk y) with hc | hc | hc
    · rw [getR_above (l := y :: m) (fun z hz => by
        rcases List.mem_cons.1 hz with rfl | hz
        · exact hc
        · exact cmpRows_is.trans _ _ _ hc (m1 z hz))] at hx
      cases hx
    · rw [getR_cons, if_pos hc.symm] at hx
      injection hx with hx
      subst hx
      congr 1
      refine getR_ext l2 m2 fun k => ?_
      by_cases hk : keyOf t.pk x = k
      · rw [getR_above (fun z hz => hk ▸ l1 z hz), getR_above (fun z hz => hk ▸ m1 z hz)]
      · have := h k
        rwa [getR_cons, getR_cons, if_neg hk, if_neg hk] at this
    · rw [getR_above (l := x :: l) (fun z hz => by
        rcases List.mem_cons.1 hz with rfl | hz
        · exact hc
        · exact cmpRows_is.trans _ _ _ hc (l1 z hz))] at hy
      cases hy
theorem getR_upsertR (t : Tbl) (row k : Row) : ∀ (l : List Row), getR t (upsertR t l row) k = if keyOf t.pk row = k then some row else getR t l k
  | [] => by rw [upsertR_nil, getR_cons]
  | x :: l => by
    rw [upsertR_cons]
    split
    · split
      · rename_i h1
        have e := (cmpRows_is.eq0 _ _).1 h1
        rw [getR_cons, getR_cons, e]
        split <;> rfl
      · rw [getR_cons]
    · rename_i h1
      have hn : keyOf t.pk x ≠ keyOf t.pk row := fun e => by
        have := (cmpRows_is.eq0 _ _).2 e
        omega
      rw [getR_cons, getR_cons, getR_upsertR t row k l]
      by_cases hk : keyOf t.pk x = k
      · rw [if_pos hk, if_pos hk, if_neg (fun e => hn (hk.trans e.symm))]
      · rw [if_neg hk, if_neg hk]
theorem getR_deleteR {t : Tbl} {key : Row} (k : Row) : ∀ {l : List Row}, SR t l → getR t (deleteR t l key) k = if key = k then none else getR t l k
  | [], _ => by rw [deleteR_nil, getR_nil]; split <;> rfl
  | x :: l, h => by
    obtain ⟨h1, h2⟩ := List.pairwise_cons.1 h
    rw [deleteR_cons]
    split
    · split
      · rename_i e
        have e := (cmpRows_is.eq0 _ _).1 e
        split
        · rename_i hk
          rw [getR_above]
          intro y hy
          rw [← hk, ← e]
          exact h1 y hy
        · rename_i hk
          rw [getR_cons, if_neg (fun e' => hk (e.symm.trans e'))]
      · rename_i g1 g2
        split
        · rename_i hk
          have hlt : cmpRows key (keyOf t.pk x) < 0 := by
            have := cmpRows_is.anti key (keyOf t.pk x)
            omega
          rw [getR_above]
          intro y hy
          rw [← hk]
          rcases List.mem_cons.1 hy with rfl | hy
          · exact hlt
          · exact cmpRows_is.trans _ _ _ hlt (h1 y hy)
        · rfl
    · rename_i g1
      have hn : keyOf t.pk x ≠ key := fun e => by
        have := (cmpRows_is.eq0 _ _).2 e
        omega
      rw [getR_cons, getR_cons, getR_deleteR k h2]
      by_cases hk : keyOf t.pk x = k
      · rw [if_pos hk, if_pos hk, if_neg (fun e => hn (hk.trans e.symm))]
      · rw [if_neg hk, if_neg hk]
theorem upsertR_sr {t : Tbl} {row : Row} : ∀ {l : List Row}, SR t l → SR t (upsertR t l row)
  | [], _ => by rw [upsertR_nil]; exact List.pairwise_singleton ..
  | x :: l, h => by
    obtain ⟨h1, h2⟩ := List.pairwise_cons.1 h
    rw [upsertR_cons]
    split
    · split
      · rename_i e
        have e := (cmpRows_is.eq0 _ _).1 e
        exact List.pairwise_cons.2 ⟨fun y hy => e ▸ h1 y hy, h2⟩
      · rename_i g1 g2
        have hlt : cmpRows (keyOf t.pk row) (keyOf t.pk x) < 0 := by
          have := cmpRows_is.anti (keyOf t.pk row) (keyOf t.pk x)
          omega
        refine List.pairwise_cons.2 ⟨fun y hy => ?_, h⟩
        rcases List.mem_cons.1 hy with rfl | hy
        · exact hlt
        · exact cmpRows_is.trans _ _ _ hlt (h1 y hy)
    · rename_i g1
      refine List.pairwise_cons.2 ⟨fun y hy => ?_, upsertR_sr h2⟩
      rcases mem_upsertR hy with rfl | hy
      · omega
      · exact h1 y hy

def keyCellE (t : Tbl) (k : Nat) (v : Val) : Option Int :=
  if valE v ≠ 0 then some (valE v) else if v.kind ≠ (t.cols.getD (t.pk.getD k 0).toNat zCol).kind then some 7 else none
def keyE (t : Tbl) (r : Row) : Int :=
  if r.length ≠ t.pk.length then 3 else match scan (keyCellE t) r 0 with
    | some e => e
    | none => 0
set_option maxHeartbeats 8000000 in
theorem validateKey_sat (t : Tbl) (r : Row) (h1 : r.length ≤ 140737488355328) (h2 : t.pk.length ≤ 140737488355328) (h3 : t.cols.length ≤ 140737488355328) (hk : ∀ k, ∀ h : k < t.pk.length, 0 ≤ t.pk[k] ∧ t.pk[k] < t.cols.length) :
    Sat Tryd.prog 86 [.agg (eTbl t), .one (eRow r)] (.v (oI (keyE t r))) := by
  refine sat_of_body tyOk Tryd.func86 rfl (by kernel_rfl) ⟨Nat.le_of_ble_eq_true rfl, Nat.le_of_ble_eq_true rfl⟩ fun w0 m0 F0 => ?_
  simp only [Tryd.ntmps86, envOf, Nat.reduceAdd]
  repeat' (first | ((first | with_reducible refine qV tyOk fun K hK => ?_ | (with_reducible first | refine qG ?_ | refine qH ?_ | refine qP ?_ | refine qGx ?_ | refine qHx ?_ | refine qPx ?_) | ((with_reducible first | refine qS ?_ ?_ | refine qT ?_ ?_ | refine qU ?_ ?_) <;> (intro h; try simp only [NM] at h)) | with_reducible refine yD tyOk mixed 6 (by kernel_rfl) fun K hK => ?_ | ((with_reducible refine CallJ.is ?_); (first | refine CallJ.pure (validate_sat _) ?_ | ((apply CallJ.lentI); (focus (simp -dsimp (disch := (first | omega | (simp only [LN]; omega))) only [go_sem, ↓reduceIte, seval]; rfl)); (focus (first | exact (validate_sat _)))))) | ((with_reducible refine CallH.is ?_); (first | refine CallH.intro (validate_sat _) ?_))) <;> simp -dsimp (disch := (first | omega | (simp only [LN]; omega))) only [go_sem, ↓reduceIte, seval]) | ((with_reducible refine hK _ ?_); clear hK K) | (with_reducible first | refine qA ?_ | refine qB ?_ | refine qC ?_ | refine qD ?_ | refine qE ?_ | refine qF ?_ | refine qL ?_ | refine qM ?_ | refine qN ?_ | refine qO ?_ | refine qQ ?_) | refine qR rfl ?_ | (with_reducible refine AI ?_) | ((with_reducible refine qW (T := TT) (b := ?_) ?_ ?_); rotate_left; exact rfl) | (with_reducible first | refine qX ?_ | refine qY ?_ | refine qZ ?_) | (with_reducible first | refine qI ?_ | refine qIx ?_ | fail) | ((with_reducible refine yS ?_ ?_) <;> (intro h; try simp only [NM] at h)))
  rotate_left
  · simp -dsimp (disch := (first | omega | (simp only [LN]; omega))) only [retQ, Tryd.results86, resVals, cellRV, resOf, St.rest, St.freeze, RT, go_sem, ↓reduceIte, seval]
    have : r.length ≠ t.pk.length := by omega
    simp [keyE, this]
  have hl : r.length = t.pk.length := by omega
  have spec : keyE t r = match scan (keyCellE t) r 0 with
    | some e => e
    | none => 0 := by simp [keyE, hl]
  rw [spec]
  refine AWP.loop (ι := {k : Nat // k ≤ r.length ∧ scan (keyCellE t) (r.drop k) k = scan (keyCellE t) r 0}) (fun k => ⟨40, [(2, .v (.one (.ptr 2 0))), (14, .v (.one (eRow r))), (15, .v (oI r.length)), (16, .v (oI k.1))], [(2, eTbl t)], []⟩) (fun k => r.length - k.1) ⟨0, Nat.zero_le _, rfl⟩ ?_ fun ⟨k, hkl, hi⟩ => ?_
  · refine St.le_mk ?_ ?_ ?_ <;> simp only [LE, EN, Nat.reduceEqDiff, reduceIte, Nat.reduceSub, eTbl]
  rcases Nat.lt_or_ge k r.length with hc | hc
  · have hc' : k < t.pk.length := by omega
    obtain ⟨p1, p2⟩ := hk k hc'
    repeat' (first | ((first | with_reducible refine qV tyOk fun K hK => ?_ | (with_reducible first | refine qG ?_ | refine qH ?_ | refine qP ?_ | refine qGx ?_ | refine qHx ?_ | refine qPx ?_) | ((with_reducible first | refine qS ?_ ?_ | refine qT ?_ ?_ | refine qU ?_ ?_) <;> (intro h; try simp only [NM] at h)) | with_reducible refine yD tyOk mixed 6 (by kernel_rfl) fun K hK => ?_ | ((with_reducible refine CallJ.is ?_); (first | refine CallJ.pure (validate_sat _) ?_ | ((apply CallJ.lentI); (focus (simp -dsimp (disch := (first | omega | (simp only [LN]; omega))) only [go_sem, ↓reduceIte, seval]; rfl)); (focus (first | exact (validate_sat _)))))) | ((with_reducible refine CallH.is ?_); (first | refine CallH.intro (validate_sat _) ?_))) <;> simp -dsimp (disch := (first | omega | (simp only [LN]; omega))) only [go_sem, ↓reduceIte, seval]) | ((with_reducible refine hK _ ?_); clear hK K) | (with_reducible first | refine qA ?_ | refine qB ?_ | refine qC ?_ | refine qD ?_ | refine qE ?_ | refine qF ?_ | refine qL ?_ | refine qM ?_ | refine qN ?_ | refine qO ?_ | refine qQ ?_) | refine qR rfl ?_ | (with_reducible refine AI ?_) | ((with_reducible refine qW (T := TT) (b := ?_) ?_ ?_); rotate_left; exact rfl) | (with_reducible first | refine qX ?_ | refine qY ?_ | refine qZ ?_) | (with_reducible first | refine qI ?_ | refine qIx ?_ | fail) | ((with_reducible refine yS ?_ ?_) <;> (intro h; try simp only [NM] at h)))
    all_goals
      first
        | (have hs : (keyCellE t) k r[k] = none := by
             (simp (disch := omega) only [keyCellE, getD_lt]; (repeat' split) <;> first | rfl | with_reducible assumption | omega | (exfalso; omega) | (simp_all; done) | (simp_all; omega))
           refine ⟨⟨k + 1, by omega, by rw [scan_step (by omega) hs, hi]⟩, by simp only; omega, ?_⟩
           refine St.le_mk ?_ ?_ ?_ <;> simp only [LE, EN, Nat.reduceEqDiff, reduceIte, Nat.reduceSub, eTbl]
           done)
        | (simp -dsimp (disch := (first | omega | (simp only [LN]; omega))) only [retQ, Tryd.results86, resVals, cellRV, resOf, St.rest, St.freeze, RT, go_sem, ↓reduceIte, seval]
           rw [scan_leaf (by omega) ?_ hi]
           all_goals first | with_reducible rfl | ((simp (disch := omega) only [keyCellE, getD_lt]; (repeat' split) <;> first | rfl | with_reducible assumption | omega | (exfalso; omega) | (simp_all; done) | (simp_all; omega)); done) | rfl
           done)
  · rw [scan_end (by omega)] at hi
    repeat' (first | ((first | with_reducible refine qV tyOk fun K hK => ?_ | (with_reducible first | refine qG ?_ | refine qH ?_ | refine qP ?_ | refine qGx ?_ | refine qHx ?_ | refine qPx ?_) | ((with_reducible first | refine qS ?_ ?_ | refine qT ?_ ?_ | refine qU ?_ ?_) <;> (intro h; try simp only [NM] at h)) | with_reducible refine yD tyOk mixed 6 (by kernel_rfl) fun K hK => ?_) <;> simp -dsimp (disch := (first | omega | (simp only [LN]; omega))) only [go_sem, ↓reduceIte, seval]) | ((with_reducible refine hK _ ?_); clear hK K) | (with_reducible first | refine qA ?_ | refine qB ?_ | refine qC ?_ | refine qD ?_ | refine qE ?_ | refine qF ?_ | refine qL ?_ | refine qM ?_ | refine qN ?_ | refine qO ?_ | refine qQ ?_) | refine qR rfl ?_ | (with_reducible refine AI ?_) | ((with_reducible refine qW (T := TT) (b := ?_) ?_ ?_); rotate_left; exact rfl) | (with_reducible first | refine qX ?_ | refine qY ?_ | refine qZ ?_) | (with_reducible first | refine qI ?_ | refine qIx ?_ | fail) | ((with_reducible refine yS ?_ ?_) <;> (intro h; try simp only [NM] at h)))
    simp -dsimp (disch := (first | omega | (simp only [LN]; omega))) only [retQ, Tryd.results86, resVals, cellRV, resOf, St.rest, St.freeze, RT, go_sem, ↓reduceIte, seval]
    rw [← hi]

def tblOf (s : Sch) (name : ByteArray) : Tbl := s.tables.getD (tblAt s.tables name).toNat zTbl
def chgE (s : Sch) (c : Chg) : Int :=
  if (c.kind = 1 ∧ 0 < c.key.length) ∨ (c.kind = 2 ∧ 0 < c.row.length) ∨ (c.kind ≠ 1 ∧ c.kind ≠ 2) then 3
  else if tblAt s.tables c.table < 0 then 4
  else if c.kind = 1 then rowE (tblOf s c.table) c.row else keyE (tblOf s c.table) c.key
set_option maxHeartbeats 8000000 in
theorem chgValidate_sat (s : Sch) (c : Chg) (hs : schE s = 0) (h1 : c.key.length ≤ 140737488355328) (h2 : c.row.length ≤ 140737488355328) :
    Sat Tryd.prog 51 [.agg (eSch s), .agg (eChg c)] (.v (oI (chgE s c))) := by
  have ok := okSch_of hs
  have m1 := ok.n6
  rcases idx_cases (fun t => sEq t.name c.table) s.tables 0 with ⟨e1, _⟩ | ⟨k, hk, e1, _, _⟩
  · have e1 : tblAt s.tables c.table = -1 := e1
    have fs := findTable_sat s c.table (by omega)
    rw [e1, mx0_neg] at fs
    refine sat_of_body tyOk Tryd.func51 rfl (by kernel_rfl) ⟨Nat.le_of_ble_eq_true rfl, Nat.le_of_ble_eq_true rfl⟩ fun w0 m0 F0 => ?_
    simp only [Tryd.ntmps51, envOf, Nat.reduceAdd]
    repeat' (first | ((first | with_reducible refine qV tyOk fun K hK => ?_ | (with_reducible first | refine qG ?_ | refine qH ?_ | refine qP ?_ | refine qGx ?_ | refine qHx ?_ | refine qPx ?_) | ((with_reducible first | refine qS ?_ ?_ | refine qT ?_ ?_ | refine qU ?_ ?_) <;> (intro h; try simp only [NM] at h)) | with_reducible refine yD tyOk mixed 6 (by kernel_rfl) fun K hK => ?_ | ((with_reducible refine CallJ.is ?_); (first | refine CallJ.pure (fs) ?_ | ((apply CallJ.lentI); (focus (simp -dsimp (disch := (first | omega | (simp only [LN]; omega))) only [go_sem, ↓reduceIte, seval]; rfl)); (focus (first | exact (fs)))))) | ((with_reducible refine CallH.is ?_); (first | refine CallH.intro (fs) ?_))) <;> simp -dsimp (disch := (first | omega | (simp only [LN]; omega))) only [go_sem, ↓reduceIte, seval]) | ((with_reducible refine hK _ ?_); clear hK K) | (with_reducible first | refine qA ?_ | refine qB ?_ | refine qC ?_ | refine qD ?_ | refine qE ?_ | refine qF ?_ | refine qL ?_ | refine qM ?_ | refine qN ?_ | refine qO ?_ | refine qQ ?_) | refine qR rfl ?_ | (with_reducible refine AI ?_) | ((with_reducible refine qW (T := TT) (b := ?_) ?_ ?_); rotate_left; exact rfl) | (with_reducible first | refine qX ?_ | refine qY ?_ | refine qZ ?_) | (with_reducible first | refine qI ?_ | refine qIx ?_ | fail) | ((with_reducible refine yS ?_ ?_) <;> (intro h; try simp only [NM] at h)))
    all_goals simp -dsimp (disch := (first | omega | (simp only [LN]; omega))) only [retQ, Tryd.results51, resVals, cellRV, resOf, St.rest, St.freeze, RT, go_sem, ↓reduceIte, seval]
    all_goals
      (simp only [chgE, e1]
       (repeat' split) <;> first | rfl | omega | (simp_all; done) | (simp_all; omega))
  · have e1 : tblAt s.tables c.table = (k : Int) := by unfold tblAt; simpa using e1
    have fs := findTable_sat s c.table (by omega)
    rw [e1, mx0_nat] at fs
    have et : tblOf s c.table = s.tables[k] := by simp only [tblOf, e1, Int.toNat_natCast]; exact getD_lt _ hk
    have o := ok.tbl _ (List.getElem_mem hk)
    have q1 := o.cols6
    have q2 := o.pk6
    refine sat_of_body tyOk Tryd.func51 rfl (by kernel_rfl) ⟨Nat.le_of_ble_eq_true rfl, Nat.le_of_ble_eq_true rfl⟩ fun w0 m0 F0 => ?_
    simp only [Tryd.ntmps51, envOf, Nat.reduceAdd]
    repeat' (first | ((first | with_reducible refine qV tyOk fun K hK => ?_ | (with_reducible first | refine qG ?_ | refine qH ?_ | refine qP ?_ | refine qGx ?_ | refine qHx ?_ | refine qPx ?_) | ((with_reducible first | refine qS ?_ ?_ | refine qT ?_ ?_ | refine qU ?_ ?_) <;> (intro h; try simp only [NM] at h)) | with_reducible refine yD tyOk mixed 6 (by kernel_rfl) fun K hK => ?_ | ((with_reducible refine CallJ.is ?_); (first | refine CallJ.pure (fs) ?_ | refine CallJ.pure (conformsRow_sat s.tables[k] c.row h2 (by omega)) ?_ | refine CallJ.pure (validateKey_sat s.tables[k] c.key h1 (by omega) (by omega) fun j hj => ⟨(o.key j hj).1, (o.key j hj).2.1⟩) ?_ | ((apply CallJ.lentI); (focus (simp -dsimp (disch := (first | omega | (simp only [LN]; omega))) only [go_sem, ↓reduceIte, seval]; rfl)); (focus (first | exact (fs) | exact (conformsRow_sat s.tables[k] c.row h2 (by omega)) | exact (validateKey_sat s.tables[k] c.key h1 (by omega) (by omega) fun j hj => ⟨(o.key j hj).1, (o.key j hj).2.1⟩)))))) | ((with_reducible refine CallH.is ?_); (first | refine CallH.intro (fs) ?_ | refine CallH.intro (conformsRow_sat s.tables[k] c.row h2 (by omega)) ?_ | refine CallH.intro (validateKey_sat s.tables[k] c.key h1 (by omega) (by omega) fun j hj => ⟨(o.key j hj).1, (o.key j hj).2.1⟩) ?_))) <;> simp -dsimp (disch := (first | omega | (simp only [LN]; omega))) only [go_sem, ↓reduceIte, seval]) | ((with_reducible refine hK _ ?_); clear hK K) | (with_reducible first | refine qA ?_ | refine qB ?_ | refine qC ?_ | refine qD ?_ | refine qE ?_ | refine qF ?_ | refine qL ?_ | refine qM ?_ | refine qN ?_ | refine qO ?_ | refine qQ ?_) | refine qR rfl ?_ | (with_reducible refine AI ?_) | ((with_reducible refine qW (T := TT) (b := ?_) ?_ ?_); rotate_left; exact rfl) | (with_reducible first | refine qX ?_ | refine qY ?_ | refine qZ ?_) | (with_reducible first | refine qI ?_ | refine qIx ?_ | fail) | ((with_reducible refine yS ?_ ?_) <;> (intro h; try simp only [NM] at h)))
    all_goals simp -dsimp (disch := (first | omega | (simp only [LN]; omega))) only [retQ, Tryd.results51, resVals, cellRV, resOf, St.rest, St.freeze, RT, go_sem, ↓reduceIte, seval]
    all_goals
      (simp only [chgE, e1, et]
       (repeat' split) <;> first | rfl | omega | (simp_all; done) | (simp_all; omega))

def zRel : Rel := ⟨ByteArray.empty, []⟩
def tpos (s : Sch) (c : Chg) : Nat := (tblAt s.tables c.table).toNat
def setRows (i : Inst) (k : Nat) (rows : List Row) : Inst := i.set k ⟨(i.getD k zRel).table, rows⟩
def applyC (s : Sch) (i : Inst) (c : Chg) : Int × Inst :=
  if chgE s c ≠ 0 then (chgE s c, []) else
  if c.kind = 1 then
    if 24 < (upsertR (tblOf s c.table) (i.getD (tpos s c) zRel).rows c.row).length then (2, []) else (0, setRows i (tpos s c) (upsertR (tblOf s c.table) (i.getD (tpos s c) zRel).rows c.row))
  else if findB (tblOf s c.table) (i.getD (tpos s c) zRel).rows c.key then (0, setRows i (tpos s c) (deleteR (tblOf s c.table) (i.getD (tpos s c) zRel).rows c.key)) else (9, [])
def applyL (s : Sch) : Inst → List Chg → Int × Inst
  | i, [] => (0, i)
  | i, c :: cs => if (applyC s i c).1 ≠ 0 then ((applyC s i c).1, []) else applyL s (applyC s i c).2 cs
def applyE (s : Sch) (i : Inst) (cs : List Chg) : Int × Inst :=
  if schE s ≠ 0 then (schE s, []) else if confE s i ≠ 0 then (confE s i, []) else if 24 < cs.length then (2, []) else applyL s i cs

theorem setRows_length (i : Inst) (k : Nat) (rows : List Row) : (setRows i k rows).length = i.length := by simp [setRows]
theorem setRows_get {i : Inst} {k : Nat} {rows : List Row} (hk : k < i.length) {j : Nat} (hj : j < (setRows i k rows).length) :
    (setRows i k rows)[j] = if k = j then ⟨i[k].table, rows⟩ else i[j]'(Nat.lt_of_lt_of_eq hj (setRows_length i k rows)) := by
  simp only [setRows, List.getElem_set, getD_lt _ hk]
theorem setRows_getD {i : Inst} {k : Nat} {rows : List Row} (hk : k < i.length) (j : Nat) : (setRows i k rows).getD j zRel = if k = j then ⟨(i.getD k zRel).table, rows⟩ else i.getD j zRel := by
  by_cases hj : j < i.length
  · have e : (setRows i k rows).getD j zRel = (setRows i k rows)[j]'(by rw [setRows_length]; exact hj) := getD_lt _ _
    have e2 : i.getD k zRel = i[k] := getD_lt _ hk
    have e3 : i.getD j zRel = i[j] := getD_lt _ hj
    rw [e, setRows_get hk]
    simp only [e2, e3]
  · have e : (setRows i k rows).getD j zRel = zRel := by
      rw [List.getD_eq_getElem?_getD, List.getElem?_eq_none (by rw [setRows_length]; omega)]; rfl
    have e3 : i.getD j zRel = zRel := by
      rw [List.getD_eq_getElem?_getD, List.getElem?_eq_none (by omega)]; rfl
    rw [e, e3, if_neg (by omega)]
theorem setRows_conf {s : Sch} {i : Inst} {k : Nat} {rows : List Row} (h : confE s i = 0) (hr : OkRel (s.tables.getD k zTbl) rows) : confE s (setRows i k rows) = 0 := by
  by_cases hk : k < i.length
  · obtain ⟨h1, h2⟩ := (confE_zero s i).1 h
    refine (confE_zero _ _).2 ⟨by rw [setRows_length]; exact h1, fun j hj => ?_⟩
    have hj' : j < i.length := by rwa [setRows_length] at hj
    rw [setRows_get hk hj]
    obtain ⟨h3, h4⟩ := h2 j hj'
    split
    · rename_i e
      subst e
      exact ⟨h3, hr⟩
    · exact ⟨h3, h4⟩
  · unfold setRows
    rw [List.set_eq_of_length_le (by omega)]
    exact h
theorem conf_rel {s : Sch} {i : Inst} (h : confE s i = 0) {k : Nat} (hk : k < i.length) : OkRel (s.tables.getD k zTbl) (i.getD k zRel).rows := by
  obtain ⟨h1, h2⟩ := (confE_zero s i).1 h
  rw [getD_lt _ hk]
  exact (h2 k hk).2

structure OkChg (s : Sch) (c : Chg) : Prop where
  kind : c.kind = 1 ∨ c.kind = 2
  pos : tblAt s.tables c.table = (tpos s c : Int)
  lt : tpos s c < s.tables.length
  tbl : tblOf s c.table = s.tables.getD (tpos s c) zTbl
  up : c.kind = 1 → c.key = [] ∧ rowE (tblOf s c.table) c.row = 0
  del : c.kind = 2 → c.row = [] ∧ keyE (tblOf s c.table) c.key = 0
theorem okChg_of {s : Sch} {c : Chg} (h : chgE s c = 0) : OkChg s c := by
  unfold chgE at h
  split at h
  · cases h
  rename_i g1
  split at h
  · cases h
  rename_i g2
  have hk : c.kind = 1 ∨ c.kind = 2 := by omega
  have hp : tblAt s.tables c.table = (tpos s c : Int) := by unfold tpos; omega
  refine ⟨hk, hp, ?_, rfl, fun e => ?_, fun e => ?_⟩
  · rcases idx_cases (fun t => sEq t.name c.table) s.tables 0 with ⟨e1, _⟩ | ⟨j, hj, e1, _, _⟩
    · have e1 : tblAt s.tables c.table = -1 := e1
      omega
    · have e1 : tblAt s.tables c.table = (j : Int) := by unfold tblAt; simpa using e1
      omega
  · rw [if_pos e] at h
    refine ⟨?_, h⟩
    have : ¬ 0 < c.key.length := fun q => g1 (.inl ⟨e, q⟩)
    exact List.length_eq_zero_iff.1 (by omega)
  · rw [if_neg (by omega)] at h
    refine ⟨?_, h⟩
    have : ¬ 0 < c.row.length := fun q => g1 (.inr (.inl ⟨e, q⟩))
    exact List.length_eq_zero_iff.1 (by omega)

theorem OkRel.upsert {t : Tbl} {rows : List Row} {row : Row} (h : OkRel t rows) (hr : rowE t row = 0) (hn : ¬ 24 < (upsertR t rows row).length) : OkRel t (upsertR t rows row) := by
  obtain ⟨h1, h2, h3⟩ := (okRel_iff _ _).1 h
  refine (okRel_iff _ _).2 ⟨by omega, fun x hx => ?_, upsertR_sr h3⟩
  rcases mem_upsertR hx with rfl | hx
  · exact hr
  · exact h2 x hx
theorem OkRel.delete {t : Tbl} {rows : List Row} (key : Row) (h : OkRel t rows) : OkRel t (deleteR t rows key) := h.sub (deleteR_sub t key rows)

theorem applyC_conf {s : Sch} {i : Inst} {c : Chg} (h : confE s i = 0) (hc : (applyC s i c).1 = 0) : confE s (applyC s i c).2 = 0 := by
  have hl := ((confE_zero s i).1 h).1
  unfold applyC at hc ⊢
  split at hc
  · rename_i g; exact absurd hc g
  rename_i g
  have o := okChg_of (by simpa using g : chgE s c = 0)
  have hr := conf_rel h (k := tpos s c) (by rw [hl]; exact o.lt)
  rw [← o.tbl] at hr
  split at hc
  · rename_i g1
    split at hc
    · cases hc
    · rename_i g2
      rw [if_neg g, if_pos g1, if_neg g2]
      exact setRows_conf h (o.tbl ▸ hr.upsert (o.up g1).2 g2)
  · rename_i g1
    split at hc
    · rename_i g2
      rw [if_neg g, if_neg g1, if_pos g2]
      exact setRows_conf h (o.tbl ▸ hr.delete _)
    · cases hc
theorem applyL_conf {s : Sch} : ∀ {cs : List Chg} {i : Inst}, confE s i = 0 → (applyL s i cs).1 = 0 → confE s (applyL s i cs).2 = 0
  | [], _, h, _ => h
  | c :: cs, i, h, hc => by
    unfold applyL at hc ⊢
    split at hc
    · rename_i g; exact absurd hc g
    · rename_i g
      rw [if_neg g]
      exact applyL_conf (applyC_conf h (by simpa using g)) hc
theorem applyL_bad {s : Sch} : ∀ {cs : List Chg} {i : Inst}, (applyL s i cs).1 ≠ 0 → (applyL s i cs).2 = []
  | [], _, h => absurd rfl h
  | c :: cs, i, h => by
    unfold applyL at h ⊢
    split
    · rfl
    · rename_i g
      rw [if_neg g] at h
      exact applyL_bad h
end Go.Bw
