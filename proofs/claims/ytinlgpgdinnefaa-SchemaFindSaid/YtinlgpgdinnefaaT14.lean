/-
  WHAT IS PROVED HERE, of this translation: bytes_ext, zV_bool, zV_iff, validateCon_sat.
  A theorem that ends in sat says what the function it names returns, whatever the state it is called in; the bounds on its arguments stand ahead of it.
-/
import Derived.Test.YtinlgpgdinnefaaT13
import Derived.Test.YtinlgpgdinnefaaT4
import Derived.Test.YtinlgpgdinnefaaT5
set_option linter.unusedSimpArgs false
set_option linter.unusedVariables false
namespace Go.Bw
open Go.Proofs
attribute [local go_sem ↓] VOps_nil VOps_cons VOp_callJ VVal_callH VOps_guard GOn_tt GOn_ff GOn_tf GOn_ft GOn_not GOn_none HOn_none HOn_tt HOn_ff HOn_tf HOn_ft HOn_not VHead_nil VHead_cons VHead_guard VVal_move VVal_assign VVal_pickE pickK_true pickK_false VVal_not VVal_load loadK_fz loadK_ptr loadK_eptr VVal_fieldAddr VVal_field VVal_indexAddr idxK_sl idxK_ref VVal_index indexK_str VVal_extract VVal_binOp binK_one binK_agg VVal_build VVal_buildSlice VVal_makeFunc VVal_slice sliceK_str sliceK_sl sliceK_ref VVal_slice3 VVal_nilCheck VVal_convert convKk_int convKk_str VVal_len VVal_max VVal_min VOp_assign assignK_int assignK_bool assignK_str assignK_clo assignK_sl assignK_nil assignK_ref assignK_agg assignK_fz assignK_ptr assignK_eptr assignK_any VOp_box VOp_alloc VOp_store storeK_ptr storeK_eptr VOp_buildSlice VOp_append VOp_eqNil VOp_move VOp_pick VOp_not VOp_load VOp_fieldAddr VOp_field VOp_indexAddr VOp_index VOp_extract VOp_binTmp VOp_binInt VOp_binStr VOp_build VOp_makeFunc VOp_slice VOp_nilCheck VOp_convert VOp_len VOp_max VOp_min mO_some mT_some pk_some pk_none look_cons del_cons
attribute [local go_sem] guardB gOf int_bne beq_true beq_false Bool.not_not gSlot pickK_true pickK_false loadK_fz loadK_ptr loadK_eptr idxK_sl idxK_ref indexK_str binK_one binK_agg sliceK_str sliceK_sl sliceK_ref convKk_int convKk_str maxL minL assignK_int assignK_bool assignK_str assignK_clo assignK_sl assignK_nil assignK_ref assignK_agg assignK_fz assignK_ptr assignK_eptr assignK_any nilRow_eq takeRow_eq appended_eq storeK_ptr storeK_eptr store_mk evalO constA mO_some mT_some put_mk putO_some putO_none okD_some okD_none pk_some pk_none look_nil del_nil sput noBox_mk noRow_mk newBox_eq newRow0_eq St.killRow RowC.kill rowMap_mk rowOf ovAll ovAdd ovDel ovGet ovShift dstOf ysOf overlay_nil overlay_nil' overlay A.map V.map L.noPtr L.noPtr0 L.noRow L.noRow0 L.peek L.norm L.flat clos_int clos_bool clos_str clos_sl clos_nil clos_any clos_fz L.clos L.isFz L.kd moveL fieldOff eqCells eqCell eqOp oneOf boolOf intOfA tupOf vOf aggOf isPtrLike isSlice lenKind lenL nL elemTI loadV asV binL intBin intDivL shrL boolBin strBin boundN partCells fillL placesOf setL chunks repL capsOf capL callOf argsOf frzV_int frzV_bool frzV_str frzV_sl frzV_nil frzV_fz frzV_any frzV_own frzV_clo frzV_ref frzV_eptr frzV_ptr frzRow_nil frzN_int frzN_bool frzN_str frzN_sl frzN_nil frzN_any frzN_own List.map_cons List.map_nil List.cons_append List.nil_append List.append_nil List.length_cons List.length_nil List.length_map List.length_append List.headD_cons List.tail_cons List.getElem?_cons_zero List.getElem?_cons_succ List.drop_zero List.drop_succ_cons List.drop_nil List.take_succ_cons List.take_zero List.take_nil List.take_length List.filter_cons List.filter_nil List.elem_cons List.elem_nil List.all_cons List.all_nil Option.bind_some Option.map_some Option.some.injEq bne_self_eq_false beq_self_eq_true if_true if_false Bool.false_eq_true true_and and_true and_self Nat.zero_add Nat.add_zero Nat.zero_le Int.toNat_natCast Int.toNat_zero Option.isSome_some List.getElem?_toArray decide_true decide_false ge_iff_le gt_iff_lt Bool.not_true Bool.not_false Nat.le_refl Bool.and_true Bool.true_and Bool.and_false Bool.false_and eVal eRow eRow1 eRows eInt1 eInts eCol eCols eTbl eTbls eFK eFKs eCon eCons eSch eRel eInst eChg eChgs szOf getD_map_lt wrap_nat wrap_in List.take_of_length_le frz_eVal frz_eRow1 frz_eInt1 frz_eCol frz_eTbl frz_eFK frz_eCon frz_eRel frz_eChg noOwn_nil noOwn_cons noOwn_append L.isOwn noOwn_eVal noOwn_eRow1 noOwn_eInt1 noOwn_eCol noOwn_eTbl noOwn_eFK noOwn_eCon noOwn_eRel noOwn_eChg convK_2 convK_3 convK_5 convK_12 convK_21 convK_28 convK_156 convK_164 TT_2 TT_3 TT_4 TT_5 TT_9 TT_12 TT_13 TT_21 TT_22 TT_23 TT_24 TT_25 TT_26 TT_28 TT_30 TT_31 TT_32 TT_33 TT_37 TT_38 TT_41 TT_42 TT_43 TT_54 TT_55 TT_58 TT_59 TT_60 TT_61 TT_65 TT_66 TT_70 TT_71 TT_78 TT_82 TT_83 TT_102 TT_126 TT_130 TT_156 TT_164 boolTy_4 eqK_38 eqK_59 eqK_61
attribute [local congr] VOps.congr VHead.congr VOp.congr VVal.congr pk.congr assignK.congr storeK.congr loadK.congr idxK.congr sliceK.congr indexK.congr binK.congr convKk.congr

def conE (s : Sch) (c : Con) : Int :=
  if tblAt s.tables c.table < 0 then 4 else
  let cols := (s.tables.getD (tblAt s.tables c.table).toNat zTbl).cols
  if c.left < 0 ∨ (cols.length : Int) ≤ c.left ∨ opOk c.op = false ∨ c.right < -1 ∨ (cols.length : Int) ≤ c.right ∨ (0 ≤ c.right ∧ c.value ≠ zV) then 3
  else if 0 ≤ c.right then (if (cols.getD c.left.toNat zCol).kind ≠ (cols.getD c.right.toNat zCol).kind then 7 else 0)
  else if c.value.kind ≠ (cols.getD c.left.toNat zCol).kind then 7 else valE c.value

theorem bytes_ext {a b : ByteArray} (h : a.toList = b.toList) : a = b := by
  rw [ByteArray.toList_eq, ByteArray.toList_eq] at h
  obtain ⟨⟨x⟩⟩ := a
  obtain ⟨⟨y⟩⟩ := b
  have h : x = y := h
  rw [h]
theorem zV_bool {v : Val} (h : v ≠ zV) : (v.kind == 0 && (v.int == 0 && (v.text.toList == ByteArray.empty.toList && true))) = false := by
  cases hb : (v.kind == 0 && (v.int == 0 && (v.text.toList == ByteArray.empty.toList && true))) with
  | false => rfl
  | true =>
    exfalso
    simp only [Bool.and_eq_true, beq_iff_eq, and_true] at hb
    obtain ⟨a, b, c⟩ := hb
    apply h
    cases v
    simp only at a b c
    subst a b
    rw [bytes_ext c]
    rfl

theorem zV_iff {v : Val} : v = zV ↔ v.kind = 0 ∧ v.int = 0 ∧ v.text.toList = ByteArray.empty.toList := by
  constructor
  · rintro rfl
    exact ⟨rfl, rfl, rfl⟩
  · rintro ⟨a, b, c⟩
    cases v
    simp only at a b c
    subst a b
    rw [bytes_ext c]
    rfl
set_option maxHeartbeats 8000000 in
theorem validateCon_sat (s : Sch) (c : Con) (h1 : s.tables.length ≤ 140737488355328) (h2 : ∀ t ∈ s.tables, t.cols.length ≤ 140737488355328) :
    Sat Try.prog 53 [.agg (eSch s), .agg (eCon c)] (.v (oI (conE s c))) := by
  rcases idx_cases (fun t => sEq t.name c.table) s.tables 0 with ⟨e1, _⟩ | ⟨i, hi, e1, _⟩
  · have e1 : tblAt s.tables c.table = -1 := e1
    refine sat_of_body tyOk Try.func53 rfl (by kernel_rfl) ⟨Nat.le_of_ble_eq_true rfl, Nat.le_of_ble_eq_true rfl⟩ fun w0 m0 F0 => ?_
    simp only [Try.ntmps53, envOf, Nat.reduceAdd]
    repeat' (first
      | ((first
        | with_reducible refine AWP.regionL tyOk fun K hK => ?_
        | ((first | with_reducible refine GOn.isT ?_ ?_ | with_reducible refine HOn.isT ?_ ?_ | with_reducible refine pickK.isT ?_ ?_); focus (first | with_reducible rfl | with_reducible assumption | (simp only [decide_eq_true_eq, decide_eq_false_iff_not, beq_iff_eq, beq_eq_false_iff_ne, Bool.not_eq_true', Bool.not_eq_false', Bool.and_eq_true, Bool.or_eq_true, Bool.and_eq_false_imp, Bool.or_eq_false_iff, Bool.not_eq_true, Bool.not_eq_false, Int.not_lt, Int.not_le, ne_eq, List.length_map, List.length_append, List.length_cons, List.length_nil, List.length_take, List.length_drop, List.length_set, Int.natCast_add, Int.toNat_natCast, Nat.zero_add]; first | done | with_reducible assumption | omega)))
        | ((first | with_reducible refine GOn.isF ?_ ?_ | with_reducible refine HOn.isF ?_ ?_ | with_reducible refine pickK.isF ?_ ?_); focus (first | with_reducible rfl | with_reducible assumption | (simp only [decide_eq_true_eq, decide_eq_false_iff_not, beq_iff_eq, beq_eq_false_iff_ne, Bool.not_eq_true', Bool.not_eq_false', Bool.and_eq_true, Bool.or_eq_true, Bool.and_eq_false_imp, Bool.or_eq_false_iff, Bool.not_eq_true, Bool.not_eq_false, Int.not_lt, Int.not_le, ne_eq, List.length_map, List.length_append, List.length_cons, List.length_nil, List.length_take, List.length_drop, List.length_set, Int.natCast_add, Int.toNat_natCast, Nat.zero_add]; first | done | with_reducible assumption | omega)))
        | ((first | with_reducible refine GOn.split (fun h => ?_) (fun h => ?_) | with_reducible refine HOn.split (fun h => ?_) (fun h => ?_) | with_reducible refine pickK.split (fun h => ?_) (fun h => ?_)) <;> (try simp only [decide_eq_true_eq, decide_eq_false_iff_not, beq_iff_eq, beq_eq_false_iff_ne, Bool.not_eq_true', Bool.not_eq_false', Bool.and_eq_true, Bool.or_eq_true, Bool.and_eq_false_imp, Bool.or_eq_false_iff, Bool.not_eq_true, Bool.not_eq_false, Int.not_lt, Int.not_le, ne_eq] at h))
        | with_reducible refine AWP.drawAll tyOk mixed 6 (by kernel_rfl) fun K hK => ?_
        | ((with_reducible refine CallJ.is ?_); (first | refine CallJ.pure (findTable_sat _ _ h1) ?_ | refine CallJ.pure (satisfies_sat zV zV _) ?_ | refine CallJ.pure (validate_sat _) ?_ | ((first | refine CallJ.lent (findTable_sat _ _ h1) ?_ ?_; focus (simp -dsimp (disch := (first | omega | (simp only [List.length_map, List.length_append, List.length_cons, List.length_nil, List.length_take, List.length_drop, List.length_set, Int.natCast_add, Int.toNat_natCast, Nat.zero_add]; omega))) only [go_sem, ↓reduceIte, Nat.reduceLT, Nat.reduceLeDiff, Nat.reduceEqDiff, Nat.reduceAdd, Nat.reduceMul, Nat.reduceSub, Nat.reduceBEq, Nat.reduceBNe, Int.reduceBEq, Int.reduceLT, Int.reduceLE, reduceCtorEq, Int.reduceToNat, e1, mx0_neg]; done) | refine CallJ.lent (satisfies_sat zV zV _) ?_ ?_; focus (simp -dsimp (disch := (first | omega | (simp only [List.length_map, List.length_append, List.length_cons, List.length_nil, List.length_take, List.length_drop, List.length_set, Int.natCast_add, Int.toNat_natCast, Nat.zero_add]; omega))) only [go_sem, ↓reduceIte, Nat.reduceLT, Nat.reduceLeDiff, Nat.reduceEqDiff, Nat.reduceAdd, Nat.reduceMul, Nat.reduceSub, Nat.reduceBEq, Nat.reduceBNe, Int.reduceBEq, Int.reduceLT, Int.reduceLE, reduceCtorEq, Int.reduceToNat, e1, mx0_neg]; done) | refine CallJ.lent (validate_sat _) ?_ ?_; focus (simp -dsimp (disch := (first | omega | (simp only [List.length_map, List.length_append, List.length_cons, List.length_nil, List.length_take, List.length_drop, List.length_set, Int.natCast_add, Int.toNat_natCast, Nat.zero_add]; omega))) only [go_sem, ↓reduceIte, Nat.reduceLT, Nat.reduceLeDiff, Nat.reduceEqDiff, Nat.reduceAdd, Nat.reduceMul, Nat.reduceSub, Nat.reduceBEq, Nat.reduceBNe, Int.reduceBEq, Int.reduceLT, Int.reduceLE, reduceCtorEq, Int.reduceToNat, e1, mx0_neg]; done)))))
        | ((with_reducible refine CallH.is ?_); (first | refine CallH.intro (findTable_sat _ _ h1) ?_ | refine CallH.intro (satisfies_sat zV zV _) ?_ | refine CallH.intro (validate_sat _) ?_))) <;> simp -dsimp (disch := (first | omega | (simp only [List.length_map, List.length_append, List.length_cons, List.length_nil, List.length_take, List.length_drop, List.length_set, Int.natCast_add, Int.toNat_natCast, Nat.zero_add]; omega))) only [go_sem, ↓reduceIte, Nat.reduceLT, Nat.reduceLeDiff, Nat.reduceEqDiff, Nat.reduceAdd, Nat.reduceMul, Nat.reduceSub, Nat.reduceBEq, Nat.reduceBNe, Int.reduceBEq, Int.reduceLT, Int.reduceLE, reduceCtorEq, Int.reduceToNat, e1, mx0_neg])
      | ((with_reducible refine hK _ ?_); clear hK K)
      | with_reducible refine AWP.seq ?_
      | with_reducible refine thenQ_normal ?_
      | with_reducible refine AWP.block ?_
      | with_reducible refine AWP.skip ?_
      | with_reducible refine AWP.ret ?_
      | with_reducible refine thenQ_ret ?_
      | with_reducible refine blockQ_ret ?_
      | with_reducible refine AWP.exit ?_
      | with_reducible refine thenQ_exit ?_
      | with_reducible refine blockQ_normal ?_
      | with_reducible refine blockQ_exit ?_
      | refine blockQ_exit_ne rfl ?_
      | (with_reducible refine And.intro (by (first | with_reducible rfl | with_reducible assumption | omega | (simp only [List.length_map, List.length_append, List.length_cons, List.length_nil, List.length_take, List.length_drop, List.length_set, Int.natCast_add, Int.toNat_natCast, Nat.zero_add]; first | done | with_reducible rfl | omega) | (simp only [decide_eq_true_eq, decide_eq_false_iff_not, beq_iff_eq, beq_eq_false_iff_ne, Bool.not_eq_true', Bool.not_eq_false', Bool.and_eq_true, Bool.or_eq_true, Bool.and_eq_false_imp, Bool.or_eq_false_iff, Bool.not_eq_true, Bool.not_eq_false, Int.not_lt, Int.not_le, ne_eq, List.length_map, List.length_append, List.length_cons, List.length_nil, List.length_take, List.length_drop, List.length_set, Int.natCast_add, Int.toNat_natCast, Nat.zero_add]; first | done | with_reducible assumption | omega))) ?_)
      | ((with_reducible refine AWP.condG (T := TT) (b := ?_) ?_ ?_); rotate_left; exact rfl)
      | with_reducible refine CondG.t ?_
      | with_reducible refine CondG.f ?_
      | with_reducible refine CondG.not ?_
      | ((first | with_reducible refine CondG.isT ?_ ?_); focus (first | with_reducible rfl | with_reducible assumption | (simp only [decide_eq_true_eq, decide_eq_false_iff_not, beq_iff_eq, beq_eq_false_iff_ne, Bool.not_eq_true', Bool.not_eq_false', Bool.and_eq_true, Bool.or_eq_true, Bool.and_eq_false_imp, Bool.or_eq_false_iff, Bool.not_eq_true, Bool.not_eq_false, Int.not_lt, Int.not_le, ne_eq, List.length_map, List.length_append, List.length_cons, List.length_nil, List.length_take, List.length_drop, List.length_set, Int.natCast_add, Int.toNat_natCast, Nat.zero_add]; first | done | with_reducible assumption | omega)))
      | ((first | with_reducible refine CondG.isF ?_ ?_); focus (first | with_reducible rfl | with_reducible assumption | (simp only [decide_eq_true_eq, decide_eq_false_iff_not, beq_iff_eq, beq_eq_false_iff_ne, Bool.not_eq_true', Bool.not_eq_false', Bool.and_eq_true, Bool.or_eq_true, Bool.and_eq_false_imp, Bool.or_eq_false_iff, Bool.not_eq_true, Bool.not_eq_false, Int.not_lt, Int.not_le, ne_eq, List.length_map, List.length_append, List.length_cons, List.length_nil, List.length_take, List.length_drop, List.length_set, Int.natCast_add, Int.toNat_natCast, Nat.zero_add]; first | done | with_reducible assumption | omega)))
      | ((with_reducible refine CondG.split (fun h => ?_) (fun h => ?_)) <;> (try simp only [decide_eq_true_eq, decide_eq_false_iff_not, beq_iff_eq, beq_eq_false_iff_ne, Bool.not_eq_true', Bool.not_eq_false', Bool.and_eq_true, Bool.or_eq_true, Bool.and_eq_false_imp, Bool.or_eq_false_iff, Bool.not_eq_true, Bool.not_eq_false, Int.not_lt, Int.not_le, ne_eq] at h)))
    simp -dsimp (disch := (first | omega | (simp only [List.length_map, List.length_append, List.length_cons, List.length_nil, List.length_take, List.length_drop, List.length_set, Int.natCast_add, Int.toNat_natCast, Nat.zero_add]; omega))) only [retQ, Try.results53, resVals, cellRV, resOf, St.rest, St.freeze, keepL_nil, keepL_nil', keepL_cons, dropL_nil, dropL_nil', dropL_cons, topL_int, topL_bool, topL_str, topL_sl, topL_nil, topL_own, topL_fz, topL_any, topL_ref, topL_ptr, topL_eptr, allIn_nil, allIn_cons, go_sem, ↓reduceIte, Nat.reduceLT, Nat.reduceLeDiff, Nat.reduceEqDiff, Nat.reduceAdd, Nat.reduceMul, Nat.reduceSub, Nat.reduceBEq, Nat.reduceBNe, Int.reduceBEq, Int.reduceLT, Int.reduceLE, reduceCtorEq, Int.reduceToNat]
    simp [conE, e1]
  have e1 : tblAt s.tables c.table = (i : Int) := by unfold tblAt; simpa using e1
  have g1 : s.tables.getD i zTbl = s.tables[i] := by simp [List.getD, hi]
  have spec : conE s c = if c.left < 0 ∨ (s.tables[i].cols.length : Int) ≤ c.left ∨ opOk c.op = false ∨ c.right < -1 ∨ (s.tables[i].cols.length : Int) ≤ c.right ∨ (0 ≤ c.right ∧ c.value ≠ zV) then 3
      else if 0 ≤ c.right then (if (s.tables[i].cols.getD c.left.toNat zCol).kind ≠ (s.tables[i].cols.getD c.right.toNat zCol).kind then 7 else 0)
      else if c.value.kind ≠ (s.tables[i].cols.getD c.left.toNat zCol).kind then 7 else valE c.value := by
    simp only [conE, e1, Int.toNat_natCast, g1]
    rw [if_neg (by omega)]
  rw [spec]
  cases ho : opOk c.op with
  | false =>
    have e3 : satE c.op = 3 := by simp [satE, ho]
    refine sat_of_body tyOk Try.func53 rfl (by kernel_rfl) ⟨Nat.le_of_ble_eq_true rfl, Nat.le_of_ble_eq_true rfl⟩ fun w0 m0 F0 => ?_
    simp only [Try.ntmps53, envOf, Nat.reduceAdd]
    repeat' (first
      | ((first
        | with_reducible refine AWP.regionL tyOk fun K hK => ?_
        | ((first | with_reducible refine GOn.isT ?_ ?_ | with_reducible refine HOn.isT ?_ ?_ | with_reducible refine pickK.isT ?_ ?_); focus (first | with_reducible rfl | with_reducible assumption | (simp only [decide_eq_true_eq, decide_eq_false_iff_not, beq_iff_eq, beq_eq_false_iff_ne, Bool.not_eq_true', Bool.not_eq_false', Bool.and_eq_true, Bool.or_eq_true, Bool.and_eq_false_imp, Bool.or_eq_false_iff, Bool.not_eq_true, Bool.not_eq_false, Int.not_lt, Int.not_le, ne_eq, List.length_map, List.length_append, List.length_cons, List.length_nil, List.length_take, List.length_drop, List.length_set, Int.natCast_add, Int.toNat_natCast, Nat.zero_add]; first | done | with_reducible assumption | omega)))
        | ((first | with_reducible refine GOn.isF ?_ ?_ | with_reducible refine HOn.isF ?_ ?_ | with_reducible refine pickK.isF ?_ ?_); focus (first | with_reducible rfl | with_reducible assumption | (simp only [decide_eq_true_eq, decide_eq_false_iff_not, beq_iff_eq, beq_eq_false_iff_ne, Bool.not_eq_true', Bool.not_eq_false', Bool.and_eq_true, Bool.or_eq_true, Bool.and_eq_false_imp, Bool.or_eq_false_iff, Bool.not_eq_true, Bool.not_eq_false, Int.not_lt, Int.not_le, ne_eq, List.length_map, List.length_append, List.length_cons, List.length_nil, List.length_take, List.length_drop, List.length_set, Int.natCast_add, Int.toNat_natCast, Nat.zero_add]; first | done | with_reducible assumption | omega)))
        | ((first | with_reducible refine GOn.split (fun h => ?_) (fun h => ?_) | with_reducible refine HOn.split (fun h => ?_) (fun h => ?_) | with_reducible refine pickK.split (fun h => ?_) (fun h => ?_)) <;> (try simp only [decide_eq_true_eq, decide_eq_false_iff_not, beq_iff_eq, beq_eq_false_iff_ne, Bool.not_eq_true', Bool.not_eq_false', Bool.and_eq_true, Bool.or_eq_true, Bool.and_eq_false_imp, Bool.or_eq_false_iff, Bool.not_eq_true, Bool.not_eq_false, Int.not_lt, Int.not_le, ne_eq] at h))
        | with_reducible refine AWP.drawAll tyOk mixed 6 (by kernel_rfl) fun K hK => ?_
        | ((with_reducible refine CallJ.is ?_); (first | refine CallJ.pure (findTable_sat _ _ h1) ?_ | refine CallJ.pure (satisfies_sat zV zV _) ?_ | refine CallJ.pure (validate_sat _) ?_ | ((first | refine CallJ.lent (findTable_sat _ _ h1) ?_ ?_; focus (simp -dsimp (disch := (first | omega | (simp only [List.length_map, List.length_append, List.length_cons, List.length_nil, List.length_take, List.length_drop, List.length_set, Int.natCast_add, Int.toNat_natCast, Nat.zero_add]; omega))) only [go_sem, ↓reduceIte, Nat.reduceLT, Nat.reduceLeDiff, Nat.reduceEqDiff, Nat.reduceAdd, Nat.reduceMul, Nat.reduceSub, Nat.reduceBEq, Nat.reduceBNe, Int.reduceBEq, Int.reduceLT, Int.reduceLE, reduceCtorEq, Int.reduceToNat, e1, mx0_neg, mx0_nat, e3]; done) | refine CallJ.lent (satisfies_sat zV zV _) ?_ ?_; focus (simp -dsimp (disch := (first | omega | (simp only [List.length_map, List.length_append, List.length_cons, List.length_nil, List.length_take, List.length_drop, List.length_set, Int.natCast_add, Int.toNat_natCast, Nat.zero_add]; omega))) only [go_sem, ↓reduceIte, Nat.reduceLT, Nat.reduceLeDiff, Nat.reduceEqDiff, Nat.reduceAdd, Nat.reduceMul, Nat.reduceSub, Nat.reduceBEq, Nat.reduceBNe, Int.reduceBEq, Int.reduceLT, Int.reduceLE, reduceCtorEq, Int.reduceToNat, e1, mx0_neg, mx0_nat, e3]; done) | refine CallJ.lent (validate_sat _) ?_ ?_; focus (simp -dsimp (disch := (first | omega | (simp only [List.length_map, List.length_append, List.length_cons, List.length_nil, List.length_take, List.length_drop, List.length_set, Int.natCast_add, Int.toNat_natCast, Nat.zero_add]; omega))) only [go_sem, ↓reduceIte, Nat.reduceLT, Nat.reduceLeDiff, Nat.reduceEqDiff, Nat.reduceAdd, Nat.reduceMul, Nat.reduceSub, Nat.reduceBEq, Nat.reduceBNe, Int.reduceBEq, Int.reduceLT, Int.reduceLE, reduceCtorEq, Int.reduceToNat, e1, mx0_neg, mx0_nat, e3]; done)))))
        | ((with_reducible refine CallH.is ?_); (first | refine CallH.intro (findTable_sat _ _ h1) ?_ | refine CallH.intro (satisfies_sat zV zV _) ?_ | refine CallH.intro (validate_sat _) ?_))) <;> simp -dsimp (disch := (first | omega | (simp only [List.length_map, List.length_append, List.length_cons, List.length_nil, List.length_take, List.length_drop, List.length_set, Int.natCast_add, Int.toNat_natCast, Nat.zero_add]; omega))) only [go_sem, ↓reduceIte, Nat.reduceLT, Nat.reduceLeDiff, Nat.reduceEqDiff, Nat.reduceAdd, Nat.reduceMul, Nat.reduceSub, Nat.reduceBEq, Nat.reduceBNe, Int.reduceBEq, Int.reduceLT, Int.reduceLE, reduceCtorEq, Int.reduceToNat, e1, mx0_neg, mx0_nat, e3])
      | ((with_reducible refine hK _ ?_); clear hK K)
      | with_reducible refine AWP.seq ?_
      | with_reducible refine thenQ_normal ?_
      | with_reducible refine AWP.block ?_
      | with_reducible refine AWP.skip ?_
      | with_reducible refine AWP.ret ?_
      | with_reducible refine thenQ_ret ?_
      | with_reducible refine blockQ_ret ?_
      | with_reducible refine AWP.exit ?_
      | with_reducible refine thenQ_exit ?_
      | with_reducible refine blockQ_normal ?_
      | with_reducible refine blockQ_exit ?_
      | refine blockQ_exit_ne rfl ?_
      | (with_reducible refine And.intro (by (first | with_reducible rfl | with_reducible assumption | omega | (simp only [List.length_map, List.length_append, List.length_cons, List.length_nil, List.length_take, List.length_drop, List.length_set, Int.natCast_add, Int.toNat_natCast, Nat.zero_add]; first | done | with_reducible rfl | omega) | (simp only [decide_eq_true_eq, decide_eq_false_iff_not, beq_iff_eq, beq_eq_false_iff_ne, Bool.not_eq_true', Bool.not_eq_false', Bool.and_eq_true, Bool.or_eq_true, Bool.and_eq_false_imp, Bool.or_eq_false_iff, Bool.not_eq_true, Bool.not_eq_false, Int.not_lt, Int.not_le, ne_eq, List.length_map, List.length_append, List.length_cons, List.length_nil, List.length_take, List.length_drop, List.length_set, Int.natCast_add, Int.toNat_natCast, Nat.zero_add]; first | done | with_reducible assumption | omega))) ?_)
      | ((with_reducible refine AWP.condG (T := TT) (b := ?_) ?_ ?_); rotate_left; exact rfl)
      | with_reducible refine CondG.t ?_
      | with_reducible refine CondG.f ?_
      | with_reducible refine CondG.not ?_
      | ((first | with_reducible refine CondG.isT ?_ ?_); focus (first | with_reducible rfl | with_reducible assumption | (simp only [decide_eq_true_eq, decide_eq_false_iff_not, beq_iff_eq, beq_eq_false_iff_ne, Bool.not_eq_true', Bool.not_eq_false', Bool.and_eq_true, Bool.or_eq_true, Bool.and_eq_false_imp, Bool.or_eq_false_iff, Bool.not_eq_true, Bool.not_eq_false, Int.not_lt, Int.not_le, ne_eq, List.length_map, List.length_append, List.length_cons, List.length_nil, List.length_take, List.length_drop, List.length_set, Int.natCast_add, Int.toNat_natCast, Nat.zero_add]; first | done | with_reducible assumption | omega)))
      | ((first | with_reducible refine CondG.isF ?_ ?_); focus (first | with_reducible rfl | with_reducible assumption | (simp only [decide_eq_true_eq, decide_eq_false_iff_not, beq_iff_eq, beq_eq_false_iff_ne, Bool.not_eq_true', Bool.not_eq_false', Bool.and_eq_true, Bool.or_eq_true, Bool.and_eq_false_imp, Bool.or_eq_false_iff, Bool.not_eq_true, Bool.not_eq_false, Int.not_lt, Int.not_le, ne_eq, List.length_map, List.length_append, List.length_cons, List.length_nil, List.length_take, List.length_drop, List.length_set, Int.natCast_add, Int.toNat_natCast, Nat.zero_add]; first | done | with_reducible assumption | omega)))
      | ((with_reducible refine CondG.split (fun h => ?_) (fun h => ?_)) <;> (try simp only [decide_eq_true_eq, decide_eq_false_iff_not, beq_iff_eq, beq_eq_false_iff_ne, Bool.not_eq_true', Bool.not_eq_false', Bool.and_eq_true, Bool.or_eq_true, Bool.and_eq_false_imp, Bool.or_eq_false_iff, Bool.not_eq_true, Bool.not_eq_false, Int.not_lt, Int.not_le, ne_eq] at h)))
    all_goals simp -dsimp (disch := (first | omega | (simp only [List.length_map, List.length_append, List.length_cons, List.length_nil, List.length_take, List.length_drop, List.length_set, Int.natCast_add, Int.toNat_natCast, Nat.zero_add]; omega))) only [retQ, Try.results53, resVals, cellRV, resOf, St.rest, St.freeze, keepL_nil, keepL_nil', keepL_cons, dropL_nil, dropL_nil', dropL_cons, topL_int, topL_bool, topL_str, topL_sl, topL_nil, topL_own, topL_fz, topL_any, topL_ref, topL_ptr, topL_eptr, allIn_nil, allIn_cons, go_sem, ↓reduceIte, Nat.reduceLT, Nat.reduceLeDiff, Nat.reduceEqDiff, Nat.reduceAdd, Nat.reduceMul, Nat.reduceSub, Nat.reduceBEq, Nat.reduceBNe, Int.reduceBEq, Int.reduceLT, Int.reduceLE, reduceCtorEq, Int.reduceToNat]
    all_goals
      (simp (disch := omega) only [ho, ne_eq, zV_iff, getD_lt]
       (repeat' split) <;> first
         | rfl
         | omega
         | (exfalso; omega)
         | (exfalso; simp_all; done)
         | (simp_all; done)
         | (simp_all; omega)
         | (exfalso; simp_all; omega))
  | true =>
    have e3 : satE c.op = 0 := by simp [satE, ho]
    refine sat_of_body tyOk Try.func53 rfl (by kernel_rfl) ⟨Nat.le_of_ble_eq_true rfl, Nat.le_of_ble_eq_true rfl⟩ fun w0 m0 F0 => ?_
    simp only [Try.ntmps53, envOf, Nat.reduceAdd]
    repeat' (first
      | ((first
        | with_reducible refine AWP.regionL tyOk fun K hK => ?_
        | ((first | with_reducible refine GOn.isT ?_ ?_ | with_reducible refine HOn.isT ?_ ?_ | with_reducible refine pickK.isT ?_ ?_); focus (first | with_reducible rfl | with_reducible assumption | (simp only [decide_eq_true_eq, decide_eq_false_iff_not, beq_iff_eq, beq_eq_false_iff_ne, Bool.not_eq_true', Bool.not_eq_false', Bool.and_eq_true, Bool.or_eq_true, Bool.and_eq_false_imp, Bool.or_eq_false_iff, Bool.not_eq_true, Bool.not_eq_false, Int.not_lt, Int.not_le, ne_eq, List.length_map, List.length_append, List.length_cons, List.length_nil, List.length_take, List.length_drop, List.length_set, Int.natCast_add, Int.toNat_natCast, Nat.zero_add]; first | done | with_reducible assumption | omega)))
        | ((first | with_reducible refine GOn.isF ?_ ?_ | with_reducible refine HOn.isF ?_ ?_ | with_reducible refine pickK.isF ?_ ?_); focus (first | with_reducible rfl | with_reducible assumption | (simp only [decide_eq_true_eq, decide_eq_false_iff_not, beq_iff_eq, beq_eq_false_iff_ne, Bool.not_eq_true', Bool.not_eq_false', Bool.and_eq_true, Bool.or_eq_true, Bool.and_eq_false_imp, Bool.or_eq_false_iff, Bool.not_eq_true, Bool.not_eq_false, Int.not_lt, Int.not_le, ne_eq, List.length_map, List.length_append, List.length_cons, List.length_nil, List.length_take, List.length_drop, List.length_set, Int.natCast_add, Int.toNat_natCast, Nat.zero_add]; first | done | with_reducible assumption | omega)))
        | ((first | with_reducible refine GOn.split (fun h => ?_) (fun h => ?_) | with_reducible refine HOn.split (fun h => ?_) (fun h => ?_) | with_reducible refine pickK.split (fun h => ?_) (fun h => ?_)) <;> (try simp only [decide_eq_true_eq, decide_eq_false_iff_not, beq_iff_eq, beq_eq_false_iff_ne, Bool.not_eq_true', Bool.not_eq_false', Bool.and_eq_true, Bool.or_eq_true, Bool.and_eq_false_imp, Bool.or_eq_false_iff, Bool.not_eq_true, Bool.not_eq_false, Int.not_lt, Int.not_le, ne_eq] at h))
        | with_reducible refine AWP.drawAll tyOk mixed 6 (by kernel_rfl) fun K hK => ?_
        | ((with_reducible refine CallJ.is ?_); (first | refine CallJ.pure (findTable_sat _ _ h1) ?_ | refine CallJ.pure (satisfies_sat zV zV _) ?_ | refine CallJ.pure (validate_sat _) ?_ | ((first | refine CallJ.lent (findTable_sat _ _ h1) ?_ ?_; focus (simp -dsimp (disch := (first | omega | (simp only [List.length_map, List.length_append, List.length_cons, List.length_nil, List.length_take, List.length_drop, List.length_set, Int.natCast_add, Int.toNat_natCast, Nat.zero_add]; omega))) only [go_sem, ↓reduceIte, Nat.reduceLT, Nat.reduceLeDiff, Nat.reduceEqDiff, Nat.reduceAdd, Nat.reduceMul, Nat.reduceSub, Nat.reduceBEq, Nat.reduceBNe, Int.reduceBEq, Int.reduceLT, Int.reduceLE, reduceCtorEq, Int.reduceToNat, e1, mx0_neg, mx0_nat, e3]; done) | refine CallJ.lent (satisfies_sat zV zV _) ?_ ?_; focus (simp -dsimp (disch := (first | omega | (simp only [List.length_map, List.length_append, List.length_cons, List.length_nil, List.length_take, List.length_drop, List.length_set, Int.natCast_add, Int.toNat_natCast, Nat.zero_add]; omega))) only [go_sem, ↓reduceIte, Nat.reduceLT, Nat.reduceLeDiff, Nat.reduceEqDiff, Nat.reduceAdd, Nat.reduceMul, Nat.reduceSub, Nat.reduceBEq, Nat.reduceBNe, Int.reduceBEq, Int.reduceLT, Int.reduceLE, reduceCtorEq, Int.reduceToNat, e1, mx0_neg, mx0_nat, e3]; done) | refine CallJ.lent (validate_sat _) ?_ ?_; focus (simp -dsimp (disch := (first | omega | (simp only [List.length_map, List.length_append, List.length_cons, List.length_nil, List.length_take, List.length_drop, List.length_set, Int.natCast_add, Int.toNat_natCast, Nat.zero_add]; omega))) only [go_sem, ↓reduceIte, Nat.reduceLT, Nat.reduceLeDiff, Nat.reduceEqDiff, Nat.reduceAdd, Nat.reduceMul, Nat.reduceSub, Nat.reduceBEq, Nat.reduceBNe, Int.reduceBEq, Int.reduceLT, Int.reduceLE, reduceCtorEq, Int.reduceToNat, e1, mx0_neg, mx0_nat, e3]; done)))))
        | ((with_reducible refine CallH.is ?_); (first | refine CallH.intro (findTable_sat _ _ h1) ?_ | refine CallH.intro (satisfies_sat zV zV _) ?_ | refine CallH.intro (validate_sat _) ?_))) <;> simp -dsimp (disch := (first | omega | (simp only [List.length_map, List.length_append, List.length_cons, List.length_nil, List.length_take, List.length_drop, List.length_set, Int.natCast_add, Int.toNat_natCast, Nat.zero_add]; omega))) only [go_sem, ↓reduceIte, Nat.reduceLT, Nat.reduceLeDiff, Nat.reduceEqDiff, Nat.reduceAdd, Nat.reduceMul, Nat.reduceSub, Nat.reduceBEq, Nat.reduceBNe, Int.reduceBEq, Int.reduceLT, Int.reduceLE, reduceCtorEq, Int.reduceToNat, e1, mx0_neg, mx0_nat, e3])
      | ((with_reducible refine hK _ ?_); clear hK K)
      | with_reducible refine AWP.seq ?_
      | with_reducible refine thenQ_normal ?_
      | with_reducible refine AWP.block ?_
      | with_reducible refine AWP.skip ?_
      | with_reducible refine AWP.ret ?_
      | with_reducible refine thenQ_ret ?_
      | with_reducible refine blockQ_ret ?_
      | with_reducible refine AWP.exit ?_
      | with_reducible refine thenQ_exit ?_
      | with_reducible refine blockQ_normal ?_
      | with_reducible refine blockQ_exit ?_
      | refine blockQ_exit_ne rfl ?_
      | (with_reducible refine And.intro (by (first | with_reducible rfl | with_reducible assumption | omega | (simp only [List.length_map, List.length_append, List.length_cons, List.length_nil, List.length_take, List.length_drop, List.length_set, Int.natCast_add, Int.toNat_natCast, Nat.zero_add]; first | done | with_reducible rfl | omega) | (simp only [decide_eq_true_eq, decide_eq_false_iff_not, beq_iff_eq, beq_eq_false_iff_ne, Bool.not_eq_true', Bool.not_eq_false', Bool.and_eq_true, Bool.or_eq_true, Bool.and_eq_false_imp, Bool.or_eq_false_iff, Bool.not_eq_true, Bool.not_eq_false, Int.not_lt, Int.not_le, ne_eq, List.length_map, List.length_append, List.length_cons, List.length_nil, List.length_take, List.length_drop, List.length_set, Int.natCast_add, Int.toNat_natCast, Nat.zero_add]; first | done | with_reducible assumption | omega))) ?_)
      | ((with_reducible refine AWP.condG (T := TT) (b := ?_) ?_ ?_); rotate_left; exact rfl)
      | with_reducible refine CondG.t ?_
      | with_reducible refine CondG.f ?_
      | with_reducible refine CondG.not ?_
      | ((first | with_reducible refine CondG.isT ?_ ?_); focus (first | with_reducible rfl | with_reducible assumption | (simp only [decide_eq_true_eq, decide_eq_false_iff_not, beq_iff_eq, beq_eq_false_iff_ne, Bool.not_eq_true', Bool.not_eq_false', Bool.and_eq_true, Bool.or_eq_true, Bool.and_eq_false_imp, Bool.or_eq_false_iff, Bool.not_eq_true, Bool.not_eq_false, Int.not_lt, Int.not_le, ne_eq, List.length_map, List.length_append, List.length_cons, List.length_nil, List.length_take, List.length_drop, List.length_set, Int.natCast_add, Int.toNat_natCast, Nat.zero_add]; first | done | with_reducible assumption | omega)))
      | ((first | with_reducible refine CondG.isF ?_ ?_); focus (first | with_reducible rfl | with_reducible assumption | (simp only [decide_eq_true_eq, decide_eq_false_iff_not, beq_iff_eq, beq_eq_false_iff_ne, Bool.not_eq_true', Bool.not_eq_false', Bool.and_eq_true, Bool.or_eq_true, Bool.and_eq_false_imp, Bool.or_eq_false_iff, Bool.not_eq_true, Bool.not_eq_false, Int.not_lt, Int.not_le, ne_eq, List.length_map, List.length_append, List.length_cons, List.length_nil, List.length_take, List.length_drop, List.length_set, Int.natCast_add, Int.toNat_natCast, Nat.zero_add]; first | done | with_reducible assumption | omega)))
      | ((with_reducible refine CondG.split (fun h => ?_) (fun h => ?_)) <;> (try simp only [decide_eq_true_eq, decide_eq_false_iff_not, beq_iff_eq, beq_eq_false_iff_ne, Bool.not_eq_true', Bool.not_eq_false', Bool.and_eq_true, Bool.or_eq_true, Bool.and_eq_false_imp, Bool.or_eq_false_iff, Bool.not_eq_true, Bool.not_eq_false, Int.not_lt, Int.not_le, ne_eq] at h)))
    all_goals simp -dsimp (disch := (first | omega | (simp only [List.length_map, List.length_append, List.length_cons, List.length_nil, List.length_take, List.length_drop, List.length_set, Int.natCast_add, Int.toNat_natCast, Nat.zero_add]; omega))) only [retQ, Try.results53, resVals, cellRV, resOf, St.rest, St.freeze, keepL_nil, keepL_nil', keepL_cons, dropL_nil, dropL_nil', dropL_cons, topL_int, topL_bool, topL_str, topL_sl, topL_nil, topL_own, topL_fz, topL_any, topL_ref, topL_ptr, topL_eptr, allIn_nil, allIn_cons, go_sem, ↓reduceIte, Nat.reduceLT, Nat.reduceLeDiff, Nat.reduceEqDiff, Nat.reduceAdd, Nat.reduceMul, Nat.reduceSub, Nat.reduceBEq, Nat.reduceBNe, Int.reduceBEq, Int.reduceLT, Int.reduceLE, reduceCtorEq, Int.reduceToNat]
    all_goals
      (simp (disch := omega) only [ho, ne_eq, zV_iff, getD_lt]
       (repeat' split) <;> first
         | rfl
         | omega
         | (exfalso; omega)
         | (exfalso; simp_all; done)
         | (simp_all; done)
         | (simp_all; omega)
         | (exfalso; simp_all; omega))
end Go.Bw
