/-
  WHAT IS PROVED HERE, of this translation: references_sat, instTbl_bounds, validate1i_sat, validate2i_sat, conforms_sat, scan_ne, scan_all, scan_eq_none, scan_zero, tblsE_ne, fksE_ne, consE_ne, schE_zero, OkTbl, OkTbl, fkE_zero, small_of, cellE_ne, rowE_zero, pairE_ne, relE_ne, pairs_none, confE_zero, bounds_of, Small, idx_neg0, dup_iff, fksE_all, consE_all, cutAt_sub, cutAt_length, schE_sub, Sch.
  A theorem that ends in sat says what the function it names returns, whatever the state it is called in; the bounds on its arguments stand ahead of it.
-/
import Derived.Test.YtinlgpgdinnefaaKJ
import Derived.Test.YtinlgpgdinnefaaKG
set_option linter.unusedSimpArgs false
set_option linter.unusedVariables false

namespace Go.Bw
open Go.Proofs
attribute [local go_sem ↓] VOps_nil VOps_cons VOp_callJ VVal_callH VOps_guard GOn_tt GOn_ff GOn_tf GOn_ft GOn_not GOn_none HOn_none HOn_tt HOn_ff HOn_tf HOn_ft HOn_not VHead_nil VHead_cons VHead_guard VVal_move VVal_assign VVal_pickE pickK_true pickK_false VVal_not VVal_load loadK_fz loadK_ptr loadK_eptr VVal_fieldAddr VVal_field VVal_indexAddr idxK_sl idxK_ref VVal_index indexK_str VVal_extract VVal_binOp binK_one binK_agg VVal_build VVal_buildSlice VVal_makeFunc VVal_slice sliceK_str sliceK_sl sliceK_ref VVal_slice3 VVal_nilCheck VVal_convert convKk_int convKk_str VVal_len VVal_max VVal_min VOp_assign assignK_int assignK_bool assignK_str assignK_clo assignK_sl assignK_nil assignK_ref assignK_agg assignK_fz assignK_ptr assignK_eptr assignK_any VOp_box VOp_alloc VOp_store storeK_ptr storeK_eptr VOp_buildSlice VOp_append appK_rr appK_rs appK_rn appK_ri appK_nl appStd_eq VOp_copy copyK_ref VOp_clear clearK_ref VOp_cap VOp_eqNil VOp_move VOp_pick VOp_not VOp_load VOp_fieldAddr VOp_field VOp_indexAddr VOp_index VOp_extract VOp_binTmp VOp_binInt VOp_binStr VOp_build VOp_makeFunc VOp_slice VOp_nilCheck VOp_convert VOp_len VOp_max VOp_min mO_some mT_some pk_some pk_none look_cons del_cons
attribute [local go_sem] guardB gOf int_bne beq_true beq_false Bool.not_not gSlot pickK_true pickK_false loadK_fz loadK_ptr loadK_eptr idxK_sl idxK_ref indexK_str binK_one binK_agg sliceK_str sliceK_sl sliceK_ref convKk_int convKk_str maxL minL assignK_int assignK_bool assignK_str assignK_clo assignK_sl assignK_nil assignK_ref assignK_agg assignK_fz assignK_ptr assignK_eptr assignK_any nilRow_eq takeRow_eq appended_eq storeK_ptr storeK_eptr store_mk appIn_eq appMk_eq marked_eq ovOut_nil ovOut_cons ovIn_nil ovIn_cons padRow_eq ysC capK_ref ioSt_mk outB_nil outR_nil outB outR inB_nil inB_cons inR_nil inR_cons L.kl L.kl0 L.ids L.ids0 Option.getD_some evalO constA mO_some mT_some put_mk putO_some putO_none okD_some okD_none pk_some pk_none look_nil del_nil sput noBox_mk noRow_mk newBox_eq newRow0_eq St.killRow RowC.kill rowMap_mk rowOf ovAll ovAdd ovDel ovGet ovShift dstOf ysOf overlay_nil overlay_nil' overlay A.map V.map L.noPtr L.noPtr0 L.noRow L.noRow0 L.peek L.norm L.flat clos_int clos_bool clos_str clos_sl clos_nil clos_any clos_fz L.clos L.isFz L.kd moveL fieldOff eqCells eqCell eqOp oneOf boolOf intOfA tupOf vOf aggOf isPtrLike isSlice lenKind lenL nL elemTI loadV asV binL intBin intDivL shrL boolBin strBin boundN partCells fillL placesOf setL chunks repL capsOf capL callOf argsOf frzV_int frzV_bool frzV_str frzV_sl frzV_nil frzV_fz frzV_any frzV_own frzV_clo frzV_ref frzV_eptr frzV_ptr frzRow_nil frzRow_ov frzRs_nil frzRs_cons frzCs_nil frzCs_cons frzO_some frzO_none frzN_int frzN_bool frzN_str frzN_sl frzN_nil frzN_any frzN_own List.map_cons List.map_nil List.cons_append List.nil_append List.append_nil List.length_cons List.length_nil List.length_map List.length_append List.headD_cons List.tail_cons List.getElem?_cons_zero List.getElem?_cons_succ List.drop_zero List.drop_succ_cons List.drop_nil List.take_succ_cons List.take_zero List.take_nil List.take_length List.filter_cons List.filter_nil List.elem_cons List.elem_nil List.all_cons List.all_nil Option.bind_some Option.map_some Option.some.injEq bne_self_eq_false beq_self_eq_true if_true if_false Bool.false_eq_true true_and and_true and_self Nat.zero_add Nat.add_zero Nat.zero_le Int.toNat_natCast Int.toNat_zero Option.isSome_some List.getElem?_toArray decide_true decide_false ge_iff_le gt_iff_lt Bool.not_true Bool.not_false Nat.le_refl Bool.and_true Bool.true_and Bool.and_false Bool.false_and eVal eRow eRow1 eRows eInt1 eInts eCol eCols eTbl eTbls eFK eFKs eCon eCons eSch eRel eInst eChg eChgs szOf getD_map_lt wrap_nat wrap_in List.take_of_length_le frz_eVal frz_eRow1 frz_eInt1 frz_eCol frz_eTbl frz_eFK frz_eCon frz_eRel frz_eChg noOwn_nil noOwn_cons noOwn_append L.isOwn noOwn_eVal noOwn_eRow1 noOwn_eInt1 noOwn_eCol noOwn_eTbl noOwn_eFK noOwn_eCon noOwn_eRel noOwn_eChg convK_2 convK_3 convK_5 convK_12 convK_21 convK_28 convK_156 convK_164 TT_2 TT_3 TT_4 TT_5 TT_9 TT_12 TT_13 TT_21 TT_22 TT_23 TT_24 TT_25 TT_26 TT_28 TT_30 TT_31 TT_32 TT_33 TT_37 TT_38 TT_41 TT_42 TT_43 TT_54 TT_55 TT_58 TT_59 TT_60 TT_61 TT_65 TT_66 TT_70 TT_71 TT_78 TT_82 TT_83 TT_102 TT_126 TT_130 TT_156 TT_164 boolTy_4 eqK_38 eqK_59 eqK_61
attribute [local congr] VOps.congr VHead.congr VOp.congr VVal.congr pk.congr assignK.congr appK.congr appStd.congr copyK.congr clearK.congr storeK.congr loadK.congr idxK.congr sliceK.congr indexK.congr binK.congr convKk.congr

/-- instance.References. -/
def refKey (r : Row) : List Int → Option Row
  | [] => some []
  | c :: cs => if c < 0 ∨ (r.length : Int) ≤ c ∨ (r.getD c.toNat zV).kind = 0 then none else (refKey r cs).map ((r.getD c.toNat zV) :: ·)
def refOk (s : Sch) (i : Inst) (f : FK) (r : Row) : Bool := match refKey r f.cols with
  | none => true
  | some key => findB (instTbl s i f.ref).1 (instTbl s i f.ref).2 key

set_option maxHeartbeats 8000000 in
theorem references_sat (s : Sch) (i : Inst) (f : FK) (r : Row) (h1 : s.tables.length ≤ 140737488355328) (h2 : ∀ t ∈ s.tables, t.cols.length ≤ 1099511627776 ∧ t.pk.length ≤ 1099511627776)
    (h3 : ∀ r ∈ i, r.rows.length ≤ 1099511627776 ∧ ∀ x ∈ r.rows, x.length ≤ 1099511627776) (h4 : f.cols.length ≤ 1099511627776) (h5 : r.length ≤ 140737488355328)
    (h6 : (instTbl s i f.ref).1.pk.length ≤ 1099511627776) (h7 : (instTbl s i f.ref).2.length ≤ 140737488355328) :
    Sat Try.prog 78 [.agg (eSch s), .one (eInst i), .agg (eFK f), .one (eRow r)] (.v (oB (refOk s i f r))) := by
  refine sat_of_body tyOk Try.func78 rfl (by kernel_rfl) ⟨Nat.le_of_ble_eq_true rfl, Nat.le_of_ble_eq_true rfl⟩ fun w0 m0 F0 => ?_
  simp only [Try.ntmps78, envOf, Nat.reduceAdd]
  repeat' (first
    | ((first
      | with_reducible refine AWP.regionL tyOk fun K hK => ?_
      | ((first | with_reducible refine GOn.isT ?_ ?_ | with_reducible refine HOn.isT ?_ ?_ | with_reducible refine pickK.isT ?_ ?_); focus (first | with_reducible rfl | with_reducible assumption | (simp only [NM, LN]; first | done | with_reducible assumption | omega)))
      | ((first | with_reducible refine GOn.isF ?_ ?_ | with_reducible refine HOn.isF ?_ ?_ | with_reducible refine pickK.isF ?_ ?_); focus (first | with_reducible rfl | with_reducible assumption | (simp only [NM, LN]; first | done | with_reducible assumption | omega)))
      | ((first | with_reducible refine GOn.split (fun h => ?_) (fun h => ?_) | with_reducible refine HOn.split (fun h => ?_) (fun h => ?_) | with_reducible refine pickK.split (fun h => ?_) (fun h => ?_)) <;> (try simp only [NM] at h))
      | ((with_reducible refine CallJ.is ?_); (first | refine CallJ.pure (instTable_sat s i f.ref h1 h2 h3) ?_ | ((first | refine CallJ.lent (instTable_sat s i f.ref h1 h2 h3) ?_ ?_; focus (simp -dsimp (disch := (first | omega | (simp only [LN]; omega))) only [go_sem, ↓reduceIte, Nat.reduceLT, Nat.reduceLeDiff, Nat.reduceEqDiff, Nat.reduceAdd, Nat.reduceMul, Nat.reduceSub, Nat.reduceBEq, Nat.reduceBNe, Int.reduceBEq, Int.reduceLT, Int.reduceLE, reduceCtorEq, Int.reduceToNat]; done)))))
      | ((with_reducible refine CallH.is ?_); (first | refine CallH.intro (instTable_sat s i f.ref h1 h2 h3) ?_))) <;> simp -dsimp (disch := (first | omega | (simp only [LN]; omega))) only [go_sem, ↓reduceIte, Nat.reduceLT, Nat.reduceLeDiff, Nat.reduceEqDiff, Nat.reduceAdd, Nat.reduceMul, Nat.reduceSub, Nat.reduceBEq, Nat.reduceBNe, Int.reduceBEq, Int.reduceLT, Int.reduceLE, reduceCtorEq, Int.reduceToNat])
    | ((with_reducible refine hK _ ?_); clear hK K)
    | with_reducible refine AWP.seq ?_
    | with_reducible refine thenQ_normal ?_
    | with_reducible refine AWP.block ?_
    | with_reducible refine AWP.skip ?_
    | with_reducible refine AWP.ret ?_
    | with_reducible refine thenQ_ret ?_
    | with_reducible refine blockQ_ret ?_
    | with_reducible refine AWP.exit ?_
    | with_reducible refine thenQ_exit ?_
    | with_reducible refine blockQ_normal ?_
    | with_reducible refine blockQ_exit ?_
    | refine blockQ_exit_ne rfl ?_
    | (with_reducible refine And.intro (by (first | with_reducible rfl | with_reducible assumption | omega | (simp only [LN]; first | done | with_reducible rfl | omega) | (simp only [NM, LN]; first | done | with_reducible assumption | omega) | (and_intros <;> first | with_reducible assumption | omega | (simp only [LN]; omega)) | fail)) ?_)
    | ((with_reducible refine AWP.condG (T := TT) (b := ?_) ?_ ?_); rotate_left; exact rfl)
    | with_reducible refine CondG.t ?_
    | with_reducible refine CondG.f ?_
    | with_reducible refine CondG.not ?_
    | ((first | with_reducible refine CondG.isT ?_ ?_); focus (first | with_reducible rfl | with_reducible assumption | (simp only [NM, LN]; first | done | with_reducible assumption | omega)))
    | ((first | with_reducible refine CondG.isF ?_ ?_); focus (first | with_reducible rfl | with_reducible assumption | (simp only [NM, LN]; first | done | with_reducible assumption | omega)))
    | ((with_reducible refine CondG.split (fun h => ?_) (fun h => ?_)) <;> (try simp only [NM] at h)))
  refine AWP.loop (ι := {p : Nat × Row // p.1 ≤ f.cols.length ∧ p.2.length = p.1 ∧ refKey r f.cols = (refKey r (f.cols.drop p.1)).map (p.2 ++ ·)}) (fun p => ⟨63, [(9, .v (.one (.ptr 9 0))), (10, .v (.one (eRows (instTbl s i f.ref).2))), (3, .v (.one (eRow r))), (11, .v (.one (.ref 11 0 p.1.1))), (25, .v (.one (eInts f.cols))), (26, .v (oI f.cols.length)), (27, .v (oI p.1.1))], [(9, eTbl (instTbl s i f.ref).1)], [(11, ⟨3, p.1.2.map eVal, []⟩)]⟩) (fun p => f.cols.length - p.1.1) ⟨(0, []), Nat.zero_le _, rfl, by simp⟩ ?_ fun ⟨(k, pre), hkl, hpl, hi⟩ => ?_
  · exact St.le_mk (by simp only [LE, EN, Nat.reduceEqDiff, reduceIte, Nat.reduceSub, eTbl]) (by simp only [LE, EN, Nat.reduceEqDiff, reduceIte, Nat.reduceSub, eTbl]) (by simp only [LE, EN, Nat.reduceEqDiff, reduceIte, Nat.reduceSub, eTbl])
  simp only at hkl hpl hi
  rcases Nat.lt_or_ge k f.cols.length with hc | hc
  · rw [List.drop_eq_getElem_cons hc, refKey] at hi
    repeat' (first
      | ((first
        | with_reducible refine AWP.regionL tyOk fun K hK => ?_
        | ((first | with_reducible refine GOn.isT ?_ ?_ | with_reducible refine HOn.isT ?_ ?_ | with_reducible refine pickK.isT ?_ ?_); focus (first | with_reducible rfl | with_reducible assumption | (simp only [NM, LN]; first | done | with_reducible assumption | omega)))
        | ((first | with_reducible refine GOn.isF ?_ ?_ | with_reducible refine HOn.isF ?_ ?_ | with_reducible refine pickK.isF ?_ ?_); focus (first | with_reducible rfl | with_reducible assumption | (simp only [NM, LN]; first | done | with_reducible assumption | omega)))
        | ((first | with_reducible refine GOn.split (fun h => ?_) (fun h => ?_) | with_reducible refine HOn.split (fun h => ?_) (fun h => ?_) | with_reducible refine pickK.split (fun h => ?_) (fun h => ?_)) <;> (try simp only [NM] at h))) <;> simp -dsimp (disch := (first | omega | (simp only [LN]; omega))) only [go_sem, ↓reduceIte, Nat.reduceLT, Nat.reduceLeDiff, Nat.reduceEqDiff, Nat.reduceAdd, Nat.reduceMul, Nat.reduceSub, Nat.reduceBEq, Nat.reduceBNe, Int.reduceBEq, Int.reduceLT, Int.reduceLE, reduceCtorEq, Int.reduceToNat, hpl])
      | ((with_reducible refine hK _ ?_); clear hK K)
      | with_reducible refine AWP.seq ?_
      | with_reducible refine thenQ_normal ?_
      | with_reducible refine AWP.block ?_
      | with_reducible refine AWP.skip ?_
      | with_reducible refine AWP.ret ?_
      | with_reducible refine thenQ_ret ?_
      | with_reducible refine blockQ_ret ?_
      | with_reducible refine AWP.exit ?_
      | with_reducible refine thenQ_exit ?_
      | with_reducible refine blockQ_normal ?_
      | with_reducible refine blockQ_exit ?_
      | refine blockQ_exit_ne rfl ?_
      | (with_reducible refine And.intro (by (first | with_reducible rfl | with_reducible assumption | omega | (simp only [LN]; first | done | with_reducible rfl | omega) | (simp only [NM, LN]; first | done | with_reducible assumption | omega) | (and_intros <;> first | with_reducible assumption | omega | (simp only [LN]; omega)) | fail)) ?_)
      | ((with_reducible refine AWP.condG (T := TT) (b := ?_) ?_ ?_); rotate_left; exact rfl)
      | with_reducible refine CondG.t ?_
      | with_reducible refine CondG.f ?_
      | with_reducible refine CondG.not ?_
      | ((first | with_reducible refine CondG.isT ?_ ?_); focus (first | with_reducible rfl | with_reducible assumption | (simp only [NM, LN]; first | done | with_reducible assumption | omega)))
      | ((first | with_reducible refine CondG.isF ?_ ?_); focus (first | with_reducible rfl | with_reducible assumption | (simp only [NM, LN]; first | done | with_reducible assumption | omega)))
      | ((with_reducible refine CondG.split (fun h => ?_) (fun h => ?_)) <;> (try simp only [NM] at h)))
    · rw [if_pos (by omega)] at hi
      simp -dsimp (disch := (first | omega | (simp only [LN]; omega))) only [retQ, Try.results78, resVals, cellRV, resOf, St.rest, St.freeze, RT, go_sem, ↓reduceIte, Nat.reduceLT, Nat.reduceLeDiff, Nat.reduceEqDiff, Nat.reduceAdd, Nat.reduceMul, Nat.reduceSub, Nat.reduceBEq, Nat.reduceBNe, Int.reduceBEq, Int.reduceLT, Int.reduceLE, reduceCtorEq, Int.reduceToNat]
      simp [refOk, hi]
    · rw [if_pos (by omega)] at hi
      simp -dsimp (disch := (first | omega | (simp only [LN]; omega))) only [retQ, Try.results78, resVals, cellRV, resOf, St.rest, St.freeze, RT, go_sem, ↓reduceIte, Nat.reduceLT, Nat.reduceLeDiff, Nat.reduceEqDiff, Nat.reduceAdd, Nat.reduceMul, Nat.reduceSub, Nat.reduceBEq, Nat.reduceBNe, Int.reduceBEq, Int.reduceLT, Int.reduceLE, reduceCtorEq, Int.reduceToNat]
      simp [refOk, hi]
    · have h2' : f.cols[k].toNat < r.length := by omega
      rw [getD_lt _ h2', if_pos (by omega)] at hi
      simp -dsimp (disch := (first | omega | (simp only [LN]; omega))) only [retQ, Try.results78, resVals, cellRV, resOf, St.rest, St.freeze, RT, go_sem, ↓reduceIte, Nat.reduceLT, Nat.reduceLeDiff, Nat.reduceEqDiff, Nat.reduceAdd, Nat.reduceMul, Nat.reduceSub, Nat.reduceBEq, Nat.reduceBNe, Int.reduceBEq, Int.reduceLT, Int.reduceLE, reduceCtorEq, Int.reduceToNat]
      simp [refOk, hi]
    · have h2' : f.cols[k].toNat < r.length := by omega
      rw [getD_lt _ h2', if_neg (by omega)] at hi
      refine ⟨⟨(k + 1, pre ++ [r[f.cols[k].toNat]'h2']), by simp only; omega, by simp [hpl], ?_⟩, by simp only; omega, ?_⟩
      · rw [hi]
        cases refKey r (f.cols.drop (k + 1)) <;> simp
      · exact St.le_mk (by simp only [LE, EN, Nat.reduceEqDiff, reduceIte, Nat.reduceSub, eTbl]) (by simp only [LE, EN, Nat.reduceEqDiff, reduceIte, Nat.reduceSub, eTbl]) (by simp only [LE, EN, Nat.reduceEqDiff, reduceIte, Nat.reduceSub, eTbl])
  · rw [List.drop_of_length_le hc, refKey] at hi
    have hk : pre.length ≤ 140737488355328 := by omega
    have hi' : refKey r f.cols = some pre := by rw [hi]; simp
    repeat' (first
      | ((first
        | with_reducible refine AWP.regionL tyOk fun K hK => ?_
        | ((first | with_reducible refine GOn.isT ?_ ?_ | with_reducible refine HOn.isT ?_ ?_ | with_reducible refine pickK.isT ?_ ?_); focus (first | with_reducible rfl | with_reducible assumption | (simp only [NM, LN]; first | done | with_reducible assumption | omega)))
        | ((first | with_reducible refine GOn.isF ?_ ?_ | with_reducible refine HOn.isF ?_ ?_ | with_reducible refine pickK.isF ?_ ?_); focus (first | with_reducible rfl | with_reducible assumption | (simp only [NM, LN]; first | done | with_reducible assumption | omega)))
        | ((first | with_reducible refine GOn.split (fun h => ?_) (fun h => ?_) | with_reducible refine HOn.split (fun h => ?_) (fun h => ?_) | with_reducible refine pickK.split (fun h => ?_) (fun h => ?_)) <;> (try simp only [NM] at h))
        | ((with_reducible refine CallJ.is ?_); (first | refine CallJ.pure (find_sat (instTbl s i f.ref).1 (instTbl s i f.ref).2 pre h6 h7 hk) ?_ | ((first | refine CallJ.lent (find_sat (instTbl s i f.ref).1 (instTbl s i f.ref).2 pre h6 h7 hk) ?_ ?_; focus (simp -dsimp (disch := (first | omega | (simp only [LN]; omega))) only [go_sem, ↓reduceIte, Nat.reduceLT, Nat.reduceLeDiff, Nat.reduceEqDiff, Nat.reduceAdd, Nat.reduceMul, Nat.reduceSub, Nat.reduceBEq, Nat.reduceBNe, Int.reduceBEq, Int.reduceLT, Int.reduceLE, reduceCtorEq, Int.reduceToNat, hpl]; done)))))
        | ((with_reducible refine CallH.is ?_); (first | refine CallH.intro (find_sat (instTbl s i f.ref).1 (instTbl s i f.ref).2 pre h6 h7 hk) ?_))) <;> simp -dsimp (disch := (first | omega | (simp only [LN]; omega))) only [go_sem, ↓reduceIte, Nat.reduceLT, Nat.reduceLeDiff, Nat.reduceEqDiff, Nat.reduceAdd, Nat.reduceMul, Nat.reduceSub, Nat.reduceBEq, Nat.reduceBNe, Int.reduceBEq, Int.reduceLT, Int.reduceLE, reduceCtorEq, Int.reduceToNat, hpl])
      | ((with_reducible refine hK _ ?_); clear hK K)
      | with_reducible refine AWP.seq ?_
      | with_reducible refine thenQ_normal ?_
      | with_reducible refine AWP.block ?_
      | with_reducible refine AWP.skip ?_
      | with_reducible refine AWP.ret ?_
      | with_reducible refine thenQ_ret ?_
      | with_reducible refine blockQ_ret ?_
      | with_reducible refine AWP.exit ?_
      | with_reducible refine thenQ_exit ?_
      | with_reducible refine blockQ_normal ?_
      | with_reducible refine blockQ_exit ?_
      | refine blockQ_exit_ne rfl ?_
      | (with_reducible refine And.intro (by (first | with_reducible rfl | with_reducible assumption | omega | (simp only [LN]; first | done | with_reducible rfl | omega) | (simp only [NM, LN]; first | done | with_reducible assumption | omega) | (and_intros <;> first | with_reducible assumption | omega | (simp only [LN]; omega)) | fail)) ?_)
      | ((with_reducible refine AWP.condG (T := TT) (b := ?_) ?_ ?_); rotate_left; exact rfl)
      | with_reducible refine CondG.t ?_
      | with_reducible refine CondG.f ?_
      | with_reducible refine CondG.not ?_
      | ((first | with_reducible refine CondG.isT ?_ ?_); focus (first | with_reducible rfl | with_reducible assumption | (simp only [NM, LN]; first | done | with_reducible assumption | omega)))
      | ((first | with_reducible refine CondG.isF ?_ ?_); focus (first | with_reducible rfl | with_reducible assumption | (simp only [NM, LN]; first | done | with_reducible assumption | omega)))
      | ((with_reducible refine CondG.split (fun h => ?_) (fun h => ?_)) <;> (try simp only [NM] at h)))
    simp -dsimp (disch := (first | omega | (simp only [LN]; omega))) only [retQ, Try.results78, resVals, cellRV, resOf, St.rest, St.freeze, RT, go_sem, ↓reduceIte, Nat.reduceLT, Nat.reduceLeDiff, Nat.reduceEqDiff, Nat.reduceAdd, Nat.reduceMul, Nat.reduceSub, Nat.reduceBEq, Nat.reduceBNe, Int.reduceBEq, Int.reduceLT, Int.reduceLE, reduceCtorEq, Int.reduceToNat]
    simp [refOk, hi']

/-- Bounds that an instance's checks ask. -/
structure Bounds (s : Sch) (i : Inst) : Prop where
  tables : s.tables.length ≤ 140737488355328
  table : ∀ t ∈ s.tables, t.cols.length ≤ 1099511627776 ∧ t.pk.length ≤ 1099511627776
  fk : ∀ f ∈ s.fks, f.cols.length ≤ 1099511627776
  rel : ∀ r ∈ i, r.rows.length ≤ 1099511627776 ∧ ∀ x ∈ r.rows, x.length ≤ 1099511627776
/-- The same, ahead of the check: what the reach gives. -/
structure Bounds0 (s : Sch) (i : Inst) : Prop where
  tables : s.tables.length ≤ 140737488355328
  table : ∀ t ∈ s.tables, t.cols.length ≤ 1099511627776 ∧ t.pk.length ≤ 1099511627776
  fk : ∀ f ∈ s.fks, f.cols.length ≤ 1099511627776
  fks : s.fks.length ≤ 140737488355328
  cons : s.cons.length ≤ 140737488355328
  rel : ∀ r ∈ i, r.rows.length ≤ 140737488355328 ∧ ∀ x ∈ r.rows, x.length ≤ 140737488355328
theorem instTbl_bounds {s : Sch} {i : Inst} (h : Bounds s i) (name : ByteArray) : (instTbl s i name).1.pk.length ≤ 1099511627776 ∧ (instTbl s i name).2.length ≤ 1099511627776 ∧ ∀ x ∈ (instTbl s i name).2, x.length ≤ 1099511627776 := by
  unfold instTbl
  split
  · exact ⟨by simp, by simp, fun x hx => by simp at hx⟩
  · rename_i h0
    refine ⟨?_, ?_⟩
    · rcases Nat.lt_or_ge (tblAt s.tables name).toNat s.tables.length with hl | hl
      · simp only [getD_lt _ hl]
        exact (h.table _ (List.getElem_mem hl)).2
      · simp [List.getD, List.getElem?_eq_none hl, zTbl]
    · split
      · exact ⟨by simp, fun x hx => by simp at hx⟩
      · rename_i h1
        have hl : (tblAt s.tables name).toNat < i.length := by omega
        simp only [getD_lt _ hl]
        exact h.rel _ (List.getElem_mem hl)

theorem validate1i_sat (s : Sch) (i : Inst) (f : FK) (x : Row) (h : Bounds s i) (hf : f.cols.length ≤ 1099511627776) (hx : x.length ≤ 140737488355328) :
    Sat Try.prog 77 [.one (eRow x), .one (.fz (eSch s)), .one (.fz [eInst i]), .one (.fz (eFK f))] (.v (oB (!refOk s i f x))) := by
  obtain ⟨b1, b2, _⟩ := instTbl_bounds h f.ref
  refine sat_of_body tyOk Try.func77 rfl (by kernel_rfl) ⟨Nat.le_of_ble_eq_true rfl, Nat.le_of_ble_eq_true rfl⟩ fun w0 m0 F0 => ?_
  simp only [Try.ntmps77, envOf, Nat.reduceAdd]
  repeat' (first
    | ((first
      | with_reducible refine AWP.regionL tyOk fun K hK => ?_
      | ((first | with_reducible refine GOn.isT ?_ ?_ | with_reducible refine HOn.isT ?_ ?_ | with_reducible refine pickK.isT ?_ ?_); focus (first | with_reducible rfl | with_reducible assumption | (simp only [NM, LN]; first | done | with_reducible assumption | omega)))
      | ((first | with_reducible refine GOn.isF ?_ ?_ | with_reducible refine HOn.isF ?_ ?_ | with_reducible refine pickK.isF ?_ ?_); focus (first | with_reducible rfl | with_reducible assumption | (simp only [NM, LN]; first | done | with_reducible assumption | omega)))
      | ((first | with_reducible refine GOn.split (fun h => ?_) (fun h => ?_) | with_reducible refine HOn.split (fun h => ?_) (fun h => ?_) | with_reducible refine pickK.split (fun h => ?_) (fun h => ?_)) <;> (try simp only [NM] at h))
      | with_reducible refine AWP.drawAll tyOk mixed 6 (by kernel_rfl) fun K hK => ?_
      | ((with_reducible refine CallJ.is ?_); (first | refine CallJ.pure (references_sat s i f x h.tables h.table h.rel hf hx b1 (by omega)) ?_ | ((first | refine CallJ.lent (references_sat s i f x h.tables h.table h.rel hf hx b1 (by omega)) ?_ ?_; focus (simp -dsimp (disch := (first | omega | (simp only [LN]; omega))) only [go_sem, ↓reduceIte, Nat.reduceLT, Nat.reduceLeDiff, Nat.reduceEqDiff, Nat.reduceAdd, Nat.reduceMul, Nat.reduceSub, Nat.reduceBEq, Nat.reduceBNe, Int.reduceBEq, Int.reduceLT, Int.reduceLE, reduceCtorEq, Int.reduceToNat]; done)))))
      | ((with_reducible refine CallH.is ?_); (first | refine CallH.intro (references_sat s i f x h.tables h.table h.rel hf hx b1 (by omega)) ?_))) <;> simp -dsimp (disch := (first | omega | (simp only [LN]; omega))) only [go_sem, ↓reduceIte, Nat.reduceLT, Nat.reduceLeDiff, Nat.reduceEqDiff, Nat.reduceAdd, Nat.reduceMul, Nat.reduceSub, Nat.reduceBEq, Nat.reduceBNe, Int.reduceBEq, Int.reduceLT, Int.reduceLE, reduceCtorEq, Int.reduceToNat])
    | ((with_reducible refine hK _ ?_); clear hK K)
    | with_reducible refine AWP.seq ?_
    | with_reducible refine thenQ_normal ?_
    | with_reducible refine AWP.block ?_
    | with_reducible refine AWP.skip ?_
    | with_reducible refine AWP.ret ?_
    | with_reducible refine thenQ_ret ?_
    | with_reducible refine blockQ_ret ?_
    | with_reducible refine AWP.exit ?_
    | with_reducible refine thenQ_exit ?_
    | with_reducible refine blockQ_normal ?_
    | with_reducible refine blockQ_exit ?_
    | refine blockQ_exit_ne rfl ?_
    | (with_reducible refine And.intro (by (first | with_reducible rfl | with_reducible assumption | omega | (simp only [LN]; first | done | with_reducible rfl | omega) | (simp only [NM, LN]; first | done | with_reducible assumption | omega) | (and_intros <;> first | with_reducible assumption | omega | (simp only [LN]; omega)) | fail)) ?_)
    | ((with_reducible refine AWP.condG (T := TT) (b := ?_) ?_ ?_); rotate_left; exact rfl)
    | with_reducible refine CondG.t ?_
    | with_reducible refine CondG.f ?_
    | with_reducible refine CondG.not ?_
    | ((first | with_reducible refine CondG.isT ?_ ?_); focus (first | with_reducible rfl | with_reducible assumption | (simp only [NM, LN]; first | done | with_reducible assumption | omega)))
    | ((first | with_reducible refine CondG.isF ?_ ?_); focus (first | with_reducible rfl | with_reducible assumption | (simp only [NM, LN]; first | done | with_reducible assumption | omega)))
    | ((with_reducible refine CondG.split (fun h => ?_) (fun h => ?_)) <;> (try simp only [NM] at h)))
  simp -dsimp (disch := (first | omega | (simp only [LN]; omega))) only [retQ, Try.results77, resVals, cellRV, resOf, St.rest, St.freeze, RT, go_sem, ↓reduceIte, Nat.reduceLT, Nat.reduceLeDiff, Nat.reduceEqDiff, Nat.reduceAdd, Nat.reduceMul, Nat.reduceSub, Nat.reduceBEq, Nat.reduceBNe, Int.reduceBEq, Int.reduceLT, Int.reduceLE, reduceCtorEq, Int.reduceToNat]
theorem validate2i_sat (c : Con) (x : Row) (hx : x.length ≤ 140737488355328) : Sat Try.prog 79 [.one (eRow x), .one (.fz (eCon c))] (.v (oB (!holdsC c x))) := by
  refine sat_of_body tyOk Try.func79 rfl (by kernel_rfl) ⟨Nat.le_of_ble_eq_true rfl, Nat.le_of_ble_eq_true rfl⟩ fun w0 m0 F0 => ?_
  simp only [Try.ntmps79, envOf, Nat.reduceAdd]
  repeat' (first
    | ((first
      | with_reducible refine AWP.regionL tyOk fun K hK => ?_
      | ((first | with_reducible refine GOn.isT ?_ ?_ | with_reducible refine HOn.isT ?_ ?_ | with_reducible refine pickK.isT ?_ ?_); focus (first | with_reducible rfl | with_reducible assumption | (simp only [NM, LN]; first | done | with_reducible assumption | omega)))
      | ((first | with_reducible refine GOn.isF ?_ ?_ | with_reducible refine HOn.isF ?_ ?_ | with_reducible refine pickK.isF ?_ ?_); focus (first | with_reducible rfl | with_reducible assumption | (simp only [NM, LN]; first | done | with_reducible assumption | omega)))
      | ((first | with_reducible refine GOn.split (fun h => ?_) (fun h => ?_) | with_reducible refine HOn.split (fun h => ?_) (fun h => ?_) | with_reducible refine pickK.split (fun h => ?_) (fun h => ?_)) <;> (try simp only [NM] at h))
      | with_reducible refine AWP.drawAll tyOk mixed 6 (by kernel_rfl) fun K hK => ?_
      | ((with_reducible refine CallJ.is ?_); (first | refine CallJ.pure (instSatisfies_sat c x hx) ?_ | ((first | refine CallJ.lent (instSatisfies_sat c x hx) ?_ ?_; focus (simp -dsimp (disch := (first | omega | (simp only [LN]; omega))) only [go_sem, ↓reduceIte, Nat.reduceLT, Nat.reduceLeDiff, Nat.reduceEqDiff, Nat.reduceAdd, Nat.reduceMul, Nat.reduceSub, Nat.reduceBEq, Nat.reduceBNe, Int.reduceBEq, Int.reduceLT, Int.reduceLE, reduceCtorEq, Int.reduceToNat]; done)))))
      | ((with_reducible refine CallH.is ?_); (first | refine CallH.intro (instSatisfies_sat c x hx) ?_))) <;> simp -dsimp (disch := (first | omega | (simp only [LN]; omega))) only [go_sem, ↓reduceIte, Nat.reduceLT, Nat.reduceLeDiff, Nat.reduceEqDiff, Nat.reduceAdd, Nat.reduceMul, Nat.reduceSub, Nat.reduceBEq, Nat.reduceBNe, Int.reduceBEq, Int.reduceLT, Int.reduceLE, reduceCtorEq, Int.reduceToNat])
    | ((with_reducible refine hK _ ?_); clear hK K)
    | with_reducible refine AWP.seq ?_
    | with_reducible refine thenQ_normal ?_
    | with_reducible refine AWP.block ?_
    | with_reducible refine AWP.skip ?_
    | with_reducible refine AWP.ret ?_
    | with_reducible refine thenQ_ret ?_
    | with_reducible refine blockQ_ret ?_
    | with_reducible refine AWP.exit ?_
    | with_reducible refine thenQ_exit ?_
    | with_reducible refine blockQ_normal ?_
    | with_reducible refine blockQ_exit ?_
    | refine blockQ_exit_ne rfl ?_
    | (with_reducible refine And.intro (by (first | with_reducible rfl | with_reducible assumption | omega | (simp only [LN]; first | done | with_reducible rfl | omega) | (simp only [NM, LN]; first | done | with_reducible assumption | omega) | (and_intros <;> first | with_reducible assumption | omega | (simp only [LN]; omega)) | fail)) ?_)
    | ((with_reducible refine AWP.condG (T := TT) (b := ?_) ?_ ?_); rotate_left; exact rfl)
    | with_reducible refine CondG.t ?_
    | with_reducible refine CondG.f ?_
    | with_reducible refine CondG.not ?_
    | ((first | with_reducible refine CondG.isT ?_ ?_); focus (first | with_reducible rfl | with_reducible assumption | (simp only [NM, LN]; first | done | with_reducible assumption | omega)))
    | ((first | with_reducible refine CondG.isF ?_ ?_); focus (first | with_reducible rfl | with_reducible assumption | (simp only [NM, LN]; first | done | with_reducible assumption | omega)))
    | ((with_reducible refine CondG.split (fun h => ?_) (fun h => ?_)) <;> (try simp only [NM] at h)))
  simp -dsimp (disch := (first | omega | (simp only [LN]; omega))) only [retQ, Try.results79, resVals, cellRV, resOf, St.rest, St.freeze, RT, go_sem, ↓reduceIte, Nat.reduceLT, Nat.reduceLeDiff, Nat.reduceEqDiff, Nat.reduceAdd, Nat.reduceMul, Nat.reduceSub, Nat.reduceBEq, Nat.reduceBNe, Int.reduceBEq, Int.reduceLT, Int.reduceLE, reduceCtorEq, Int.reduceToNat]

/-- instance.Conforms. -/
def pairE (t : Tbl) (rows : List Row) (j : Nat) (x : Row) : Option Int :=
  if rowE t x ≠ 0 then some (rowE t x) else if j = 0 then none else
  if cmpRows (keyOf t.pk (rows.getD ((j : Int) - 1).toNat [])) (keyOf t.pk x) = 0 then some 9 else if 0 < cmpRows (keyOf t.pk (rows.getD ((j : Int) - 1).toNat [])) (keyOf t.pk x) then some 6 else none
def relE (s : Sch) (k : Nat) (r : Rel) : Option Int :=
  if sEq r.table (s.tables.getD k zTbl).name = false then some 3 else if 24 < r.rows.length then some 2 else scan (pairE (s.tables.getD k zTbl) r.rows) r.rows 0
def confE (s : Sch) (i : Inst) : Int :=
  if i.length ≠ s.tables.length then 3 else match scan (relE s) i 0 with
    | some e => e
    | none => 0
set_option maxHeartbeats 16000000 in
theorem conforms_sat (s : Sch) (i : Inst) (hB : Bounds0 s i) (hi : i.length ≤ 140737488355328) : Sat Try.prog 34 [.agg (eSch s), .one (eInst i)] (.v (oI (confE s i))) := by
  refine sat_of_body tyOk Try.func34 rfl (by kernel_rfl) ⟨Nat.le_of_ble_eq_true rfl, Nat.le_of_ble_eq_true rfl⟩ fun w0 m0 F0 => ?_
  simp only [Try.ntmps34, envOf, Nat.reduceAdd]
  repeat' (first
    | ((first
      | with_reducible refine AWP.regionL tyOk fun K hK => ?_
      | ((first | with_reducible refine GOn.isT ?_ ?_ | with_reducible refine HOn.isT ?_ ?_ | with_reducible refine pickK.isT ?_ ?_); focus (first | with_reducible rfl | with_reducible assumption | (simp only [NM, LN]; first | done | with_reducible assumption | omega)))
      | ((first | with_reducible refine GOn.isF ?_ ?_ | with_reducible refine HOn.isF ?_ ?_ | with_reducible refine pickK.isF ?_ ?_); focus (first | with_reducible rfl | with_reducible assumption | (simp only [NM, LN]; first | done | with_reducible assumption | omega)))
      | ((first | with_reducible refine GOn.split (fun h => ?_) (fun h => ?_) | with_reducible refine HOn.split (fun h => ?_) (fun h => ?_) | with_reducible refine pickK.split (fun h => ?_) (fun h => ?_)) <;> (try simp only [NM] at h))
      | with_reducible refine AWP.drawAll tyOk mixed 6 (by kernel_rfl) fun K hK => ?_) <;> simp -dsimp (disch := (first | omega | (simp only [LN]; omega))) only [go_sem, ↓reduceIte, Nat.reduceLT, Nat.reduceLeDiff, Nat.reduceEqDiff, Nat.reduceAdd, Nat.reduceMul, Nat.reduceSub, Nat.reduceBEq, Nat.reduceBNe, Int.reduceBEq, Int.reduceLT, Int.reduceLE, reduceCtorEq, Int.reduceToNat])
    | ((with_reducible refine hK _ ?_); clear hK K)
    | with_reducible refine AWP.seq ?_
    | with_reducible refine thenQ_normal ?_
    | with_reducible refine AWP.block ?_
    | with_reducible refine AWP.skip ?_
    | with_reducible refine AWP.ret ?_
    | with_reducible refine thenQ_ret ?_
    | with_reducible refine blockQ_ret ?_
    | with_reducible refine AWP.exit ?_
    | with_reducible refine thenQ_exit ?_
    | with_reducible refine blockQ_normal ?_
    | with_reducible refine blockQ_exit ?_
    | refine blockQ_exit_ne rfl ?_
    | (with_reducible refine And.intro (by (first | with_reducible rfl | with_reducible assumption | omega | (simp only [LN]; first | done | with_reducible rfl | omega) | (simp only [NM, LN]; first | done | with_reducible assumption | omega) | (and_intros <;> first | with_reducible assumption | omega | (simp only [LN]; omega)) | fail)) ?_)
    | ((with_reducible refine AWP.condG (T := TT) (b := ?_) ?_ ?_); rotate_left; exact rfl)
    | with_reducible refine CondG.t ?_
    | with_reducible refine CondG.f ?_
    | with_reducible refine CondG.not ?_
    | ((first | with_reducible refine CondG.isT ?_ ?_); focus (first | with_reducible rfl | with_reducible assumption | (simp only [NM, LN]; first | done | with_reducible assumption | omega)))
    | ((first | with_reducible refine CondG.isF ?_ ?_); focus (first | with_reducible rfl | with_reducible assumption | (simp only [NM, LN]; first | done | with_reducible assumption | omega)))
    | ((with_reducible refine CondG.split (fun h => ?_) (fun h => ?_)) <;> (try simp only [NM] at h)))
  rotate_left
  · simp -dsimp (disch := (first | omega | (simp only [LN]; omega))) only [retQ, Try.results34, resVals, cellRV, resOf, St.rest, St.freeze, RT, go_sem, ↓reduceIte, Nat.reduceLT, Nat.reduceLeDiff, Nat.reduceEqDiff, Nat.reduceAdd, Nat.reduceMul, Nat.reduceSub, Nat.reduceBEq, Nat.reduceBNe, Int.reduceBEq, Int.reduceLT, Int.reduceLE, reduceCtorEq, Int.reduceToNat]
    have : i.length ≠ s.tables.length := by omega
    simp [confE, this]
  have hl : i.length = s.tables.length := by omega
  have spec : confE s i = match scan (relE s) i 0 with
    | some e => e
    | none => 0 := by simp [confE, hl]
  rw [spec]
  refine AWP.loop (ι := {k : Nat // k ≤ i.length ∧ scan (relE s) (i.drop k) k = scan (relE s) i 0}) (fun k => ⟨75, [(2, .v (.one (.ptr 2 0))), (18, .v (.one (eInst i))), (19, .v (oI i.length)), (20, .v (oI k.1))], [(2, eSch s)], []⟩) (fun k => i.length - k.1) ⟨0, Nat.zero_le _, rfl⟩ ?_ fun ⟨k, hkl, hi⟩ => ?_
  · exact St.le_mk (by simp only [LE, EN, Nat.reduceEqDiff, reduceIte, Nat.reduceSub, eSch]) (by simp only [LE, EN, Nat.reduceEqDiff, reduceIte, Nat.reduceSub, eSch]) (by simp only [LE, EN, Nat.reduceEqDiff, reduceIte, Nat.reduceSub, eSch])
  rcases Nat.lt_or_ge k i.length with hc | hc
  · have hcs : k < s.tables.length := by omega
    repeat' (first
      | ((first
        | with_reducible refine AWP.regionL tyOk fun K hK => ?_
        | ((first | with_reducible refine GOn.isT ?_ ?_ | with_reducible refine HOn.isT ?_ ?_ | with_reducible refine pickK.isT ?_ ?_); focus (first | with_reducible rfl | with_reducible assumption | (simp only [NM, LN]; first | done | with_reducible assumption | omega)))
        | ((first | with_reducible refine GOn.isF ?_ ?_ | with_reducible refine HOn.isF ?_ ?_ | with_reducible refine pickK.isF ?_ ?_); focus (first | with_reducible rfl | with_reducible assumption | (simp only [NM, LN]; first | done | with_reducible assumption | omega)))
        | ((first | with_reducible refine GOn.split (fun h => ?_) (fun h => ?_) | with_reducible refine HOn.split (fun h => ?_) (fun h => ?_) | with_reducible refine pickK.split (fun h => ?_) (fun h => ?_)) <;> (try simp only [NM] at h))
        | with_reducible refine AWP.drawAll tyOk mixed 6 (by kernel_rfl) fun K hK => ?_) <;> simp -dsimp (disch := (first | omega | (simp only [LN]; omega))) only [go_sem, ↓reduceIte, Nat.reduceLT, Nat.reduceLeDiff, Nat.reduceEqDiff, Nat.reduceAdd, Nat.reduceMul, Nat.reduceSub, Nat.reduceBEq, Nat.reduceBNe, Int.reduceBEq, Int.reduceLT, Int.reduceLE, reduceCtorEq, Int.reduceToNat])
      | ((with_reducible refine hK _ ?_); clear hK K)
      | with_reducible refine AWP.seq ?_
      | with_reducible refine thenQ_normal ?_
      | with_reducible refine AWP.block ?_
      | with_reducible refine AWP.skip ?_
      | with_reducible refine AWP.ret ?_
      | with_reducible refine thenQ_ret ?_
      | with_reducible refine blockQ_ret ?_
      | with_reducible refine AWP.exit ?_
      | with_reducible refine thenQ_exit ?_
      | with_reducible refine blockQ_normal ?_
      | with_reducible refine blockQ_exit ?_
      | refine blockQ_exit_ne rfl ?_
      | (with_reducible refine And.intro (by (first | with_reducible rfl | with_reducible assumption | omega | (simp only [LN]; first | done | with_reducible rfl | omega) | (simp only [NM, LN]; first | done | with_reducible assumption | omega) | (and_intros <;> first | with_reducible assumption | omega | (simp only [LN]; omega)) | fail)) ?_)
      | ((with_reducible refine AWP.condG (T := TT) (b := ?_) ?_ ?_); rotate_left; exact rfl)
      | with_reducible refine CondG.t ?_
      | with_reducible refine CondG.f ?_
      | with_reducible refine CondG.not ?_
      | ((first | with_reducible refine CondG.isT ?_ ?_); focus (first | with_reducible rfl | with_reducible assumption | (simp only [NM, LN]; first | done | with_reducible assumption | omega)))
      | ((first | with_reducible refine CondG.isF ?_ ?_); focus (first | with_reducible rfl | with_reducible assumption | (simp only [NM, LN]; first | done | with_reducible assumption | omega)))
      | ((with_reducible refine CondG.split (fun h => ?_) (fun h => ?_)) <;> (try simp only [NM] at h)))
    rotate_left
    rotate_left
    · have hs : relE s k i[k] = some 3 := by
        simp (disch := omega) only [relE, getD_lt]
        rw [if_pos]
        simp_all [sEq]
      simp -dsimp (disch := (first | omega | (simp only [LN]; omega))) only [retQ, Try.results34, resVals, cellRV, resOf, St.rest, St.freeze, RT, go_sem, ↓reduceIte, Nat.reduceLT, Nat.reduceLeDiff, Nat.reduceEqDiff, Nat.reduceAdd, Nat.reduceMul, Nat.reduceSub, Nat.reduceBEq, Nat.reduceBNe, Int.reduceBEq, Int.reduceLT, Int.reduceLE, reduceCtorEq, Int.reduceToNat]
      rw [scan_leaf (by omega) hs hi]
    · have hs : relE s k i[k] = some 2 := by
        simp (disch := omega) only [relE, getD_lt]
        rw [if_neg (by simp_all [sEq]), if_pos (by omega)]
      simp -dsimp (disch := (first | omega | (simp only [LN]; omega))) only [retQ, Try.results34, resVals, cellRV, resOf, St.rest, St.freeze, RT, go_sem, ↓reduceIte, Nat.reduceLT, Nat.reduceLeDiff, Nat.reduceEqDiff, Nat.reduceAdd, Nat.reduceMul, Nat.reduceSub, Nat.reduceBEq, Nat.reduceBNe, Int.reduceBEq, Int.reduceLT, Int.reduceLE, reduceCtorEq, Int.reduceToNat]
      rw [scan_leaf (by omega) hs hi]
    have hrel : relE s k i[k] = scan (pairE s.tables[k] i[k].rows) i[k].rows 0 := by
      simp (disch := omega) only [relE, getD_lt]
      rw [if_neg (by simp_all [sEq]), if_neg (by omega)]
    obtain ⟨t1, t2⟩ := hB.table _ (List.getElem_mem hcs)
    obtain ⟨r1, r2⟩ := hB.rel _ (List.getElem_mem hc)
    refine AWP.loop (ι := {j : Nat // j ≤ i[k].rows.length ∧ scan (pairE s.tables[k] i[k].rows) (i[k].rows.drop j) j = scan (pairE s.tables[k] i[k].rows) i[k].rows 0}) (fun j => ⟨75, [(2, .v (.one (.ptr 2 0))), (18, .v (.one (eInst i))), (19, .v (oI i.length)), (20, .v (oI k)), (6, .v (.one (.ptr 6 0))), (7, .v (.one (.ptr 7 0))), (40, .v (.one (eRows i[k].rows))), (41, .v (oI i[k].rows.length)), (42, .v (oI j.1))], [(7, eTbl s.tables[k]), (6, eRel i[k]), (2, eSch s)], []⟩) (fun j => i[k].rows.length - j.1) ⟨0, Nat.zero_le _, rfl⟩ ?_ fun ⟨j, hjl, hj⟩ => ?_
    · exact St.le_mk (by simp only [LE, EN, Nat.reduceEqDiff, reduceIte, Nat.reduceSub, eSch, eTbl, eRel]) (by simp only [LE, EN, Nat.reduceEqDiff, reduceIte, Nat.reduceSub, eSch, eTbl, eRel]) (by simp only [LE, EN, Nat.reduceEqDiff, reduceIte, Nat.reduceSub, eSch, eTbl, eRel])
    rcases Nat.lt_or_ge j i[k].rows.length with hcj | hcj
    · have x1 := r2 _ (List.getElem_mem hcj)
      rcases Nat.eq_zero_or_pos j with hj0 | hj0
      · repeat' (first
          | ((first
            | with_reducible refine AWP.regionL tyOk fun K hK => ?_
            | ((first | with_reducible refine GOn.isT ?_ ?_ | with_reducible refine HOn.isT ?_ ?_ | with_reducible refine pickK.isT ?_ ?_); focus (first | with_reducible rfl | with_reducible assumption | (simp only [NM, LN]; first | done | with_reducible assumption | omega)))
            | ((first | with_reducible refine GOn.isF ?_ ?_ | with_reducible refine HOn.isF ?_ ?_ | with_reducible refine pickK.isF ?_ ?_); focus (first | with_reducible rfl | with_reducible assumption | (simp only [NM, LN]; first | done | with_reducible assumption | omega)))
            | ((first | with_reducible refine GOn.split (fun h => ?_) (fun h => ?_) | with_reducible refine HOn.split (fun h => ?_) (fun h => ?_) | with_reducible refine pickK.split (fun h => ?_) (fun h => ?_)) <;> (try simp only [NM] at h))
            | with_reducible refine AWP.drawAll tyOk mixed 6 (by kernel_rfl) fun K hK => ?_
            | ((with_reducible refine CallJ.is ?_); (first | refine CallJ.pure (conformsRow_sat s.tables[k] i[k].rows[j] (by omega) (by omega)) ?_ | ((first | refine CallJ.lent (conformsRow_sat s.tables[k] i[k].rows[j] (by omega) (by omega)) ?_ ?_; focus (simp -dsimp (disch := (first | omega | (simp only [LN]; omega))) only [go_sem, ↓reduceIte, Nat.reduceLT, Nat.reduceLeDiff, Nat.reduceEqDiff, Nat.reduceAdd, Nat.reduceMul, Nat.reduceSub, Nat.reduceBEq, Nat.reduceBNe, Int.reduceBEq, Int.reduceLT, Int.reduceLE, reduceCtorEq, Int.reduceToNat]; done)))))
            | ((with_reducible refine CallH.is ?_); (first | refine CallH.intro (conformsRow_sat s.tables[k] i[k].rows[j] (by omega) (by omega)) ?_))) <;> simp -dsimp (disch := (first | omega | (simp only [LN]; omega))) only [go_sem, ↓reduceIte, Nat.reduceLT, Nat.reduceLeDiff, Nat.reduceEqDiff, Nat.reduceAdd, Nat.reduceMul, Nat.reduceSub, Nat.reduceBEq, Nat.reduceBNe, Int.reduceBEq, Int.reduceLT, Int.reduceLE, reduceCtorEq, Int.reduceToNat])
          | ((with_reducible refine hK _ ?_); clear hK K)
          | with_reducible refine AWP.seq ?_
          | with_reducible refine thenQ_normal ?_
          | with_reducible refine AWP.block ?_
          | with_reducible refine AWP.skip ?_
          | with_reducible refine AWP.ret ?_
          | with_reducible refine thenQ_ret ?_
          | with_reducible refine blockQ_ret ?_
          | with_reducible refine AWP.exit ?_
          | with_reducible refine thenQ_exit ?_
          | with_reducible refine blockQ_normal ?_
          | with_reducible refine blockQ_exit ?_
          | refine blockQ_exit_ne rfl ?_
          | (with_reducible refine And.intro (by (first | with_reducible rfl | with_reducible assumption | omega | (simp only [LN]; first | done | with_reducible rfl | omega) | (simp only [NM, LN]; first | done | with_reducible assumption | omega) | (and_intros <;> first | with_reducible assumption | omega | (simp only [LN]; omega)) | fail)) ?_)
          | ((with_reducible refine AWP.condG (T := TT) (b := ?_) ?_ ?_); rotate_left; exact rfl)
          | with_reducible refine CondG.t ?_
          | with_reducible refine CondG.f ?_
          | with_reducible refine CondG.not ?_
          | ((first | with_reducible refine CondG.isT ?_ ?_); focus (first | with_reducible rfl | with_reducible assumption | (simp only [NM, LN]; first | done | with_reducible assumption | omega)))
          | ((first | with_reducible refine CondG.isF ?_ ?_); focus (first | with_reducible rfl | with_reducible assumption | (simp only [NM, LN]; first | done | with_reducible assumption | omega)))
          | ((with_reducible refine CondG.split (fun h => ?_) (fun h => ?_)) <;> (try simp only [NM] at h)))
        all_goals first
          | (have hs : pairE s.tables[k] i[k].rows j i[k].rows[j] = none := by
               (simp (disch := omega) only [pairE, getD_lt]; (repeat' split) <;> first | rfl | with_reducible assumption | omega | (exfalso; omega) | (simp_all; done) | (simp_all; omega))
             refine ⟨⟨j + 1, by omega, by rw [scan_step hcj hs, hj]⟩, by simp only; omega, ?_⟩
             exact St.le_mk (by simp only [LE, EN, Nat.reduceEqDiff, reduceIte, Nat.reduceSub, eSch, eTbl, eRel]) (by simp only [LE, EN, Nat.reduceEqDiff, reduceIte, Nat.reduceSub, eSch, eTbl, eRel]) (by simp only [LE, EN, Nat.reduceEqDiff, reduceIte, Nat.reduceSub, eSch, eTbl, eRel])
             done)
          | (
             simp -dsimp (disch := (first | omega | (simp only [LN]; omega))) only [retQ, Try.results34, resVals, cellRV, resOf, St.rest, St.freeze, RT, go_sem, ↓reduceIte, Nat.reduceLT, Nat.reduceLeDiff, Nat.reduceEqDiff, Nat.reduceAdd, Nat.reduceMul, Nat.reduceSub, Nat.reduceBEq, Nat.reduceBNe, Int.reduceBEq, Int.reduceLT, Int.reduceLE, reduceCtorEq, Int.reduceToNat]
             rw [scan_leaf hc (hrel.trans (scan_leaf hcj ?_ hj)) hi]
             all_goals first
               | with_reducible rfl
               | (
                  (simp (disch := omega) only [pairE, getD_lt]; (repeat' split) <;> first | rfl | with_reducible assumption | omega | (exfalso; omega) | (simp_all; done) | (simp_all; omega))
                  done)
               | rfl
             done)
      · have hjp : j - 1 < i[k].rows.length := by omega
        repeat' (first
          | ((first
            | with_reducible refine AWP.regionL tyOk fun K hK => ?_
            | ((first | with_reducible refine GOn.isT ?_ ?_ | with_reducible refine HOn.isT ?_ ?_ | with_reducible refine pickK.isT ?_ ?_); focus (first | with_reducible rfl | with_reducible assumption | (simp only [NM, LN]; first | done | with_reducible assumption | omega)))
            | ((first | with_reducible refine GOn.isF ?_ ?_ | with_reducible refine HOn.isF ?_ ?_ | with_reducible refine pickK.isF ?_ ?_); focus (first | with_reducible rfl | with_reducible assumption | (simp only [NM, LN]; first | done | with_reducible assumption | omega)))
            | ((first | with_reducible refine GOn.split (fun h => ?_) (fun h => ?_) | with_reducible refine HOn.split (fun h => ?_) (fun h => ?_) | with_reducible refine pickK.split (fun h => ?_) (fun h => ?_)) <;> (try simp only [NM] at h))
            | with_reducible refine AWP.drawAll tyOk mixed 6 (by kernel_rfl) fun K hK => ?_
            | ((with_reducible refine CallJ.is ?_); (first | refine CallJ.pure (conformsRow_sat s.tables[k] i[k].rows[j] (by omega) (by omega)) ?_ | refine CallJ.pure (key_sat s.tables[k] _ t2) ?_ | refine CallJ.pure (compareRows_sat _ _ (by rw [keyOf_length]; omega) (by rw [keyOf_length]; omega)) ?_ | ((first | refine CallJ.lent (conformsRow_sat s.tables[k] i[k].rows[j] (by omega) (by omega)) ?_ ?_; focus (simp -dsimp (disch := (first | omega | (simp only [LN]; omega))) only [go_sem, ↓reduceIte, Nat.reduceLT, Nat.reduceLeDiff, Nat.reduceEqDiff, Nat.reduceAdd, Nat.reduceMul, Nat.reduceSub, Nat.reduceBEq, Nat.reduceBNe, Int.reduceBEq, Int.reduceLT, Int.reduceLE, reduceCtorEq, Int.reduceToNat]; done) | refine CallJ.lent (key_sat s.tables[k] _ t2) ?_ ?_; focus (simp -dsimp (disch := (first | omega | (simp only [LN]; omega))) only [go_sem, ↓reduceIte, Nat.reduceLT, Nat.reduceLeDiff, Nat.reduceEqDiff, Nat.reduceAdd, Nat.reduceMul, Nat.reduceSub, Nat.reduceBEq, Nat.reduceBNe, Int.reduceBEq, Int.reduceLT, Int.reduceLE, reduceCtorEq, Int.reduceToNat]; done) | refine CallJ.lent (compareRows_sat _ _ (by rw [keyOf_length]; omega) (by rw [keyOf_length]; omega)) ?_ ?_; focus (simp -dsimp (disch := (first | omega | (simp only [LN]; omega))) only [go_sem, ↓reduceIte, Nat.reduceLT, Nat.reduceLeDiff, Nat.reduceEqDiff, Nat.reduceAdd, Nat.reduceMul, Nat.reduceSub, Nat.reduceBEq, Nat.reduceBNe, Int.reduceBEq, Int.reduceLT, Int.reduceLE, reduceCtorEq, Int.reduceToNat]; done)))))
            | ((with_reducible refine CallH.is ?_); (first | refine CallH.intro (conformsRow_sat s.tables[k] i[k].rows[j] (by omega) (by omega)) ?_ | refine CallH.intro (key_sat s.tables[k] _ t2) ?_ | refine CallH.intro (compareRows_sat _ _ (by rw [keyOf_length]; omega) (by rw [keyOf_length]; omega)) ?_))) <;> simp -dsimp (disch := (first | omega | (simp only [LN]; omega))) only [go_sem, ↓reduceIte, Nat.reduceLT, Nat.reduceLeDiff, Nat.reduceEqDiff, Nat.reduceAdd, Nat.reduceMul, Nat.reduceSub, Nat.reduceBEq, Nat.reduceBNe, Int.reduceBEq, Int.reduceLT, Int.reduceLE, reduceCtorEq, Int.reduceToNat])
          | ((with_reducible refine hK _ ?_); clear hK K)
          | with_reducible refine AWP.seq ?_
          | with_reducible refine thenQ_normal ?_
          | with_reducible refine AWP.block ?_
          | with_reducible refine AWP.skip ?_
          | with_reducible refine AWP.ret ?_
          | with_reducible refine thenQ_ret ?_
          | with_reducible refine blockQ_ret ?_
          | with_reducible refine AWP.exit ?_
          | with_reducible refine thenQ_exit ?_
          | with_reducible refine blockQ_normal ?_
          | with_reducible refine blockQ_exit ?_
          | refine blockQ_exit_ne rfl ?_
          | (with_reducible refine And.intro (by (first | with_reducible rfl | with_reducible assumption | omega | (simp only [LN]; first | done | with_reducible rfl | omega) | (simp only [NM, LN]; first | done | with_reducible assumption | omega) | (and_intros <;> first | with_reducible assumption | omega | (simp only [LN]; omega)) | fail)) ?_)
          | ((with_reducible refine AWP.condG (T := TT) (b := ?_) ?_ ?_); rotate_left; exact rfl)
          | with_reducible refine CondG.t ?_
          | with_reducible refine CondG.f ?_
          | with_reducible refine CondG.not ?_
          | ((first | with_reducible refine CondG.isT ?_ ?_); focus (first | with_reducible rfl | with_reducible assumption | (simp only [NM, LN]; first | done | with_reducible assumption | omega)))
          | ((first | with_reducible refine CondG.isF ?_ ?_); focus (first | with_reducible rfl | with_reducible assumption | (simp only [NM, LN]; first | done | with_reducible assumption | omega)))
          | ((with_reducible refine CondG.split (fun h => ?_) (fun h => ?_)) <;> (try simp only [NM] at h)))
        all_goals first
          | (have hs : pairE s.tables[k] i[k].rows j i[k].rows[j] = none := by
               (simp (disch := omega) only [pairE, getD_lt]; (repeat' split) <;> first | rfl | with_reducible assumption | omega | (exfalso; omega) | (simp_all; done) | (simp_all; omega))
             refine ⟨⟨j + 1, by omega, by rw [scan_step hcj hs, hj]⟩, by simp only; omega, ?_⟩
             exact St.le_mk (by simp only [LE, EN, Nat.reduceEqDiff, reduceIte, Nat.reduceSub, eSch, eTbl, eRel]) (by simp only [LE, EN, Nat.reduceEqDiff, reduceIte, Nat.reduceSub, eSch, eTbl, eRel]) (by simp only [LE, EN, Nat.reduceEqDiff, reduceIte, Nat.reduceSub, eSch, eTbl, eRel])
             done)
          | (
             simp -dsimp (disch := (first | omega | (simp only [LN]; omega))) only [retQ, Try.results34, resVals, cellRV, resOf, St.rest, St.freeze, RT, go_sem, ↓reduceIte, Nat.reduceLT, Nat.reduceLeDiff, Nat.reduceEqDiff, Nat.reduceAdd, Nat.reduceMul, Nat.reduceSub, Nat.reduceBEq, Nat.reduceBNe, Int.reduceBEq, Int.reduceLT, Int.reduceLE, reduceCtorEq, Int.reduceToNat]
             rw [scan_leaf hc (hrel.trans (scan_leaf hcj ?_ hj)) hi]
             all_goals first
               | with_reducible rfl
               | (
                  (simp (disch := omega) only [pairE, getD_lt]; (repeat' split) <;> first | rfl | with_reducible assumption | omega | (exfalso; omega) | (simp_all; done) | (simp_all; omega))
                  done)
               | rfl
             done)
    · rw [scan_end (by omega)] at hj
      repeat' (first
        | ((first
          | with_reducible refine AWP.regionL tyOk fun K hK => ?_
          | ((first | with_reducible refine GOn.isT ?_ ?_ | with_reducible refine HOn.isT ?_ ?_ | with_reducible refine pickK.isT ?_ ?_); focus (first | with_reducible rfl | with_reducible assumption | (simp only [NM, LN]; first | done | with_reducible assumption | omega)))
          | ((first | with_reducible refine GOn.isF ?_ ?_ | with_reducible refine HOn.isF ?_ ?_ | with_reducible refine pickK.isF ?_ ?_); focus (first | with_reducible rfl | with_reducible assumption | (simp only [NM, LN]; first | done | with_reducible assumption | omega)))
          | ((first | with_reducible refine GOn.split (fun h => ?_) (fun h => ?_) | with_reducible refine HOn.split (fun h => ?_) (fun h => ?_) | with_reducible refine pickK.split (fun h => ?_) (fun h => ?_)) <;> (try simp only [NM] at h))
          | with_reducible refine AWP.drawAll tyOk mixed 6 (by kernel_rfl) fun K hK => ?_) <;> simp -dsimp (disch := (first | omega | (simp only [LN]; omega))) only [go_sem, ↓reduceIte, Nat.reduceLT, Nat.reduceLeDiff, Nat.reduceEqDiff, Nat.reduceAdd, Nat.reduceMul, Nat.reduceSub, Nat.reduceBEq, Nat.reduceBNe, Int.reduceBEq, Int.reduceLT, Int.reduceLE, reduceCtorEq, Int.reduceToNat])
        | ((with_reducible refine hK _ ?_); clear hK K)
        | with_reducible refine AWP.seq ?_
        | with_reducible refine thenQ_normal ?_
        | with_reducible refine AWP.block ?_
        | with_reducible refine AWP.skip ?_
        | with_reducible refine AWP.ret ?_
        | with_reducible refine thenQ_ret ?_
        | with_reducible refine blockQ_ret ?_
        | with_reducible refine AWP.exit ?_
        | with_reducible refine thenQ_exit ?_
        | with_reducible refine blockQ_normal ?_
        | with_reducible refine blockQ_exit ?_
        | refine blockQ_exit_ne rfl ?_
        | (with_reducible refine And.intro (by (first | with_reducible rfl | with_reducible assumption | omega | (simp only [LN]; first | done | with_reducible rfl | omega) | (simp only [NM, LN]; first | done | with_reducible assumption | omega) | (and_intros <;> first | with_reducible assumption | omega | (simp only [LN]; omega)) | fail)) ?_)
        | ((with_reducible refine AWP.condG (T := TT) (b := ?_) ?_ ?_); rotate_left; exact rfl)
        | with_reducible refine CondG.t ?_
        | with_reducible refine CondG.f ?_
        | with_reducible refine CondG.not ?_
        | ((first | with_reducible refine CondG.isT ?_ ?_); focus (first | with_reducible rfl | with_reducible assumption | (simp only [NM, LN]; first | done | with_reducible assumption | omega)))
        | ((first | with_reducible refine CondG.isF ?_ ?_); focus (first | with_reducible rfl | with_reducible assumption | (simp only [NM, LN]; first | done | with_reducible assumption | omega)))
        | ((with_reducible refine CondG.split (fun h => ?_) (fun h => ?_)) <;> (try simp only [NM] at h)))
      have hs : relE s k i[k] = none := by rw [hrel, ← hj]
      refine ⟨⟨k + 1, by omega, by rw [scan_step hc hs, hi]⟩, by simp only; omega, ?_⟩
      exact St.le_mk (by simp only [LE, EN, Nat.reduceEqDiff, reduceIte, Nat.reduceSub, eSch]) (by simp only [LE, EN, Nat.reduceEqDiff, reduceIte, Nat.reduceSub, eSch]) (by simp only [LE, EN, Nat.reduceEqDiff, reduceIte, Nat.reduceSub, eSch])
  · rw [scan_end (by omega)] at hi
    repeat' (first
      | ((first
        | with_reducible refine AWP.regionL tyOk fun K hK => ?_
        | ((first | with_reducible refine GOn.isT ?_ ?_ | with_reducible refine HOn.isT ?_ ?_ | with_reducible refine pickK.isT ?_ ?_); focus (first | with_reducible rfl | with_reducible assumption | (simp only [NM, LN]; first | done | with_reducible assumption | omega)))
        | ((first | with_reducible refine GOn.isF ?_ ?_ | with_reducible refine HOn.isF ?_ ?_ | with_reducible refine pickK.isF ?_ ?_); focus (first | with_reducible rfl | with_reducible assumption | (simp only [NM, LN]; first | done | with_reducible assumption | omega)))
        | ((first | with_reducible refine GOn.split (fun h => ?_) (fun h => ?_) | with_reducible refine HOn.split (fun h => ?_) (fun h => ?_) | with_reducible refine pickK.split (fun h => ?_) (fun h => ?_)) <;> (try simp only [NM] at h))
        | with_reducible refine AWP.drawAll tyOk mixed 6 (by kernel_rfl) fun K hK => ?_) <;> simp -dsimp (disch := (first | omega | (simp only [LN]; omega))) only [go_sem, ↓reduceIte, Nat.reduceLT, Nat.reduceLeDiff, Nat.reduceEqDiff, Nat.reduceAdd, Nat.reduceMul, Nat.reduceSub, Nat.reduceBEq, Nat.reduceBNe, Int.reduceBEq, Int.reduceLT, Int.reduceLE, reduceCtorEq, Int.reduceToNat])
      | ((with_reducible refine hK _ ?_); clear hK K)
      | with_reducible refine AWP.seq ?_
      | with_reducible refine thenQ_normal ?_
      | with_reducible refine AWP.block ?_
      | with_reducible refine AWP.skip ?_
      | with_reducible refine AWP.ret ?_
      | with_reducible refine thenQ_ret ?_
      | with_reducible refine blockQ_ret ?_
      | with_reducible refine AWP.exit ?_
      | with_reducible refine thenQ_exit ?_
      | with_reducible refine blockQ_normal ?_
      | with_reducible refine blockQ_exit ?_
      | refine blockQ_exit_ne rfl ?_
      | (with_reducible refine And.intro (by (first | with_reducible rfl | with_reducible assumption | omega | (simp only [LN]; first | done | with_reducible rfl | omega) | (simp only [NM, LN]; first | done | with_reducible assumption | omega) | (and_intros <;> first | with_reducible assumption | omega | (simp only [LN]; omega)) | fail)) ?_)
      | ((with_reducible refine AWP.condG (T := TT) (b := ?_) ?_ ?_); rotate_left; exact rfl)
      | with_reducible refine CondG.t ?_
      | with_reducible refine CondG.f ?_
      | with_reducible refine CondG.not ?_
      | ((first | with_reducible refine CondG.isT ?_ ?_); focus (first | with_reducible rfl | with_reducible assumption | (simp only [NM, LN]; first | done | with_reducible assumption | omega)))
      | ((first | with_reducible refine CondG.isF ?_ ?_); focus (first | with_reducible rfl | with_reducible assumption | (simp only [NM, LN]; first | done | with_reducible assumption | omega)))
      | ((with_reducible refine CondG.split (fun h => ?_) (fun h => ?_)) <;> (try simp only [NM] at h)))
    simp -dsimp (disch := (first | omega | (simp only [LN]; omega))) only [retQ, Try.results34, resVals, cellRV, resOf, St.rest, St.freeze, RT, go_sem, ↓reduceIte, Nat.reduceLT, Nat.reduceLeDiff, Nat.reduceEqDiff, Nat.reduceAdd, Nat.reduceMul, Nat.reduceSub, Nat.reduceBEq, Nat.reduceBNe, Int.reduceBEq, Int.reduceLT, Int.reduceLE, reduceCtorEq, Int.reduceToNat]
    rw [← hi]
end Go.Bw

namespace Go.Bw
open Go.Proofs

/-! ### plain: what OK says -/
theorem scan_ne {α : Type} {f : Nat → α → Option Int} (h : ∀ k x e, f k x = some e → e ≠ 0) : ∀ {l : List α} {k : Nat} {e : Int}, scan f l k = some e → e ≠ 0
  | [], k, e, he => by cases he
  | x :: l, k, e, he => by
    unfold scan at he
    split at he
    · rename_i e' he'
      injection he with he
      subst he
      exact h _ _ _ he'
    · exact scan_ne h he
theorem scan_all {α : Type} {f : Nat → α → Option Int} : ∀ {l : List α} {k : Nat}, (∀ j, ∀ h : j < l.length, f (k + j) l[j] = none) → scan f l k = none
  | [], _, _ => rfl
  | x :: l, k, h => by
    have h0 := h 0 (by simp)
    simp only [Nat.add_zero, List.getElem_cons_zero] at h0
    rw [scan, h0]
    exact scan_all fun j hj => by
      have := h (j + 1) (by simpa using hj)
      rw [show k + 1 + j = k + (j + 1) by omega]
      simpa using this
theorem scan_eq_none {α : Type} {f : Nat → α → Option Int} {l : List α} : scan f l 0 = none ↔ ∀ j, ∀ h : j < l.length, f j l[j] = none :=
  ⟨fun h j hj => by have := scan_none h j hj; rwa [Nat.zero_add] at this, fun h => scan_all fun j hj => by rw [Nat.zero_add]; exact h j hj⟩
def orE (x : Option Int) (y : Int) : Int := match x with | some e => e | none => y
theorem scan_zero {α : Type} {f : Nat → α → Option Int} {l : List α} {k : Nat} {y : Int} (h : ∀ k x e, f k x = some e → e ≠ 0) : orE (scan f l k) y = 0 ↔ scan f l k = none ∧ y = 0 := by
  cases hs : scan f l k with
  | none => simp [orE]
  | some e => simp [orE, scan_ne h hs]

theorem tblsE_ne (ts : List Tbl) : ∀ k x e, tblsE ts k x = some e → e ≠ 0 := by
  intro k x e h
  unfold tblsE at h
  split at h
  · rename_i hne; injection h with h; rw [← h]; exact hne
  · split at h
    · injection h with h; omega
    · cases h
theorem fksE_ne (s : Sch) : ∀ k x e, fksE s k x = some e → e ≠ 0 := by
  intro k x e h
  unfold fksE at h
  split at h
  · rename_i hne; injection h with h; rw [← h]; exact hne
  · split at h
    · injection h with h; omega
    · cases h
theorem consE_ne (s : Sch) : ∀ k x e, consE s k x = some e → e ≠ 0 := by
  intro k x e h
  unfold consE at h
  split at h
  · rename_i hne; injection h with h; rw [← h]; exact hne
  · split at h
    · injection h with h; omega
    · cases h
theorem schE_zero (s : Sch) : schE s = 0 ↔ (s.tables.length ≤ 6 ∧ s.fks.length ≤ 8 ∧ s.cons.length ≤ 8) ∧ (∀ j, ∀ h : j < s.tables.length, tblsE s.tables j s.tables[j] = none) ∧
    (∀ j, ∀ h : j < s.fks.length, fksE s j s.fks[j] = none) ∧ ∀ j, ∀ h : j < s.cons.length, consE s j s.cons[j] = none := by
  unfold schE
  split
  · simp only [false_iff, not_and, reduceCtorEq, show (2 : Int) ≠ 0 by decide]
    omega
  · change orE (scan (tblsE s.tables) s.tables 0) (orE (scan (fksE s) s.fks 0) (orE (scan (consE s) s.cons 0) 0)) = 0 ↔ _
    rw [scan_zero (tblsE_ne _), scan_zero (fksE_ne s), scan_zero (consE_ne s), scan_eq_none, scan_eq_none, scan_eq_none]
    constructor
    · rintro ⟨h1, h2, h3, _⟩; exact ⟨by omega, h1, h2, h3⟩
    · rintro ⟨_, h1, h2, h3⟩; exact ⟨h1, h2, h3, rfl⟩

theorem OkTbl.pk_ge {t : Tbl} (h : OkTbl t) : ∀ k, ∀ hk : k < t.pk.length, (k : Int) ≤ t.pk[k]
  | 0, hk => (h.key 0 hk).1
  | k + 1, hk => by
    have h1 := pk_ge h k (by omega)
    have h2 := (h.key (k + 1) hk).2.2.2 (by omega)
    simp only [Nat.add_sub_cancel] at h2
    omega
theorem OkTbl.pk6 {t : Tbl} (h : OkTbl t) : t.pk.length ≤ t.cols.length := by
  rcases Nat.eq_zero_or_pos t.pk.length with h0 | h0
  · omega
  · have h1 := h.pk_ge (t.pk.length - 1) (by omega)
    have h2 := (h.key (t.pk.length - 1) (by omega)).2.1
    omega

theorem fkE_zero {s : Sch} {f : FK} (h : fkE s f = 0) : ∃ i q, ∃ hi : i < s.tables.length, ∃ hq : q < s.tables.length, tblAt s.tables f.table = (i : Int) ∧ tblAt s.tables f.ref = (q : Int) ∧ f.cols.length = s.tables[q].pk.length ∧
    ∀ j, ∀ hj : j < f.cols.length, 0 ≤ f.cols[j] ∧ f.cols[j] < s.tables[i].cols.length := by
  unfold fkE at h
  split at h
  · cases h
  rename_i h0
  rcases idx_cases (fun t => sEq t.name f.table) s.tables 0 with ⟨e1, _⟩ | ⟨i, hi, e1, _⟩
  · have e1 : tblAt s.tables f.table = -1 := e1
    omega
  rcases idx_cases (fun t => sEq t.name f.ref) s.tables 0 with ⟨e2, _⟩ | ⟨q, hq, e2, _⟩
  · have e2 : tblAt s.tables f.ref = -1 := e2
    omega
  have e1 : tblAt s.tables f.table = (i : Int) := by unfold tblAt; simpa using e1
  have e2 : tblAt s.tables f.ref = (q : Int) := by unfold tblAt; simpa using e2
  simp only [e1, e2, Int.toNat_natCast, getD_lt _ hi, getD_lt _ hq, fkTE] at h
  split at h
  · cases h
  rename_i h1
  change orE (scan (fkColE s.tables[i] s.tables[q]) f.cols 0) 0 = 0 at h
  rw [scan_zero (fun k x e he => by
    unfold fkColE at he
    split at he
    · injection he with he; omega
    · split at he
      · injection he with he; omega
      · cases he), scan_eq_none] at h
  refine ⟨i, q, hi, hq, e1, e2, by omega, fun j hj => ?_⟩
  have := h.1 j hj
  unfold fkColE at this
  split at this
  · cases this
  · omega

/-- The sizes of a valid schema. -/
structure Small (s : Sch) : Prop where
  tables : s.tables.length ≤ 6
  table : ∀ t ∈ s.tables, t.cols.length ≤ 6 ∧ t.pk.length ≤ 6
  fks : s.fks.length ≤ 8
  fk : ∀ f ∈ s.fks, f.cols.length ≤ 6
  cons : s.cons.length ≤ 8
theorem small_of {s : Sch} (h : schE s = 0) : Small s := by
  have ok := okSch_of h
  obtain ⟨h1, h2, h3, h4⟩ := (schE_zero s).1 h
  refine ⟨h1.1, fun t ht => ?_, h1.2.1, fun f hf => ?_, h1.2.2⟩
  · have o := ok.tbl t ht
    have := o.pk6
    have := o.cols6
    omega
  · obtain ⟨j, hj, rfl⟩ := List.mem_iff_getElem.1 hf
    have h5 := h3 j hj
    unfold fksE at h5
    split at h5
    · cases h5
    rename_i h6
    obtain ⟨i, q, hi, hq, _, _, h7, _⟩ := fkE_zero (s := s) (f := s.fks[j]) (by simpa using h6)
    have o := ok.tbl _ (List.getElem_mem hq)
    have := o.pk6
    have := o.cols6
    omega

/-! ### instances -/
theorem cellE_ne (t : Tbl) : ∀ k x e, cellE t k x = some e → e ≠ 0 := by
  intro k x e h
  unfold cellE at h
  split at h
  · rename_i hne; injection h with h; rw [← h]; exact hne
  · split at h
    · injection h with h; omega
    · split at h
      · injection h with h; omega
      · cases h
theorem rowE_zero (t : Tbl) (r : Row) : rowE t r = 0 ↔ r.length = t.cols.length ∧ ∀ j, ∀ h : j < r.length, cellE t j r[j] = none := by
  unfold rowE
  split
  · rename_i h
    simp [show (3 : Int) ≠ 0 by decide, h]
  · rename_i h
    change orE (scan (cellE t) r 0) 0 = 0 ↔ _
    rw [scan_zero (cellE_ne t), scan_eq_none]
    simp only [and_true]
    exact ⟨fun h1 => ⟨by omega, h1⟩, fun h1 => h1.2⟩
theorem pairE_ne (t : Tbl) (rows : List Row) : ∀ k x e, pairE t rows k x = some e → e ≠ 0 := by
  intro k x e h
  unfold pairE at h
  split at h
  · rename_i hne; injection h with h; rw [← h]; exact hne
  · split at h
    · cases h
    · split at h
      · injection h with h; omega
      · split at h
        · injection h with h; omega
        · cases h
theorem relE_ne (s : Sch) : ∀ k x e, relE s k x = some e → e ≠ 0 := by
  intro k x e h
  unfold relE at h
  split at h
  · injection h with h; omega
  · split at h
    · injection h with h; omega
    · exact scan_ne (pairE_ne _ _) h

/-- A relation that conforms to its table. -/
structure OkRel (t : Tbl) (rows : List Row) : Prop where
  n24 : rows.length ≤ 24
  row : ∀ j, ∀ h : j < rows.length, rowE t rows[j] = 0
  ord : ∀ j, ∀ h : j + 1 < rows.length, cmpRows (keyOf t.pk rows[j]) (keyOf t.pk rows[j + 1]) < 0
theorem pairs_none (t : Tbl) (rows : List Row) : scan (pairE t rows) rows 0 = none ↔ (∀ j, ∀ h : j < rows.length, rowE t rows[j] = 0) ∧ ∀ j, ∀ h : j + 1 < rows.length, cmpRows (keyOf t.pk rows[j]) (keyOf t.pk rows[j + 1]) < 0 := by
  rw [scan_eq_none]
  constructor
  · intro h
    refine ⟨fun j hj => ?_, fun j hj => ?_⟩
    · have := h j hj
      unfold pairE at this
      split at this
      · cases this
      · rename_i h1; simpa using h1
    · have := h (j + 1) hj
      unfold pairE at this
      split at this
      · cases this
      split at this
      · omega
      rw [show ((j + 1 : Nat) : Int) - 1 = (j : Int) by omega, Int.toNat_natCast, getD_lt _ (by omega : j < rows.length)] at this
      split at this
      · cases this
      split at this
      · cases this
      · omega
  · rintro ⟨h1, h2⟩ j hj
    unfold pairE
    rw [if_neg (by simpa using h1 j hj)]
    cases j with
    | zero => rfl
    | succ j =>
      have := h2 j hj
      rw [if_neg (by omega), show ((j + 1 : Nat) : Int) - 1 = (j : Int) by omega, Int.toNat_natCast, getD_lt _ (by omega : j < rows.length), if_neg (by omega), if_neg (by omega)]
theorem confE_zero (s : Sch) (i : Inst) : confE s i = 0 ↔ i.length = s.tables.length ∧ ∀ k, ∀ h : k < i.length, sEq i[k].table (s.tables.getD k zTbl).name = true ∧ OkRel (s.tables.getD k zTbl) i[k].rows := by
  unfold confE
  split
  · rename_i h
    simp [show (3 : Int) ≠ 0 by decide, h]
  · rename_i h
    change orE (scan (relE s) i 0) 0 = 0 ↔ _
    rw [scan_zero (relE_ne s), scan_eq_none]
    simp only [and_true]
    constructor
    · intro h1
      refine ⟨by omega, fun k hk => ?_⟩
      have := h1 k hk
      unfold relE at this
      split at this
      · cases this
      split at this
      · cases this
      rename_i h2 h3
      obtain ⟨h4, h5⟩ := (pairs_none _ _).1 this
      exact ⟨by simpa using h2, by omega, h4, h5⟩
    · rintro ⟨_, h1⟩ k hk
      obtain ⟨h2, h3, h4, h5⟩ := h1 k hk
      unfold relE
      rw [if_neg (by rw [h2]; decide), if_neg (by omega)]
      exact (pairs_none _ _).2 ⟨h4, h5⟩

theorem bounds_of {s : Sch} {i : Inst} (hB : Bounds0 s i) (h : confE s i = 0) : Bounds s i := by
  obtain ⟨h1, h2⟩ := (confE_zero s i).1 h
  refine ⟨hB.tables, hB.table, hB.fk, fun r hr => ?_⟩
  obtain ⟨k, hk, rfl⟩ := List.mem_iff_getElem.1 hr
  obtain ⟨_, h3, h4, _⟩ := h2 k hk
  refine ⟨by omega, fun x hx => ?_⟩
  obtain ⟨j, hj, rfl⟩ := List.mem_iff_getElem.1 hx
  have h5 := ((rowE_zero _ _).1 (h4 j hj)).1
  rw [getD_lt _ (by omega : k < s.tables.length)] at h5
  have := (hB.table _ (List.getElem_mem (by omega : k < s.tables.length))).1
  omega
theorem Small.bounds0 {s : Sch} {i : Inst} (h : Small s) (hi : ∀ r ∈ i, r.rows.length ≤ 140737488355328 ∧ ∀ x ∈ r.rows, x.length ≤ 140737488355328) : Bounds0 s i :=
  ⟨by have := h.tables; omega, fun t ht => by have := h.table t ht; omega, fun f hf => by have := h.fk f hf; omega, by have := h.fks; omega, by have := h.cons; omega, hi⟩
end Go.Bw

namespace Go.Bw
open Go.Proofs

theorem idx_neg0 {α : Type} {p : α → Bool} {l : List α} : ¬ (0 ≤ idx p l 0) ↔ ∀ x ∈ l, p x = false := by
  rcases idx_cases p l 0 with ⟨h1, h2⟩ | ⟨j, hj, h1, h2, _⟩
  · rw [h1]
    exact ⟨fun _ => h2, fun _ => by omega⟩
  · rw [h1]
    constructor
    · intro h; omega
    · intro h
      rw [h _ (List.getElem_mem hj)] at h2
      cases h2
theorem dup_iff {α : Type} (p : α → α → Bool) (l : List α) : (∀ j, ∀ h : j < l.length, ¬ (0 ≤ idx (fun o => p o l[j]) (l.take j) 0)) ↔ l.Pairwise fun a b => p a b = false := by
  rw [List.pairwise_iff_getElem]
  constructor
  · intro h i j hi hj hij
    exact idx_neg0.1 (h j hj) _ (List.mem_take_iff_getElem.2 ⟨i, by omega, rfl⟩)
  · intro h j hj
    refine idx_neg0.2 fun x hx => ?_
    obtain ⟨i, hi, rfl⟩ := List.mem_take_iff_getElem.1 hx
    exact h i j (by omega) hj (by omega)
theorem fksE_all (s : Sch) : (∀ j, ∀ h : j < s.fks.length, fksE s j s.fks[j] = none) ↔ (∀ f ∈ s.fks, fkE s f = 0) ∧ s.fks.Pairwise fun a b => fkEq a b = false := by
  rw [← dup_iff]
  constructor
  · intro h
    refine ⟨fun f hf => ?_, fun j hj => ?_⟩
    · obtain ⟨j, hj, rfl⟩ := List.mem_iff_getElem.1 hf
      have := h j hj
      unfold fksE at this
      split at this
      · cases this
      · rename_i h1; simpa using h1
    · have := h j hj
      unfold fksE at this
      split at this
      · cases this
      · split at this
        · cases this
        · assumption
  · rintro ⟨h1, h2⟩ j hj
    unfold fksE
    rw [if_neg (by simp [h1 _ (List.getElem_mem hj)]), if_neg (h2 j hj)]
theorem consE_all (s : Sch) : (∀ j, ∀ h : j < s.cons.length, consE s j s.cons[j] = none) ↔ (∀ c ∈ s.cons, conE s c = 0) ∧ s.cons.Pairwise fun a b => conEq b a = false := by
  rw [← dup_iff fun a b => conEq b a]
  constructor
  · intro h
    refine ⟨fun f hf => ?_, fun j hj => ?_⟩
    · obtain ⟨j, hj, rfl⟩ := List.mem_iff_getElem.1 hf
      have := h j hj
      unfold consE at this
      split at this
      · cases this
      · rename_i h1; simpa using h1
    · have := h j hj
      unfold consE at this
      split at this
      · cases this
      · split at this
        · cases this
        · assumption
  · rintro ⟨h1, h2⟩ j hj
    unfold consE
    rw [if_neg (by simp [h1 _ (List.getElem_mem hj)]), if_neg (h2 j hj)]
/-- One element is gone. -/
def cutAt {α : Type} (l : List α) (k : Nat) : List α := l.take k ++ l.drop (k + 1)
theorem cutAt_sub {α : Type} (l : List α) (k : Nat) : (cutAt l k).Sublist l := by
  have h : (l.take k ++ l.drop (k + 1)).Sublist (l.take k ++ l.drop k) := (List.Sublist.refl _).append (by
    have : (l.drop k).drop 1 = l.drop (k + 1) := by rw [List.drop_drop]
    rw [← this]
    exact List.drop_sublist _ _)
  rwa [List.take_append_drop] at h
theorem cutAt_length {α : Type} (l : List α) {k : Nat} (h : k < l.length) : (cutAt l k).length = l.length - 1 := by
  simp [cutAt]; omega
theorem schE_sub {s : Sch} (h : schE s = 0) {fks : List FK} {cons : List Con} (hf : fks.Sublist s.fks) (hc : cons.Sublist s.cons) : schE ⟨s.tables, fks, cons⟩ = 0 := by
  obtain ⟨⟨a1, a2, a3⟩, b, c, d⟩ := (schE_zero s).1 h
  obtain ⟨c1, c2⟩ := (fksE_all s).1 c
  obtain ⟨d1, d2⟩ := (consE_all s).1 d
  refine (schE_zero _).2 ⟨⟨a1, Nat.le_trans hf.length_le a2, Nat.le_trans hc.length_le a3⟩, b, (fksE_all _).2 ⟨fun f hf' => c1 f (hf.subset hf'), c2.sublist hf⟩, (consE_all _).2 ⟨fun f hf' => d1 f (hc.subset hf'), d2.sublist hc⟩⟩
theorem Sch.Fits.sub {s : Sch} (h : s.Fits) {fks : List FK} {cons : List Con} (hf : fks.Sublist s.fks) (hc : cons.Sublist s.cons) : (⟨s.tables, fks, cons⟩ : Sch).Fits :=
  ⟨h.tables, h.table, Nat.le_trans hf.length_le h.fks, fun f hf' => h.fk f (hf.subset hf'), Nat.le_trans hc.length_le h.cons⟩
end Go.Bw
