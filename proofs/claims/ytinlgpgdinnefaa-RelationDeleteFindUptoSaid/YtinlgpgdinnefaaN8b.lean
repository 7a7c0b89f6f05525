/-
  WHAT IS PROVED HERE, of this translation: val_eq, take_eq_succ, get_of_eq, equalRow_sat, relEqual1_sat, equalFuncRows_sat, relEqual_sat, people_sat, integer_sat, bl_cons, bl_cmp, lessV_iff, lessValue_sat, rCell_sign, rCmp_sign, rCompareRows_sat, project_sat, rKeyOf_sat, sortedN_mono, sortedR_iff, sorted_sat, idx_succ, findPos_cons, findI_cons, findB_cons, deleteR_nil, deleteR_cons, upsertR_nil, upsertR_cons, sr_of, .., cells_s_Column, cells_Column, cells_s_int, cells_Table, laid, ownK, cells_oneC, cells_Row, bulk_one, bulk_part, bulk_length, rdb_int, rdb_bool, rdb_string, RdB.to, rdb_slice, rdFb_nil, rdFb_cons, rdb_struct, rdb_struct3, rdb_I, rdb_S, rdb_val, rdb_col, rdb_cols, rdb_ints, rdb_tbl, rdb_row, rdb_rows.
  A theorem that ends in sat says what the function it names returns, whatever the state it is called in; the bounds on its arguments stand ahead of it.
-/
import Derived.ChangeArms
import Derived.SizedLaws
import Derived.JoinedOf
import Derived.ChangeSame
import Derived.RowKit
import Derived.Carry
import Derived.Test.YtinlgpgdinnefaaRows
import Derived.Test.YtinlgpgdinnefaaN8a
set_option linter.unusedSimpArgs false
set_option linter.unusedVariables false

namespace Go.Bw
open Go.Proofs
attribute [local go_sem ↓] VOps_nil VOps_cons VOp_callJ VVal_callH VOps_guard GOn_tt GOn_ff GOn_tf GOn_ft GOn_not GOn_none HOn_none HOn_tt HOn_ff HOn_tf HOn_ft HOn_not VHead_nil VHead_cons VHead_guard VVal_move VVal_assign VVal_pickE pickK_true pickK_false VVal_not VVal_load loadK_fz loadK_ptr loadK_eptr VVal_fieldAddr VVal_field VVal_indexAddr idxK_sl idxK_ref VVal_index indexK_str VVal_extract VVal_binOp binK_one binK_agg VVal_build VVal_buildSlice VVal_makeFunc VVal_slice sliceK_str sliceK_sl sliceK_ref VVal_slice3 VVal_nilCheck VVal_convert convKk_int convKk_str VVal_len VVal_max VVal_min VOp_assign assignK_int assignK_bool assignK_str assignK_clo assignK_sl assignK_nil assignK_ref assignK_agg assignK_fz assignK_ptr assignK_eptr assignK_any VOp_box VOp_alloc VOp_store storeK_ptr storeK_eptr VOp_buildSlice VOp_append appK_rr appK_rs appK_rn appK_ri appK_nr appK_ns appK_nn appK_ni appStd_eq VOp_copy copyK_ref VOp_clear clearK_ref VOp_cap VOp_eqNil VOp_move VOp_pick VOp_not VOp_load VOp_fieldAddr VOp_field VOp_indexAddr VOp_index VOp_extract VOp_binTmp VOp_binInt VOp_binStr VOp_build VOp_makeFunc VOp_slice VOp_nilCheck VOp_convert VOp_len VOp_max VOp_min mO_some mT_some pk_some pk_none look_cons del_cons
attribute [local go_sem] guardB gOf int_bne beq_true beq_false Bool.not_not gSlot pickK_true pickK_false loadK_fz loadK_ptr loadK_eptr idxK_sl idxK_ref indexK_str binK_one binK_agg sliceK_str sliceK_sl sliceK_ref convKk_int convKk_str maxL minL assignK_int assignK_bool assignK_str assignK_clo assignK_sl assignK_nil assignK_ref assignK_agg assignK_fz assignK_ptr assignK_eptr assignK_any nilRow_eq takeRow_eq appended_eq storeK_ptr storeK_eptr store_mk appIn_eq appMk_eq marked_eq ovOut_nil ovOut_cons ovIn_nil ovIn_cons padRow_eq ysC capK_nil capK_ref ioSt_mk outB_nil outR_nil outB outR inB_nil inB_cons inR_nil inR_cons L.kl L.kl0 L.ids L.ids0 Option.getD_some evalO constA mO_some mT_some put_mk putO_some putO_none okD_some okD_none pk_some pk_none look_nil del_nil sput noBox_mk noRow_mk newBox_eq newRow0_eq St.killRow RowC.kill rowMap_mk rowOf ovAll ovAdd ovDel ovGet ovShift dstOf ysOf overlay_nil overlay_nil' overlay A.map V.map L.noPtr L.noPtr0 L.noRow L.noRow0 L.peek L.norm L.flat clos_int clos_bool clos_str clos_sl clos_nil clos_any clos_fz L.clos L.isFz L.kd moveL fieldOff eqCells eqCell eqOp oneOf boolOf intOfA tupOf vOf aggOf isPtrLike isSlice lenKind lenL nL elemTI loadV asV binL intBin intDivL shrL boolBin strBin boundN partCells fillL placesOf setL chunks repL capsOf capL callOf argsOf frzV_int frzV_bool frzV_str frzV_sl frzV_nil frzV_fz frzV_any frzV_own frzV_clo frzV_ref frzV_eptr frzV_ptr frzRow_nil frzRow_ov frzRs_nil frzRs_cons frzCs_nil frzCs_cons frzO_some frzO_none frzN_int frzN_bool frzN_str frzN_sl frzN_nil frzN_any frzN_own List.map_cons List.map_nil List.cons_append List.nil_append List.append_nil List.length_cons List.length_nil List.length_map List.length_append List.headD_cons List.tail_cons List.getElem?_cons_zero List.getElem?_cons_succ List.drop_zero List.drop_succ_cons List.drop_nil List.take_succ_cons List.take_zero List.take_nil List.take_length List.filter_cons List.filter_nil List.elem_cons List.elem_nil List.all_cons List.all_nil Option.bind_some Option.map_some Option.some.injEq bne_self_eq_false beq_self_eq_true if_true if_false Bool.false_eq_true true_and and_true and_self Nat.zero_add Nat.add_zero Nat.zero_le Int.toNat_natCast Int.toNat_zero Option.isSome_some List.getElem?_toArray decide_true decide_false ge_iff_le gt_iff_lt Bool.not_true Bool.not_false Nat.le_refl Bool.and_true Bool.true_and Bool.and_false Bool.false_and eVal eRow eRow1 eRows eInt1 eInts eCol eCols eTbl eTbls eFK eFKs eCon eCons eSch eRel eInst eChg eChgs szOf getD_map_lt wrap_nat wrap_in List.take_of_length_le frz_eVal frz_eRow1 frz_eInt1 frz_eCol frz_eTbl frz_eFK frz_eCon frz_eRel frz_eChg noOwn_nil noOwn_cons noOwn_append L.isOwn noOwn_eVal noOwn_eRow1 noOwn_eInt1 noOwn_eCol noOwn_eTbl noOwn_eFK noOwn_eCon noOwn_eRel noOwn_eChg convK_2 convK_3 convK_5 convK_12 convK_21 convK_28 convK_156 convK_164 TT_2 TT_3 TT_4 TT_5 TT_9 TT_12 TT_13 TT_21 TT_22 TT_23 TT_24 TT_25 TT_26 TT_28 TT_30 TT_31 TT_32 TT_33 TT_37 TT_38 TT_41 TT_42 TT_43 TT_54 TT_55 TT_58 TT_59 TT_60 TT_61 TT_65 TT_66 TT_70 TT_71 TT_78 TT_82 TT_83 TT_102 TT_126 TT_130 TT_156 TT_164 boolTy_4 eqK_38 eqK_59 eqK_61
attribute [local congr] VOps.congr VHead.congr VOp.congr VVal.congr pk.congr assignK.congr appK.congr appStd.congr copyK.congr clearK.congr storeK.congr loadK.congr idxK.congr sliceK.congr indexK.congr binK.congr convKk.congr
theorem val_eq {a b : Val} : a = b ↔ a.kind = b.kind ∧ a.int = b.int ∧ a.text.toList = b.text.toList := by
  constructor
  · rintro rfl; exact ⟨rfl, rfl, rfl⟩
  · rintro ⟨h1, h2, h3⟩
    cases a; cases b
    simp only at h1 h2 h3
    rw [h1, h2, toList_inj h3]
theorem take_eq_succ {α : Type} {a b : List α} {k : Nat} (ha : k < a.length) (hb : k < b.length) (h : a.take k = b.take k) (e : a[k] = b[k]) : a.take (k + 1) = b.take (k + 1) := by
  rw [take_snoc a k ha, take_snoc b k hb, h, e]
theorem get_of_eq {α : Type} {a b : List α} {k : Nat} (ha : k < a.length) (hb : k < b.length) (h : a = b) : a[k] = b[k] := by subst h; rfl

set_option maxHeartbeats 8000000 in
theorem equalRow_sat (a b : Row) (h1 : a.length ≤ 140737488355328) (h2 : b.length ≤ 140737488355328) : Sat Try.prog 69 [.one (eRow a), .one (eRow b)] (.v (oB (decide (a = b)))) := by
  refine sat_of_body tyOk Try.func69 rfl (by kernel_rfl) ⟨Nat.le_of_ble_eq_true rfl, Nat.le_of_ble_eq_true rfl⟩ fun w0 m0 F0 => ?_
  simp only [Try.ntmps69, envOf, Nat.reduceAdd]
  repeat' (first
    | ((first
      | with_reducible refine AWP.regionL tyOk fun K hK => ?_
      | ((with_reducible first | refine GOn.isT ?_ ?_ | refine HOn.isT ?_ ?_ | refine pickK.isT ?_ ?_); focus (first | with_reducible rfl | with_reducible assumption | (simp only [NM, LN]; first | done | with_reducible assumption | omega)))
      | ((with_reducible first | refine GOn.isF ?_ ?_ | refine HOn.isF ?_ ?_ | refine pickK.isF ?_ ?_); focus (first | with_reducible rfl | with_reducible assumption | (simp only [NM, LN]; first | done | with_reducible assumption | omega)))
      | ((with_reducible first | refine GOn.split (fun h => ?_) (fun h => ?_) | refine HOn.split (fun h => ?_) (fun h => ?_) | refine pickK.split (fun h => ?_) (fun h => ?_)) <;> (try simp only [NM] at h))
      | with_reducible refine AWP.drawAll tyOk mixed 6 (by kernel_rfl) fun K hK => ?_) <;> simp -dsimp (disch := (first | omega | (simp only [LN]; omega))) only [go_sem, ↓reduceIte, seval])
    | ((with_reducible refine hK _ ?_); clear hK K)
    | (with_reducible first | refine AWP.seq ?_ | refine thenQ_normal ?_ | refine AWP.block ?_ | refine AWP.skip ?_ | refine AWP.ret ?_ | refine thenQ_ret ?_ | refine blockQ_ret ?_ | refine AWP.exit ?_ | refine thenQ_exit ?_ | refine blockQ_normal ?_ | refine blockQ_exit ?_)
    | refine blockQ_exit_ne rfl ?_
    | (with_reducible refine And.intro (by (first | with_reducible rfl | with_reducible assumption | omega | (simp only [LN]; first | done | with_reducible rfl | omega) | (simp only [NM, LN]; first | done | with_reducible assumption | omega) | (and_intros <;> first | with_reducible assumption | omega | (simp only [LN]; omega)) | fail)) ?_)
    | ((with_reducible refine AWP.condG (T := TT) (b := ?_) ?_ ?_); rotate_left; exact rfl)
    | (with_reducible first | refine CondG.t ?_ | refine CondG.f ?_ | refine CondG.not ?_)
    | ((with_reducible refine CondG.isT ?_ ?_); focus (first | with_reducible rfl | with_reducible assumption | (simp only [NM, LN]; first | done | with_reducible assumption | omega)))
    | ((with_reducible refine CondG.isF ?_ ?_); focus (first | with_reducible rfl | with_reducible assumption | (simp only [NM, LN]; first | done | with_reducible assumption | omega)))
    | ((with_reducible refine CondG.split (fun h => ?_) (fun h => ?_)) <;> (try simp only [NM] at h)))
  rotate_left
  · simp -dsimp (disch := (first | omega | (simp only [LN]; omega))) only [retQ, Try.results69, resVals, cellRV, resOf, St.rest, St.freeze, RT, go_sem, ↓reduceIte, seval]
    have hn : ¬ a = b := fun e => by rw [e] at h; exact h rfl
    simp [hn]
  have hl : a.length = b.length := by omega
  refine AWP.loop (ι := {k : Nat // k ≤ a.length ∧ a.take k = b.take k}) (fun k => ⟨26, [(0, .v (.one (eRow a))), (1, .v (.one (eRow b))), (12, .v (oI a.length)), (13, .v (oI k.1))], [], []⟩) (fun k => a.length - k.1) ⟨0, Nat.zero_le _, rfl⟩ ?_ fun ⟨k, hkl, hi⟩ => ?_
  · exact St.le_mk (by simp only [LE, EN, Nat.reduceEqDiff, reduceIte, Nat.reduceSub]) (by simp only [LE, EN, Nat.reduceEqDiff, reduceIte, Nat.reduceSub]) (by simp only [LE, EN, Nat.reduceEqDiff, reduceIte, Nat.reduceSub])
  rcases Nat.lt_or_ge k a.length with hc | hc
  · have hb : k < b.length := by omega
    repeat' (first
      | ((first
        | with_reducible refine AWP.regionL tyOk fun K hK => ?_
        | ((with_reducible first | refine GOn.isT ?_ ?_ | refine HOn.isT ?_ ?_ | refine pickK.isT ?_ ?_); focus (first | with_reducible rfl | with_reducible assumption | (simp only [NM, LN]; first | done | with_reducible assumption | omega)))
        | ((with_reducible first | refine GOn.isF ?_ ?_ | refine HOn.isF ?_ ?_ | refine pickK.isF ?_ ?_); focus (first | with_reducible rfl | with_reducible assumption | (simp only [NM, LN]; first | done | with_reducible assumption | omega)))
        | ((with_reducible first | refine GOn.split (fun h => ?_) (fun h => ?_) | refine HOn.split (fun h => ?_) (fun h => ?_) | refine pickK.split (fun h => ?_) (fun h => ?_)) <;> (try simp only [NM] at h))
        | with_reducible refine AWP.drawAll tyOk mixed 6 (by kernel_rfl) fun K hK => ?_) <;> simp -dsimp (disch := (first | omega | (simp only [LN]; omega))) only [go_sem, ↓reduceIte, seval])
      | ((with_reducible refine hK _ ?_); clear hK K)
      | (with_reducible first | refine AWP.seq ?_ | refine thenQ_normal ?_ | refine AWP.block ?_ | refine AWP.skip ?_ | refine AWP.ret ?_ | refine thenQ_ret ?_ | refine blockQ_ret ?_ | refine AWP.exit ?_ | refine thenQ_exit ?_ | refine blockQ_normal ?_ | refine blockQ_exit ?_)
      | refine blockQ_exit_ne rfl ?_
      | (with_reducible refine And.intro (by (first | with_reducible rfl | with_reducible assumption | omega | (simp only [LN]; first | done | with_reducible rfl | omega) | (simp only [NM, LN]; first | done | with_reducible assumption | omega) | (and_intros <;> first | with_reducible assumption | omega | (simp only [LN]; omega)) | fail)) ?_)
      | ((with_reducible refine AWP.condG (T := TT) (b := ?_) ?_ ?_); rotate_left; exact rfl)
      | (with_reducible first | refine CondG.t ?_ | refine CondG.f ?_ | refine CondG.not ?_)
      | ((with_reducible refine CondG.isT ?_ ?_); focus (first | with_reducible rfl | with_reducible assumption | (simp only [NM, LN]; first | done | with_reducible assumption | omega)))
      | ((with_reducible refine CondG.isF ?_ ?_); focus (first | with_reducible rfl | with_reducible assumption | (simp only [NM, LN]; first | done | with_reducible assumption | omega)))
      | ((with_reducible refine CondG.split (fun h => ?_) (fun h => ?_)) <;> (try simp only [NM] at h)))
    · refine ⟨⟨k + 1, by omega, take_eq_succ hc hb hi (val_eq.2 h)⟩, by simp only; omega, ?_⟩
      exact St.le_mk (by simp only [LE, EN, Nat.reduceEqDiff, reduceIte, Nat.reduceSub]) (by simp only [LE, EN, Nat.reduceEqDiff, reduceIte, Nat.reduceSub]) (by simp only [LE, EN, Nat.reduceEqDiff, reduceIte, Nat.reduceSub])
    · simp -dsimp (disch := (first | omega | (simp only [LN]; omega))) only [retQ, Try.results69, resVals, cellRV, resOf, St.rest, St.freeze, RT, go_sem, ↓reduceIte, seval]
      have hn : ¬ a = b := fun e => by
        obtain ⟨e1, e2, e3⟩ := val_eq.1 (get_of_eq hc hb e)
        exact h e1 e2 e3
      simp [hn]
  · have hk : a = b := by
      rw [List.take_of_length_le (by omega), List.take_of_length_le (by omega)] at hi
      exact hi
    repeat' (first
      | ((first
        | with_reducible refine AWP.regionL tyOk fun K hK => ?_
        | ((with_reducible first | refine GOn.isT ?_ ?_ | refine HOn.isT ?_ ?_ | refine pickK.isT ?_ ?_); focus (first | with_reducible rfl | with_reducible assumption | (simp only [NM, LN]; first | done | with_reducible assumption | omega)))
        | ((with_reducible first | refine GOn.isF ?_ ?_ | refine HOn.isF ?_ ?_ | refine pickK.isF ?_ ?_); focus (first | with_reducible rfl | with_reducible assumption | (simp only [NM, LN]; first | done | with_reducible assumption | omega)))
        | ((with_reducible first | refine GOn.split (fun h => ?_) (fun h => ?_) | refine HOn.split (fun h => ?_) (fun h => ?_) | refine pickK.split (fun h => ?_) (fun h => ?_)) <;> (try simp only [NM] at h))
        | with_reducible refine AWP.drawAll tyOk mixed 6 (by kernel_rfl) fun K hK => ?_) <;> simp -dsimp (disch := (first | omega | (simp only [LN]; omega))) only [go_sem, ↓reduceIte, seval])
      | ((with_reducible refine hK _ ?_); clear hK K)
      | (with_reducible first | refine AWP.seq ?_ | refine thenQ_normal ?_ | refine AWP.block ?_ | refine AWP.skip ?_ | refine AWP.ret ?_ | refine thenQ_ret ?_ | refine blockQ_ret ?_ | refine AWP.exit ?_ | refine thenQ_exit ?_ | refine blockQ_normal ?_ | refine blockQ_exit ?_)
      | refine blockQ_exit_ne rfl ?_
      | (with_reducible refine And.intro (by (first | with_reducible rfl | with_reducible assumption | omega | (simp only [LN]; first | done | with_reducible rfl | omega) | (simp only [NM, LN]; first | done | with_reducible assumption | omega) | (and_intros <;> first | with_reducible assumption | omega | (simp only [LN]; omega)) | fail)) ?_)
      | ((with_reducible refine AWP.condG (T := TT) (b := ?_) ?_ ?_); rotate_left; exact rfl)
      | (with_reducible first | refine CondG.t ?_ | refine CondG.f ?_ | refine CondG.not ?_)
      | ((with_reducible refine CondG.isT ?_ ?_); focus (first | with_reducible rfl | with_reducible assumption | (simp only [NM, LN]; first | done | with_reducible assumption | omega)))
      | ((with_reducible refine CondG.isF ?_ ?_); focus (first | with_reducible rfl | with_reducible assumption | (simp only [NM, LN]; first | done | with_reducible assumption | omega)))
      | ((with_reducible refine CondG.split (fun h => ?_) (fun h => ?_)) <;> (try simp only [NM] at h)))
    simp -dsimp (disch := (first | omega | (simp only [LN]; omega))) only [retQ, Try.results69, resVals, cellRV, resOf, St.rest, St.freeze, RT, go_sem, ↓reduceIte, seval]
    simp [hk]
theorem relEqual1_sat (a b : Row) (h1 : a.length ≤ 140737488355328) (h2 : b.length ≤ 140737488355328) : Sat Try.prog 68 [.one (eRow a), .one (eRow b)] (.v (oB (decide (a = b)))) := by
  refine sat_of_body tyOk Try.func68 rfl (by kernel_rfl) ⟨Nat.le_of_ble_eq_true rfl, Nat.le_of_ble_eq_true rfl⟩ fun w0 m0 F0 => ?_
  simp only [Try.ntmps68, envOf, Nat.reduceAdd]
  repeat' (first
    | ((first
      | with_reducible refine AWP.regionL tyOk fun K hK => ?_
      | ((with_reducible first | refine GOn.isT ?_ ?_ | refine HOn.isT ?_ ?_ | refine pickK.isT ?_ ?_); focus (first | with_reducible rfl | with_reducible assumption | (simp only [NM, LN]; first | done | with_reducible assumption | omega)))
      | ((with_reducible first | refine GOn.isF ?_ ?_ | refine HOn.isF ?_ ?_ | refine pickK.isF ?_ ?_); focus (first | with_reducible rfl | with_reducible assumption | (simp only [NM, LN]; first | done | with_reducible assumption | omega)))
      | ((with_reducible first | refine GOn.split (fun h => ?_) (fun h => ?_) | refine HOn.split (fun h => ?_) (fun h => ?_) | refine pickK.split (fun h => ?_) (fun h => ?_)) <;> (try simp only [NM] at h))
      | with_reducible refine AWP.drawAll tyOk mixed 6 (by kernel_rfl) fun K hK => ?_
      | ((with_reducible refine CallJ.is ?_); (first | refine CallJ.pure (equalRow_sat a b h1 h2) ?_ | ((apply CallJ.lentI); (focus (simp -dsimp (disch := (first | omega | (simp only [LN]; omega))) only [go_sem, ↓reduceIte, seval]; rfl)); (focus (first | exact (equalRow_sat a b h1 h2))))))
      | ((with_reducible refine CallH.is ?_); (first | refine CallH.intro (equalRow_sat a b h1 h2) ?_))) <;> simp -dsimp (disch := (first | omega | (simp only [LN]; omega))) only [go_sem, ↓reduceIte, seval])
    | ((with_reducible refine hK _ ?_); clear hK K)
    | (with_reducible first | refine AWP.seq ?_ | refine thenQ_normal ?_ | refine AWP.block ?_ | refine AWP.skip ?_ | refine AWP.ret ?_ | refine thenQ_ret ?_ | refine blockQ_ret ?_ | refine AWP.exit ?_ | refine thenQ_exit ?_ | refine blockQ_normal ?_ | refine blockQ_exit ?_)
    | refine blockQ_exit_ne rfl ?_
    | (with_reducible refine And.intro (by (first | with_reducible rfl | with_reducible assumption | omega | (simp only [LN]; first | done | with_reducible rfl | omega) | (simp only [NM, LN]; first | done | with_reducible assumption | omega) | (and_intros <;> first | with_reducible assumption | omega | (simp only [LN]; omega)) | fail)) ?_)
    | ((with_reducible refine AWP.condG (T := TT) (b := ?_) ?_ ?_); rotate_left; exact rfl)
    | (with_reducible first | refine CondG.t ?_ | refine CondG.f ?_ | refine CondG.not ?_)
    | ((with_reducible refine CondG.isT ?_ ?_); focus (first | with_reducible rfl | with_reducible assumption | (simp only [NM, LN]; first | done | with_reducible assumption | omega)))
    | ((with_reducible refine CondG.isF ?_ ?_); focus (first | with_reducible rfl | with_reducible assumption | (simp only [NM, LN]; first | done | with_reducible assumption | omega)))
    | ((with_reducible refine CondG.split (fun h => ?_) (fun h => ?_)) <;> (try simp only [NM] at h)))
  simp -dsimp (disch := (first | omega | (simp only [LN]; omega))) only [retQ, Try.results68, resVals, cellRV, resOf, St.rest, St.freeze, RT, go_sem, ↓reduceIte, seval]
set_option maxHeartbeats 8000000 in
theorem equalFuncRows_sat (a b : List Row) (h1 : a.length ≤ 140737488355328) (h2 : b.length ≤ 140737488355328) (h3 : ∀ r ∈ a, r.length ≤ 140737488355328) (h4 : ∀ r ∈ b, r.length ≤ 140737488355328) :
    Sat Try.prog 67 [.one (eRows a), .one (eRows b), .one (.clo 68 [])] (.v (oB (decide (a = b)))) := by
  refine sat_of_body tyOk Try.func67 rfl (by kernel_rfl) ⟨Nat.le_of_ble_eq_true rfl, Nat.le_of_ble_eq_true rfl⟩ fun w0 m0 F0 => ?_
  simp only [Try.ntmps67, envOf, Nat.reduceAdd]
  repeat' (first
    | ((first
      | with_reducible refine AWP.regionL tyOk fun K hK => ?_
      | ((with_reducible first | refine GOn.isT ?_ ?_ | refine HOn.isT ?_ ?_ | refine pickK.isT ?_ ?_); focus (first | with_reducible rfl | with_reducible assumption | (simp only [NM, LN]; first | done | with_reducible assumption | omega)))
      | ((with_reducible first | refine GOn.isF ?_ ?_ | refine HOn.isF ?_ ?_ | refine pickK.isF ?_ ?_); focus (first | with_reducible rfl | with_reducible assumption | (simp only [NM, LN]; first | done | with_reducible assumption | omega)))
      | ((with_reducible first | refine GOn.split (fun h => ?_) (fun h => ?_) | refine HOn.split (fun h => ?_) (fun h => ?_) | refine pickK.split (fun h => ?_) (fun h => ?_)) <;> (try simp only [NM] at h))
      | with_reducible refine AWP.drawAll tyOk mixed 6 (by kernel_rfl) fun K hK => ?_) <;> simp -dsimp (disch := (first | omega | (simp only [LN]; omega))) only [go_sem, ↓reduceIte, seval])
    | ((with_reducible refine hK _ ?_); clear hK K)
    | (with_reducible first | refine AWP.seq ?_ | refine thenQ_normal ?_ | refine AWP.block ?_ | refine AWP.skip ?_ | refine AWP.ret ?_ | refine thenQ_ret ?_ | refine blockQ_ret ?_ | refine AWP.exit ?_ | refine thenQ_exit ?_ | refine blockQ_normal ?_ | refine blockQ_exit ?_)
    | refine blockQ_exit_ne rfl ?_
    | (with_reducible refine And.intro (by (first | with_reducible rfl | with_reducible assumption | omega | (simp only [LN]; first | done | with_reducible rfl | omega) | (simp only [NM, LN]; first | done | with_reducible assumption | omega) | (and_intros <;> first | with_reducible assumption | omega | (simp only [LN]; omega)) | fail)) ?_)
    | ((with_reducible refine AWP.condG (T := TT) (b := ?_) ?_ ?_); rotate_left; exact rfl)
    | (with_reducible first | refine CondG.t ?_ | refine CondG.f ?_ | refine CondG.not ?_)
    | ((with_reducible refine CondG.isT ?_ ?_); focus (first | with_reducible rfl | with_reducible assumption | (simp only [NM, LN]; first | done | with_reducible assumption | omega)))
    | ((with_reducible refine CondG.isF ?_ ?_); focus (first | with_reducible rfl | with_reducible assumption | (simp only [NM, LN]; first | done | with_reducible assumption | omega)))
    | ((with_reducible refine CondG.split (fun h => ?_) (fun h => ?_)) <;> (try simp only [NM] at h)))
  rotate_left
  · simp -dsimp (disch := (first | omega | (simp only [LN]; omega))) only [retQ, Try.results67, resVals, cellRV, resOf, St.rest, St.freeze, RT, go_sem, ↓reduceIte, seval]
    have hn : ¬ a = b := fun e => by rw [e] at h; exact h rfl
    simp [hn]
  have hl : a.length = b.length := by omega
  refine AWP.loop (ι := {k : Nat // k ≤ a.length ∧ a.take k = b.take k}) (fun k => ⟨32, [(1, .v (.one (eRows b))), (2, .v (.one (.clo 68 []))), (15, .v (.one (eRows a))), (16, .v (oI a.length)), (17, .v (oI k.1))], [], []⟩) (fun k => a.length - k.1) ⟨0, Nat.zero_le _, rfl⟩ ?_ fun ⟨k, hkl, hi⟩ => ?_
  · exact St.le_mk (by simp only [LE, EN, Nat.reduceEqDiff, reduceIte, Nat.reduceSub]) (by simp only [LE, EN, Nat.reduceEqDiff, reduceIte, Nat.reduceSub]) (by simp only [LE, EN, Nat.reduceEqDiff, reduceIte, Nat.reduceSub])
  rcases Nat.lt_or_ge k a.length with hc | hc
  · have hb : k < b.length := by omega
    repeat' (first
      | ((first
        | with_reducible refine AWP.regionL tyOk fun K hK => ?_
        | ((with_reducible first | refine GOn.isT ?_ ?_ | refine HOn.isT ?_ ?_ | refine pickK.isT ?_ ?_); focus (first | with_reducible rfl | with_reducible assumption | (simp only [NM, LN]; first | done | with_reducible assumption | omega)))
        | ((with_reducible first | refine GOn.isF ?_ ?_ | refine HOn.isF ?_ ?_ | refine pickK.isF ?_ ?_); focus (first | with_reducible rfl | with_reducible assumption | (simp only [NM, LN]; first | done | with_reducible assumption | omega)))
        | ((with_reducible first | refine GOn.split (fun h => ?_) (fun h => ?_) | refine HOn.split (fun h => ?_) (fun h => ?_) | refine pickK.split (fun h => ?_) (fun h => ?_)) <;> (try simp only [NM] at h))
        | with_reducible refine AWP.drawAll tyOk mixed 6 (by kernel_rfl) fun K hK => ?_
        | ((with_reducible refine CallJ.is ?_); (first | refine CallJ.pure (relEqual1_sat a[k] b[k] (h3 _ (List.getElem_mem hc)) (h4 _ (List.getElem_mem hb))) ?_ | ((apply CallJ.lentI); (focus (simp -dsimp (disch := (first | omega | (simp only [LN]; omega))) only [go_sem, ↓reduceIte, seval]; rfl)); (focus (first | exact (relEqual1_sat a[k] b[k] (h3 _ (List.getElem_mem hc)) (h4 _ (List.getElem_mem hb))))))))
        | ((with_reducible refine CallH.is ?_); (first | refine CallH.intro (relEqual1_sat a[k] b[k] (h3 _ (List.getElem_mem hc)) (h4 _ (List.getElem_mem hb))) ?_))) <;> simp -dsimp (disch := (first | omega | (simp only [LN]; omega))) only [go_sem, ↓reduceIte, seval])
      | ((with_reducible refine hK _ ?_); clear hK K)
      | (with_reducible first | refine AWP.seq ?_ | refine thenQ_normal ?_ | refine AWP.block ?_ | refine AWP.skip ?_ | refine AWP.ret ?_ | refine thenQ_ret ?_ | refine blockQ_ret ?_ | refine AWP.exit ?_ | refine thenQ_exit ?_ | refine blockQ_normal ?_ | refine blockQ_exit ?_)
      | refine blockQ_exit_ne rfl ?_
      | (with_reducible refine And.intro (by (first | with_reducible rfl | with_reducible assumption | omega | (simp only [LN]; first | done | with_reducible rfl | omega) | (simp only [NM, LN]; first | done | with_reducible assumption | omega) | (and_intros <;> first | with_reducible assumption | omega | (simp only [LN]; omega)) | fail)) ?_)
      | ((with_reducible refine AWP.condG (T := TT) (b := ?_) ?_ ?_); rotate_left; exact rfl)
      | (with_reducible first | refine CondG.t ?_ | refine CondG.f ?_ | refine CondG.not ?_)
      | ((with_reducible refine CondG.isT ?_ ?_); focus (first | with_reducible rfl | with_reducible assumption | (simp only [NM, LN]; first | done | with_reducible assumption | omega)))
      | ((with_reducible refine CondG.isF ?_ ?_); focus (first | with_reducible rfl | with_reducible assumption | (simp only [NM, LN]; first | done | with_reducible assumption | omega)))
      | ((with_reducible refine CondG.split (fun h => ?_) (fun h => ?_)) <;> (try simp only [NM] at h)))
    all_goals first
      | (refine ⟨⟨k + 1, by omega, take_eq_succ hc hb hi ‹_›⟩, by simp only; omega, ?_⟩
         exact St.le_mk (by simp only [LE, EN, Nat.reduceEqDiff, reduceIte, Nat.reduceSub]) (by simp only [LE, EN, Nat.reduceEqDiff, reduceIte, Nat.reduceSub]) (by simp only [LE, EN, Nat.reduceEqDiff, reduceIte, Nat.reduceSub])
         done)
      | (have hn : ¬ a = b := fun e => ‹¬ _› (get_of_eq hc hb e)
         simp -dsimp (disch := (first | omega | (simp only [LN]; omega))) only [retQ, Try.results67, resVals, cellRV, resOf, St.rest, St.freeze, RT, go_sem, ↓reduceIte, seval]
         simp [hn])
  · have hk : a = b := by
      rw [List.take_of_length_le (by omega), List.take_of_length_le (by omega)] at hi
      exact hi
    repeat' (first
      | ((first
        | with_reducible refine AWP.regionL tyOk fun K hK => ?_
        | ((with_reducible first | refine GOn.isT ?_ ?_ | refine HOn.isT ?_ ?_ | refine pickK.isT ?_ ?_); focus (first | with_reducible rfl | with_reducible assumption | (simp only [NM, LN]; first | done | with_reducible assumption | omega)))
        | ((with_reducible first | refine GOn.isF ?_ ?_ | refine HOn.isF ?_ ?_ | refine pickK.isF ?_ ?_); focus (first | with_reducible rfl | with_reducible assumption | (simp only [NM, LN]; first | done | with_reducible assumption | omega)))
        | ((with_reducible first | refine GOn.split (fun h => ?_) (fun h => ?_) | refine HOn.split (fun h => ?_) (fun h => ?_) | refine pickK.split (fun h => ?_) (fun h => ?_)) <;> (try simp only [NM] at h))
        | with_reducible refine AWP.drawAll tyOk mixed 6 (by kernel_rfl) fun K hK => ?_) <;> simp -dsimp (disch := (first | omega | (simp only [LN]; omega))) only [go_sem, ↓reduceIte, seval])
      | ((with_reducible refine hK _ ?_); clear hK K)
      | (with_reducible first | refine AWP.seq ?_ | refine thenQ_normal ?_ | refine AWP.block ?_ | refine AWP.skip ?_ | refine AWP.ret ?_ | refine thenQ_ret ?_ | refine blockQ_ret ?_ | refine AWP.exit ?_ | refine thenQ_exit ?_ | refine blockQ_normal ?_ | refine blockQ_exit ?_)
      | refine blockQ_exit_ne rfl ?_
      | (with_reducible refine And.intro (by (first | with_reducible rfl | with_reducible assumption | omega | (simp only [LN]; first | done | with_reducible rfl | omega) | (simp only [NM, LN]; first | done | with_reducible assumption | omega) | (and_intros <;> first | with_reducible assumption | omega | (simp only [LN]; omega)) | fail)) ?_)
      | ((with_reducible refine AWP.condG (T := TT) (b := ?_) ?_ ?_); rotate_left; exact rfl)
      | (with_reducible first | refine CondG.t ?_ | refine CondG.f ?_ | refine CondG.not ?_)
      | ((with_reducible refine CondG.isT ?_ ?_); focus (first | with_reducible rfl | with_reducible assumption | (simp only [NM, LN]; first | done | with_reducible assumption | omega)))
      | ((with_reducible refine CondG.isF ?_ ?_); focus (first | with_reducible rfl | with_reducible assumption | (simp only [NM, LN]; first | done | with_reducible assumption | omega)))
      | ((with_reducible refine CondG.split (fun h => ?_) (fun h => ?_)) <;> (try simp only [NM] at h)))
    simp -dsimp (disch := (first | omega | (simp only [LN]; omega))) only [retQ, Try.results67, resVals, cellRV, resOf, St.rest, St.freeze, RT, go_sem, ↓reduceIte, seval]
    simp [hk]
theorem relEqual_sat (a b : List Row) (h1 : a.length ≤ 140737488355328) (h2 : b.length ≤ 140737488355328) (h3 : ∀ r ∈ a, r.length ≤ 140737488355328) (h4 : ∀ r ∈ b, r.length ≤ 140737488355328) :
    Sat Try.prog 24 [.one (eRows a), .one (eRows b)] (.v (oB (decide (a = b)))) := by
  refine sat_of_body tyOk Try.func24 rfl (by kernel_rfl) ⟨Nat.le_of_ble_eq_true rfl, Nat.le_of_ble_eq_true rfl⟩ fun w0 m0 F0 => ?_
  simp only [Try.ntmps24, envOf, Nat.reduceAdd]
  repeat' (first
    | ((first
      | with_reducible refine AWP.regionL tyOk fun K hK => ?_
      | ((with_reducible first | refine GOn.isT ?_ ?_ | refine HOn.isT ?_ ?_ | refine pickK.isT ?_ ?_); focus (first | with_reducible rfl | with_reducible assumption | (simp only [NM, LN]; first | done | with_reducible assumption | omega)))
      | ((with_reducible first | refine GOn.isF ?_ ?_ | refine HOn.isF ?_ ?_ | refine pickK.isF ?_ ?_); focus (first | with_reducible rfl | with_reducible assumption | (simp only [NM, LN]; first | done | with_reducible assumption | omega)))
      | ((with_reducible first | refine GOn.split (fun h => ?_) (fun h => ?_) | refine HOn.split (fun h => ?_) (fun h => ?_) | refine pickK.split (fun h => ?_) (fun h => ?_)) <;> (try simp only [NM] at h))
      | with_reducible refine AWP.drawAll tyOk mixed 6 (by kernel_rfl) fun K hK => ?_
      | ((with_reducible refine CallJ.is ?_); (first | refine CallJ.pure (equalFuncRows_sat a b h1 h2 h3 h4) ?_ | ((apply CallJ.lentI); (focus (simp -dsimp (disch := (first | omega | (simp only [LN]; omega))) only [go_sem, ↓reduceIte, seval]; rfl)); (focus (first | exact (equalFuncRows_sat a b h1 h2 h3 h4))))))
      | ((with_reducible refine CallH.is ?_); (first | refine CallH.intro (equalFuncRows_sat a b h1 h2 h3 h4) ?_))) <;> simp -dsimp (disch := (first | omega | (simp only [LN]; omega))) only [go_sem, ↓reduceIte, seval])
    | ((with_reducible refine hK _ ?_); clear hK K)
    | (with_reducible first | refine AWP.seq ?_ | refine thenQ_normal ?_ | refine AWP.block ?_ | refine AWP.skip ?_ | refine AWP.ret ?_ | refine thenQ_ret ?_ | refine blockQ_ret ?_ | refine AWP.exit ?_ | refine thenQ_exit ?_ | refine blockQ_normal ?_ | refine blockQ_exit ?_)
    | refine blockQ_exit_ne rfl ?_
    | (with_reducible refine And.intro (by (first | with_reducible rfl | with_reducible assumption | omega | (simp only [LN]; first | done | with_reducible rfl | omega) | (simp only [NM, LN]; first | done | with_reducible assumption | omega) | (and_intros <;> first | with_reducible assumption | omega | (simp only [LN]; omega)) | fail)) ?_)
    | ((with_reducible refine AWP.condG (T := TT) (b := ?_) ?_ ?_); rotate_left; exact rfl)
    | (with_reducible first | refine CondG.t ?_ | refine CondG.f ?_ | refine CondG.not ?_)
    | ((with_reducible refine CondG.isT ?_ ?_); focus (first | with_reducible rfl | with_reducible assumption | (simp only [NM, LN]; first | done | with_reducible assumption | omega)))
    | ((with_reducible refine CondG.isF ?_ ?_); focus (first | with_reducible rfl | with_reducible assumption | (simp only [NM, LN]; first | done | with_reducible assumption | omega)))
    | ((with_reducible refine CondG.split (fun h => ?_) (fun h => ?_)) <;> (try simp only [NM] at h)))
  simp -dsimp (disch := (first | omega | (simp only [LN]; omega))) only [retQ, Try.results24, resVals, cellRV, resOf, St.rest, St.freeze, RT, go_sem, ↓reduceIte, seval]

def bId : ByteArray := ⟨#[105, 100]⟩
def bName : ByteArray := ⟨#[110, 97, 109, 101]⟩
def bPeople : ByteArray := ⟨#[112, 101, 111, 112, 108, 101]⟩
def peopleT : Tbl := ⟨bPeople, [⟨bId, 1, false⟩, ⟨bName, 3, true⟩], [0]⟩

theorem people_sat : Sat Try.prog 48 [] (.v (.agg (eTbl peopleT))) := by
  refine sat_of_body tyOk Try.func48 rfl (by kernel_rfl) ⟨Nat.le_of_ble_eq_true rfl, Nat.le_of_ble_eq_true rfl⟩ fun w0 m0 F0 => ?_
  simp only [Try.ntmps48, envOf, Nat.reduceAdd]
  repeat' (first
    | ((first
      | with_reducible refine AWP.regionL tyOk fun K hK => ?_
      | ((with_reducible first | refine GOn.isT ?_ ?_ | refine HOn.isT ?_ ?_ | refine pickK.isT ?_ ?_); focus (first | with_reducible rfl | with_reducible assumption | (simp only [NM, LN]; first | done | with_reducible assumption | omega)))
      | ((with_reducible first | refine GOn.isF ?_ ?_ | refine HOn.isF ?_ ?_ | refine pickK.isF ?_ ?_); focus (first | with_reducible rfl | with_reducible assumption | (simp only [NM, LN]; first | done | with_reducible assumption | omega)))
      | ((with_reducible first | refine GOn.split (fun h => ?_) (fun h => ?_) | refine HOn.split (fun h => ?_) (fun h => ?_) | refine pickK.split (fun h => ?_) (fun h => ?_)) <;> (try simp only [NM] at h))
      | with_reducible refine AWP.drawAll tyOk mixed 6 (by kernel_rfl) fun K hK => ?_) <;> simp -dsimp (disch := (first | omega | (simp only [LN]; omega))) only [go_sem, ↓reduceIte, seval])
    | ((with_reducible refine hK _ ?_); clear hK K)
    | (with_reducible first | refine AWP.seq ?_ | refine thenQ_normal ?_ | refine AWP.block ?_ | refine AWP.skip ?_ | refine AWP.ret ?_ | refine thenQ_ret ?_ | refine blockQ_ret ?_ | refine AWP.exit ?_ | refine thenQ_exit ?_ | refine blockQ_normal ?_ | refine blockQ_exit ?_)
    | refine blockQ_exit_ne rfl ?_
    | (with_reducible refine And.intro (by (first | with_reducible rfl | with_reducible assumption | omega | (simp only [LN]; first | done | with_reducible rfl | omega) | (simp only [NM, LN]; first | done | with_reducible assumption | omega) | (and_intros <;> first | with_reducible assumption | omega | (simp only [LN]; omega)) | fail)) ?_)
    | ((with_reducible refine AWP.condG (T := TT) (b := ?_) ?_ ?_); rotate_left; exact rfl)
    | (with_reducible first | refine CondG.t ?_ | refine CondG.f ?_ | refine CondG.not ?_)
    | ((with_reducible refine CondG.isT ?_ ?_); focus (first | with_reducible rfl | with_reducible assumption | (simp only [NM, LN]; first | done | with_reducible assumption | omega)))
    | ((with_reducible refine CondG.isF ?_ ?_); focus (first | with_reducible rfl | with_reducible assumption | (simp only [NM, LN]; first | done | with_reducible assumption | omega)))
    | ((with_reducible refine CondG.split (fun h => ?_) (fun h => ?_)) <;> (try simp only [NM] at h)))
  simp -dsimp (disch := (first | omega | (simp only [LN]; omega))) only [retQ, Try.results48, resVals, cellRV, resOf, St.rest, St.freeze, RT, go_sem, ↓reduceIte, seval]
  first | done | rfl
theorem integer_sat (n : Int) : Sat Try.prog 59 [oI n] (.v (.agg (eVal ⟨1, n, ByteArray.empty⟩))) := by
  refine sat_of_body tyOk Try.func59 rfl (by kernel_rfl) ⟨Nat.le_of_ble_eq_true rfl, Nat.le_of_ble_eq_true rfl⟩ fun w0 m0 F0 => ?_
  simp only [Try.ntmps59, envOf, Nat.reduceAdd]
  repeat' (first
    | ((first
      | with_reducible refine AWP.regionL tyOk fun K hK => ?_
      | ((with_reducible first | refine GOn.isT ?_ ?_ | refine HOn.isT ?_ ?_ | refine pickK.isT ?_ ?_); focus (first | with_reducible rfl | with_reducible assumption | (simp only [NM, LN]; first | done | with_reducible assumption | omega)))
      | ((with_reducible first | refine GOn.isF ?_ ?_ | refine HOn.isF ?_ ?_ | refine pickK.isF ?_ ?_); focus (first | with_reducible rfl | with_reducible assumption | (simp only [NM, LN]; first | done | with_reducible assumption | omega)))
      | ((with_reducible first | refine GOn.split (fun h => ?_) (fun h => ?_) | refine HOn.split (fun h => ?_) (fun h => ?_) | refine pickK.split (fun h => ?_) (fun h => ?_)) <;> (try simp only [NM] at h))
      | with_reducible refine AWP.drawAll tyOk mixed 6 (by kernel_rfl) fun K hK => ?_) <;> simp -dsimp (disch := (first | omega | (simp only [LN]; omega))) only [go_sem, ↓reduceIte, seval])
    | ((with_reducible refine hK _ ?_); clear hK K)
    | (with_reducible first | refine AWP.seq ?_ | refine thenQ_normal ?_ | refine AWP.block ?_ | refine AWP.skip ?_ | refine AWP.ret ?_ | refine thenQ_ret ?_ | refine blockQ_ret ?_ | refine AWP.exit ?_ | refine thenQ_exit ?_ | refine blockQ_normal ?_ | refine blockQ_exit ?_)
    | refine blockQ_exit_ne rfl ?_
    | (with_reducible refine And.intro (by (first | with_reducible rfl | with_reducible assumption | omega | (simp only [LN]; first | done | with_reducible rfl | omega) | (simp only [NM, LN]; first | done | with_reducible assumption | omega) | (and_intros <;> first | with_reducible assumption | omega | (simp only [LN]; omega)) | fail)) ?_)
    | ((with_reducible refine AWP.condG (T := TT) (b := ?_) ?_ ?_); rotate_left; exact rfl)
    | (with_reducible first | refine CondG.t ?_ | refine CondG.f ?_ | refine CondG.not ?_)
    | ((with_reducible refine CondG.isT ?_ ?_); focus (first | with_reducible rfl | with_reducible assumption | (simp only [NM, LN]; first | done | with_reducible assumption | omega)))
    | ((with_reducible refine CondG.isF ?_ ?_); focus (first | with_reducible rfl | with_reducible assumption | (simp only [NM, LN]; first | done | with_reducible assumption | omega)))
    | ((with_reducible refine CondG.split (fun h => ?_) (fun h => ?_)) <;> (try simp only [NM] at h)))
  simp -dsimp (disch := (first | omega | (simp only [LN]; omega))) only [retQ, Try.results59, resVals, cellRV, resOf, St.rest, St.freeze, RT, go_sem, ↓reduceIte, seval]
end Go.Bw

namespace Go.Bw
open Go.Proofs
theorem bl_cons (x y : UInt8) (a b : List UInt8) : Op.bytesLess (x :: a) (y :: b) = true ↔ x.toNat < y.toNat ∨ (x = y ∧ Op.bytesLess a b = true) := by
  simp [Op.bytesLess, UInt8.lt_iff_toNat_lt]
end Go.Bw

namespace Go.Bw
open Go.Proofs
attribute [local go_sem ↓] VOps_nil VOps_cons VOp_callJ VVal_callH VOps_guard GOn_tt GOn_ff GOn_tf GOn_ft GOn_not GOn_none HOn_none HOn_tt HOn_ff HOn_tf HOn_ft HOn_not VHead_nil VHead_cons VHead_guard VVal_move VVal_assign VVal_pickE pickK_true pickK_false VVal_not VVal_load loadK_fz loadK_ptr loadK_eptr VVal_fieldAddr VVal_field VVal_indexAddr idxK_sl idxK_ref VVal_index indexK_str VVal_extract VVal_binOp binK_one binK_agg VVal_build VVal_buildSlice VVal_makeFunc VVal_slice sliceK_str sliceK_sl sliceK_ref VVal_slice3 VVal_nilCheck VVal_convert convKk_int convKk_str VVal_len VVal_max VVal_min VOp_assign assignK_int assignK_bool assignK_str assignK_clo assignK_sl assignK_nil assignK_ref assignK_agg assignK_fz assignK_ptr assignK_eptr assignK_any VOp_box VOp_alloc VOp_store storeK_ptr storeK_eptr VOp_buildSlice VOp_append appK_rr appK_rs appK_rn appK_ri appK_nr appK_ns appK_nn appK_ni appStd_eq VOp_copy copyK_ref VOp_clear clearK_ref VOp_cap VOp_eqNil VOp_move VOp_pick VOp_not VOp_load VOp_fieldAddr VOp_field VOp_indexAddr VOp_index VOp_extract VOp_binTmp VOp_binInt VOp_binStr VOp_build VOp_makeFunc VOp_slice VOp_nilCheck VOp_convert VOp_len VOp_max VOp_min mO_some mT_some pk_some pk_none look_cons del_cons
attribute [local go_sem] guardB gOf int_bne beq_true beq_false Bool.not_not gSlot pickK_true pickK_false loadK_fz loadK_ptr loadK_eptr idxK_sl idxK_ref indexK_str binK_one binK_agg sliceK_str sliceK_sl sliceK_ref convKk_int convKk_str maxL minL assignK_int assignK_bool assignK_str assignK_clo assignK_sl assignK_nil assignK_ref assignK_agg assignK_fz assignK_ptr assignK_eptr assignK_any nilRow_eq takeRow_eq appended_eq storeK_ptr storeK_eptr store_mk appIn_eq appMk_eq marked_eq ovOut_nil ovOut_cons ovIn_nil ovIn_cons padRow_eq ysC capK_nil capK_ref ioSt_mk outB_nil outR_nil outB outR inB_nil inB_cons inR_nil inR_cons L.kl L.kl0 L.ids L.ids0 Option.getD_some evalO constA mO_some mT_some put_mk putO_some putO_none okD_some okD_none pk_some pk_none look_nil del_nil sput noBox_mk noRow_mk newBox_eq newRow0_eq St.killRow RowC.kill rowMap_mk rowOf ovAll ovAdd ovDel ovGet ovShift dstOf ysOf overlay_nil overlay_nil' overlay A.map V.map L.noPtr L.noPtr0 L.noRow L.noRow0 L.peek L.norm L.flat clos_int clos_bool clos_str clos_sl clos_nil clos_any clos_fz L.clos L.isFz L.kd moveL fieldOff eqCells eqCell eqOp oneOf boolOf intOfA tupOf vOf aggOf isPtrLike isSlice lenKind lenL nL elemTI loadV asV binL intBin intDivL shrL boolBin strBin boundN partCells fillL placesOf setL chunks repL capsOf capL callOf argsOf frzV_int frzV_bool frzV_str frzV_sl frzV_nil frzV_fz frzV_any frzV_own frzV_clo frzV_ref frzV_eptr frzV_ptr frzRow_nil frzRow_ov frzRs_nil frzRs_cons frzCs_nil frzCs_cons frzO_some frzO_none frzN_int frzN_bool frzN_str frzN_sl frzN_nil frzN_any frzN_own List.map_cons List.map_nil List.cons_append List.nil_append List.append_nil List.length_cons List.length_nil List.length_map List.length_append List.headD_cons List.tail_cons List.getElem?_cons_zero List.getElem?_cons_succ List.drop_zero List.drop_succ_cons List.drop_nil List.take_succ_cons List.take_zero List.take_nil List.take_length List.filter_cons List.filter_nil List.elem_cons List.elem_nil List.all_cons List.all_nil Option.bind_some Option.map_some Option.some.injEq bne_self_eq_false beq_self_eq_true if_true if_false Bool.false_eq_true true_and and_true and_self Nat.zero_add Nat.add_zero Nat.zero_le Int.toNat_natCast Int.toNat_zero Option.isSome_some List.getElem?_toArray decide_true decide_false ge_iff_le gt_iff_lt Bool.not_true Bool.not_false Nat.le_refl Bool.and_true Bool.true_and Bool.and_false Bool.false_and eVal eRow eRow1 eRows eInt1 eInts eCol eCols eTbl eTbls eFK eFKs eCon eCons eSch eRel eInst eChg eChgs szOf getD_map_lt wrap_nat wrap_in List.take_of_length_le frz_eVal frz_eRow1 frz_eInt1 frz_eCol frz_eTbl frz_eFK frz_eCon frz_eRel frz_eChg noOwn_nil noOwn_cons noOwn_append L.isOwn noOwn_eVal noOwn_eRow1 noOwn_eInt1 noOwn_eCol noOwn_eTbl noOwn_eFK noOwn_eCon noOwn_eRel noOwn_eChg convK_2 convK_3 convK_5 convK_12 convK_21 convK_28 convK_156 convK_164 TT_2 TT_3 TT_4 TT_5 TT_9 TT_12 TT_13 TT_21 TT_22 TT_23 TT_24 TT_25 TT_26 TT_28 TT_30 TT_31 TT_32 TT_33 TT_37 TT_38 TT_41 TT_42 TT_43 TT_54 TT_55 TT_58 TT_59 TT_60 TT_61 TT_65 TT_66 TT_70 TT_71 TT_78 TT_82 TT_83 TT_102 TT_126 TT_130 TT_156 TT_164 boolTy_4 eqK_38 eqK_59 eqK_61
attribute [local congr] VOps.congr VHead.congr VOp.congr VVal.congr pk.congr assignK.congr appK.congr appStd.congr copyK.congr clearK.congr storeK.congr loadK.congr idxK.congr sliceK.congr indexK.congr binK.congr convKk.congr
/-- The reference's order. -/
def lessV (a b : Val) : Bool := if a.kind ≠ b.kind then decide (a.kind < b.kind) else if a.int ≠ b.int then decide (a.int < b.int) else Op.bytesLess a.text.toList b.text.toList
theorem bl_cmp : ∀ a b : List UInt8, Op.bytesLess a b = decide (Lib.compareBytes a b < 0)
  | [], [] => rfl
  | [], _ :: _ => by simp [Op.bytesLess, Lib.compareBytes]
  | _ :: _, [] => by simp [Op.bytesLess, Lib.compareBytes]
  | x :: a, y :: b => by
    have h := bl_cons x y a b
    have ih := bl_cmp a b
    rw [Bool.eq_iff_iff, h, ih]
    have hxy : x = y ↔ x.toNat = y.toNat := ⟨fun h => by rw [h], fun h => UInt8.toNat_inj.1 h⟩
    simp only [Lib.compareBytes, UInt8.lt_iff_toNat_lt, hxy, decide_eq_true_eq]
    (repeat' split) <;> omega
theorem lessV_iff (a b : Val) : lessV a b = decide (cmpV a b < 0) := by
  unfold lessV cmpV
  rw [bl_cmp, ByteArray.toList_eq, ByteArray.toList_eq]
  have h1 : cmpInts a.kind b.kind = 0 ↔ a.kind = b.kind := cmpInts_is.eq0 _ _
  have h2 : cmpInts a.int b.int = 0 ↔ a.int = b.int := cmpInts_is.eq0 _ _
  have k1 : cmpInts a.kind b.kind < 0 ↔ a.kind < b.kind := by unfold cmpInts; (repeat' split) <;> omega
  have k2 : cmpInts a.int b.int < 0 ↔ a.int < b.int := by unfold cmpInts; (repeat' split) <;> omega
  by_cases e1 : a.kind = b.kind
  · rw [if_neg (show ¬ (a.kind ≠ b.kind) from fun h => h e1), if_neg (show ¬ (cmpInts a.kind b.kind ≠ 0) from fun h => h (h1.2 e1))]
    by_cases e2 : a.int = b.int
    · rw [if_neg (show ¬ (a.int ≠ b.int) from fun h => h e2), if_neg (show ¬ (cmpInts a.int b.int ≠ 0) from fun h => h (h2.2 e2))]; rfl
    · rw [if_pos (show a.int ≠ b.int from e2), if_pos (show cmpInts a.int b.int ≠ 0 from fun h => e2 (h2.1 h))]; simp [k2]
  · rw [if_pos (show a.kind ≠ b.kind from e1), if_pos (show cmpInts a.kind b.kind ≠ 0 from fun h => e1 (h1.1 h))]; simp [k1]

set_option maxHeartbeats 8000000 in
theorem lessValue_sat (a b : Val) : Sat Try.prog 96 [.agg (eVal a), .agg (eVal b)] (.v (oB (lessV a b))) := by
  refine sat_of_body tyOk Try.func96 rfl (by kernel_rfl) ⟨Nat.le_of_ble_eq_true rfl, Nat.le_of_ble_eq_true rfl⟩ fun w0 m0 F0 => ?_
  simp only [Try.ntmps96, envOf, Nat.reduceAdd]
  repeat' (first
    | ((first
      | with_reducible refine AWP.regionL tyOk fun K hK => ?_
      | ((with_reducible first | refine GOn.isT ?_ ?_ | refine HOn.isT ?_ ?_ | refine pickK.isT ?_ ?_); focus (first | with_reducible rfl | with_reducible assumption | (simp only [NM, LN]; first | done | with_reducible assumption | omega)))
      | ((with_reducible first | refine GOn.isF ?_ ?_ | refine HOn.isF ?_ ?_ | refine pickK.isF ?_ ?_); focus (first | with_reducible rfl | with_reducible assumption | (simp only [NM, LN]; first | done | with_reducible assumption | omega)))
      | ((with_reducible first | refine GOn.split (fun h => ?_) (fun h => ?_) | refine HOn.split (fun h => ?_) (fun h => ?_) | refine pickK.split (fun h => ?_) (fun h => ?_)) <;> (try simp only [NM] at h))
      | with_reducible refine AWP.drawAll tyOk mixed 6 (by kernel_rfl) fun K hK => ?_) <;> simp -dsimp (disch := (first | omega | (simp only [LN]; omega))) only [go_sem, ↓reduceIte, seval])
    | ((with_reducible refine hK _ ?_); clear hK K)
    | (with_reducible first | refine AWP.seq ?_ | refine thenQ_normal ?_ | refine AWP.block ?_ | refine AWP.skip ?_ | refine AWP.ret ?_ | refine thenQ_ret ?_ | refine blockQ_ret ?_ | refine AWP.exit ?_ | refine thenQ_exit ?_ | refine blockQ_normal ?_ | refine blockQ_exit ?_)
    | refine blockQ_exit_ne rfl ?_
    | (with_reducible refine And.intro (by (first | with_reducible rfl | with_reducible assumption | omega | (simp only [LN]; first | done | with_reducible rfl | omega) | (simp only [NM, LN]; first | done | with_reducible assumption | omega) | (and_intros <;> first | with_reducible assumption | omega | (simp only [LN]; omega)) | fail)) ?_)
    | ((with_reducible refine AWP.condG (T := TT) (b := ?_) ?_ ?_); rotate_left; exact rfl)
    | (with_reducible first | refine CondG.t ?_ | refine CondG.f ?_ | refine CondG.not ?_)
    | ((with_reducible refine CondG.isT ?_ ?_); focus (first | with_reducible rfl | with_reducible assumption | (simp only [NM, LN]; first | done | with_reducible assumption | omega)))
    | ((with_reducible refine CondG.isF ?_ ?_); focus (first | with_reducible rfl | with_reducible assumption | (simp only [NM, LN]; first | done | with_reducible assumption | omega)))
    | ((with_reducible refine CondG.split (fun h => ?_) (fun h => ?_)) <;> (try simp only [NM] at h)))
  all_goals simp -dsimp (disch := (first | omega | (simp only [LN]; omega))) only [retQ, Try.results96, resVals, cellRV, resOf, St.rest, St.freeze, RT, go_sem, ↓reduceIte, seval]
  all_goals simp_all [lessV]

def rCell (b : Row) (k : Nat) (x : Val) : Option Int := if k < b.length ∧ cmpV x (b.getD k zV) < 0 then some (-1) else if k < b.length ∧ cmpV (b.getD k zV) x < 0 then some 1 else none
def rCmp (a b : Row) : Int := match scan (rCell b) a 0 with
  | some e => e
  | none => cmpInts a.length b.length
theorem rCell_sign (b : Row) (k : Nat) (x : Val) : (match rCell b k x, cmpCell b k x with | some e, some e' => (e < 0 ↔ e' < 0) ∧ (e = 0 ↔ e' = 0) | none, none => True | _, _ => False) := by
  unfold rCell cmpCell
  have h1 := cmpV_is.anti x (b.getD k zV)
  by_cases hk : k < b.length
  · simp only [hk, true_and]
    rcases Int.lt_trichotomy (cmpV x (b.getD k zV)) 0 with h | h | h
    · rw [if_pos h, if_pos (by omega)]; simp only; omega
    · rw [if_neg (by omega), if_neg (by omega), if_neg (by omega)]; trivial
    · rw [if_neg (by omega), if_pos (by omega), if_pos (by omega)]; simp only; omega
  · simp [hk]
theorem rCmp_sign (a b : Row) : (rCmp a b < 0 ↔ cmpRows a b < 0) ∧ (rCmp a b = 0 ↔ cmpRows a b = 0) := by
  have key : ∀ (l : Row) (k : Nat), (match scan (rCell b) l k, scan (cmpCell b) l k with | some e, some e' => (e < 0 ↔ e' < 0) ∧ (e = 0 ↔ e' = 0) | none, none => True | _, _ => False) := by
    intro l
    induction l with
    | nil => intro k; trivial
    | cons x l ih =>
      intro k
      have h := rCell_sign b k x
      rw [scan, scan]
      cases h1 : rCell b k x with
      | none =>
        cases h2 : cmpCell b k x with
        | none => exact ih (k + 1)
        | some e => rw [h1, h2] at h; exact h.elim
      | some e =>
        cases h2 : cmpCell b k x with
        | none => rw [h1, h2] at h; exact h.elim
        | some e' => rw [h1, h2] at h; exact h
  have h := key a 0
  unfold rCmp cmpRows
  cases h1 : scan (rCell b) a 0 with
  | none =>
    cases h2 : scan (cmpCell b) a 0 with
    | none => exact ⟨Iff.rfl, Iff.rfl⟩
    | some e => rw [h1, h2] at h; exact h.elim
  | some e =>
    cases h2 : scan (cmpCell b) a 0 with
    | none => rw [h1, h2] at h; exact h.elim
    | some e' => rw [h1, h2] at h; exact h

set_option maxHeartbeats 8000000 in
theorem rCompareRows_sat (a b : Row) (h1 : a.length ≤ 140737488355328) (h2 : b.length ≤ 140737488355328) : Sat Try.prog 60 [.one (eRow a), .one (eRow b)] (.v (oI (rCmp a b))) := by
  refine sat_of_body tyOk Try.func60 rfl (by kernel_rfl) ⟨Nat.le_of_ble_eq_true rfl, Nat.le_of_ble_eq_true rfl⟩ fun w0 m0 F0 => ?_
  simp only [Try.ntmps60, envOf, Nat.reduceAdd]
  repeat' (first
    | ((first
      | with_reducible refine AWP.regionL tyOk fun K hK => ?_
      | ((with_reducible first | refine GOn.isT ?_ ?_ | refine HOn.isT ?_ ?_ | refine pickK.isT ?_ ?_); focus (first | with_reducible rfl | with_reducible assumption | (simp only [NM, LN]; first | done | with_reducible assumption | omega)))
      | ((with_reducible first | refine GOn.isF ?_ ?_ | refine HOn.isF ?_ ?_ | refine pickK.isF ?_ ?_); focus (first | with_reducible rfl | with_reducible assumption | (simp only [NM, LN]; first | done | with_reducible assumption | omega)))
      | ((with_reducible first | refine GOn.split (fun h => ?_) (fun h => ?_) | refine HOn.split (fun h => ?_) (fun h => ?_) | refine pickK.split (fun h => ?_) (fun h => ?_)) <;> (try simp only [NM] at h))
      | with_reducible refine AWP.drawAll tyOk mixed 6 (by kernel_rfl) fun K hK => ?_) <;> simp -dsimp (disch := (first | omega | (simp only [LN]; omega))) only [go_sem, ↓reduceIte, seval])
    | ((with_reducible refine hK _ ?_); clear hK K)
    | (with_reducible first | refine AWP.seq ?_ | refine thenQ_normal ?_ | refine AWP.block ?_ | refine AWP.skip ?_ | refine AWP.ret ?_ | refine thenQ_ret ?_ | refine blockQ_ret ?_ | refine AWP.exit ?_ | refine thenQ_exit ?_ | refine blockQ_normal ?_ | refine blockQ_exit ?_)
    | refine blockQ_exit_ne rfl ?_
    | (with_reducible refine And.intro (by (first | with_reducible rfl | with_reducible assumption | omega | (simp only [LN]; first | done | with_reducible rfl | omega) | (simp only [NM, LN]; first | done | with_reducible assumption | omega) | (and_intros <;> first | with_reducible assumption | omega | (simp only [LN]; omega)) | fail)) ?_)
    | ((with_reducible refine AWP.condG (T := TT) (b := ?_) ?_ ?_); rotate_left; exact rfl)
    | (with_reducible first | refine CondG.t ?_ | refine CondG.f ?_ | refine CondG.not ?_)
    | ((with_reducible refine CondG.isT ?_ ?_); focus (first | with_reducible rfl | with_reducible assumption | (simp only [NM, LN]; first | done | with_reducible assumption | omega)))
    | ((with_reducible refine CondG.isF ?_ ?_); focus (first | with_reducible rfl | with_reducible assumption | (simp only [NM, LN]; first | done | with_reducible assumption | omega)))
    | ((with_reducible refine CondG.split (fun h => ?_) (fun h => ?_)) <;> (try simp only [NM] at h)))
  refine AWP.loop (ι := {k : Nat // k ≤ a.length ∧ k ≤ b.length ∧ scan (rCell b) (a.drop k) k = scan (rCell b) a 0}) (fun k => ⟨48, [(0, .v (.one (eRow a))), (1, .v (.one (eRow b))), (5, .v (oI k.1))], [], []⟩) (fun k => a.length - k.1) ⟨0, Nat.zero_le _, Nat.zero_le _, rfl⟩ ?_ fun ⟨k, hkl, hkb, hi⟩ => ?_
  · exact St.le_mk (by simp only [LE, EN, Nat.reduceEqDiff, reduceIte, Nat.reduceSub]) (by simp only [LE, EN, Nat.reduceEqDiff, reduceIte, Nat.reduceSub]) (by simp only [LE, EN, Nat.reduceEqDiff, reduceIte, Nat.reduceSub])
  by_cases hc : k < a.length ∧ k < b.length
  · obtain ⟨hc1, hc2⟩ := hc
    have l1 := lessV_iff a[k] b[k]
    have l2 := lessV_iff b[k] a[k]
    by_cases c1 : cmpV a[k] b[k] < 0
    · have hs : rCell b k a[k] = some (-1) := by
        rw [rCell, getD_lt _ hc2, if_pos ⟨hc2, c1⟩]
      rw [decide_eq_true c1] at l1
      repeat' (first
        | ((first
          | with_reducible refine AWP.regionL tyOk fun K hK => ?_
          | ((with_reducible first | refine GOn.isT ?_ ?_ | refine HOn.isT ?_ ?_ | refine pickK.isT ?_ ?_); focus (first | with_reducible rfl | with_reducible assumption | (simp only [NM, LN]; first | done | with_reducible assumption | omega)))
          | ((with_reducible first | refine GOn.isF ?_ ?_ | refine HOn.isF ?_ ?_ | refine pickK.isF ?_ ?_); focus (first | with_reducible rfl | with_reducible assumption | (simp only [NM, LN]; first | done | with_reducible assumption | omega)))
          | ((with_reducible first | refine GOn.split (fun h => ?_) (fun h => ?_) | refine HOn.split (fun h => ?_) (fun h => ?_) | refine pickK.split (fun h => ?_) (fun h => ?_)) <;> (try simp only [NM] at h))
          | with_reducible refine AWP.drawAll tyOk mixed 6 (by kernel_rfl) fun K hK => ?_
          | ((with_reducible refine CallJ.is ?_); (first | refine CallJ.pure (lessValue_sat _ _) ?_ | ((apply CallJ.lentI); (focus (simp -dsimp (disch := (first | omega | (simp only [LN]; omega))) only [go_sem, ↓reduceIte, seval, l1]; rfl)); (focus (first | exact (lessValue_sat _ _))))))
          | ((with_reducible refine CallH.is ?_); (first | refine CallH.intro (lessValue_sat _ _) ?_))) <;> simp -dsimp (disch := (first | omega | (simp only [LN]; omega))) only [go_sem, ↓reduceIte, seval, l1])
        | ((with_reducible refine hK _ ?_); clear hK K)
        | (with_reducible first | refine AWP.seq ?_ | refine thenQ_normal ?_ | refine AWP.block ?_ | refine AWP.skip ?_ | refine AWP.ret ?_ | refine thenQ_ret ?_ | refine blockQ_ret ?_ | refine AWP.exit ?_ | refine thenQ_exit ?_ | refine blockQ_normal ?_ | refine blockQ_exit ?_)
        | refine blockQ_exit_ne rfl ?_
        | (with_reducible refine And.intro (by (first | with_reducible rfl | with_reducible assumption | omega | (simp only [LN]; first | done | with_reducible rfl | omega) | (simp only [NM, LN]; first | done | with_reducible assumption | omega) | (and_intros <;> first | with_reducible assumption | omega | (simp only [LN]; omega)) | fail)) ?_)
        | ((with_reducible refine AWP.condG (T := TT) (b := ?_) ?_ ?_); rotate_left; exact rfl)
        | (with_reducible first | refine CondG.t ?_ | refine CondG.f ?_ | refine CondG.not ?_)
        | ((with_reducible refine CondG.isT ?_ ?_); focus (first | with_reducible rfl | with_reducible assumption | (simp only [NM, LN]; first | done | with_reducible assumption | omega)))
        | ((with_reducible refine CondG.isF ?_ ?_); focus (first | with_reducible rfl | with_reducible assumption | (simp only [NM, LN]; first | done | with_reducible assumption | omega)))
        | ((with_reducible refine CondG.split (fun h => ?_) (fun h => ?_)) <;> (try simp only [NM] at h)))
      simp -dsimp (disch := (first | omega | (simp only [LN]; omega))) only [retQ, Try.results60, resVals, cellRV, resOf, St.rest, St.freeze, RT, go_sem, ↓reduceIte, seval]
      rw [rCmp, scan_leaf (by omega) hs hi]
    · rw [decide_eq_false (by omega)] at l1
      by_cases c2 : cmpV b[k] a[k] < 0
      · have hs : rCell b k a[k] = some 1 := by
          rw [rCell, getD_lt _ hc2, if_neg (by omega), if_pos ⟨hc2, c2⟩]
        rw [decide_eq_true c2] at l2
        repeat' (first
          | ((first
            | with_reducible refine AWP.regionL tyOk fun K hK => ?_
            | ((with_reducible first | refine GOn.isT ?_ ?_ | refine HOn.isT ?_ ?_ | refine pickK.isT ?_ ?_); focus (first | with_reducible rfl | with_reducible assumption | (simp only [NM, LN]; first | done | with_reducible assumption | omega)))
            | ((with_reducible first | refine GOn.isF ?_ ?_ | refine HOn.isF ?_ ?_ | refine pickK.isF ?_ ?_); focus (first | with_reducible rfl | with_reducible assumption | (simp only [NM, LN]; first | done | with_reducible assumption | omega)))
            | ((with_reducible first | refine GOn.split (fun h => ?_) (fun h => ?_) | refine HOn.split (fun h => ?_) (fun h => ?_) | refine pickK.split (fun h => ?_) (fun h => ?_)) <;> (try simp only [NM] at h))
            | with_reducible refine AWP.drawAll tyOk mixed 6 (by kernel_rfl) fun K hK => ?_
            | ((with_reducible refine CallJ.is ?_); (first | refine CallJ.pure (lessValue_sat _ _) ?_ | ((apply CallJ.lentI); (focus (simp -dsimp (disch := (first | omega | (simp only [LN]; omega))) only [go_sem, ↓reduceIte, seval, l1, l2]; rfl)); (focus (first | exact (lessValue_sat _ _))))))
            | ((with_reducible refine CallH.is ?_); (first | refine CallH.intro (lessValue_sat _ _) ?_))) <;> simp -dsimp (disch := (first | omega | (simp only [LN]; omega))) only [go_sem, ↓reduceIte, seval, l1, l2])
          | ((with_reducible refine hK _ ?_); clear hK K)
          | (with_reducible first | refine AWP.seq ?_ | refine thenQ_normal ?_ | refine AWP.block ?_ | refine AWP.skip ?_ | refine AWP.ret ?_ | refine thenQ_ret ?_ | refine blockQ_ret ?_ | refine AWP.exit ?_ | refine thenQ_exit ?_ | refine blockQ_normal ?_ | refine blockQ_exit ?_)
          | refine blockQ_exit_ne rfl ?_
          | (with_reducible refine And.intro (by (first | with_reducible rfl | with_reducible assumption | omega | (simp only [LN]; first | done | with_reducible rfl | omega) | (simp only [NM, LN]; first | done | with_reducible assumption | omega) | (and_intros <;> first | with_reducible assumption | omega | (simp only [LN]; omega)) | fail)) ?_)
          | ((with_reducible refine AWP.condG (T := TT) (b := ?_) ?_ ?_); rotate_left; exact rfl)
          | (with_reducible first | refine CondG.t ?_ | refine CondG.f ?_ | refine CondG.not ?_)
          | ((with_reducible refine CondG.isT ?_ ?_); focus (first | with_reducible rfl | with_reducible assumption | (simp only [NM, LN]; first | done | with_reducible assumption | omega)))
          | ((with_reducible refine CondG.isF ?_ ?_); focus (first | with_reducible rfl | with_reducible assumption | (simp only [NM, LN]; first | done | with_reducible assumption | omega)))
          | ((with_reducible refine CondG.split (fun h => ?_) (fun h => ?_)) <;> (try simp only [NM] at h)))
        simp -dsimp (disch := (first | omega | (simp only [LN]; omega))) only [retQ, Try.results60, resVals, cellRV, resOf, St.rest, St.freeze, RT, go_sem, ↓reduceIte, seval]
        rw [rCmp, scan_leaf (by omega) hs hi]
      · have hs : rCell b k a[k] = none := by
          rw [rCell, getD_lt _ hc2, if_neg (by omega), if_neg (by omega)]
        rw [decide_eq_false (by omega)] at l2
        repeat' (first
          | ((first
            | with_reducible refine AWP.regionL tyOk fun K hK => ?_
            | ((with_reducible first | refine GOn.isT ?_ ?_ | refine HOn.isT ?_ ?_ | refine pickK.isT ?_ ?_); focus (first | with_reducible rfl | with_reducible assumption | (simp only [NM, LN]; first | done | with_reducible assumption | omega)))
            | ((with_reducible first | refine GOn.isF ?_ ?_ | refine HOn.isF ?_ ?_ | refine pickK.isF ?_ ?_); focus (first | with_reducible rfl | with_reducible assumption | (simp only [NM, LN]; first | done | with_reducible assumption | omega)))
            | ((with_reducible first | refine GOn.split (fun h => ?_) (fun h => ?_) | refine HOn.split (fun h => ?_) (fun h => ?_) | refine pickK.split (fun h => ?_) (fun h => ?_)) <;> (try simp only [NM] at h))
            | with_reducible refine AWP.drawAll tyOk mixed 6 (by kernel_rfl) fun K hK => ?_
            | ((with_reducible refine CallJ.is ?_); (first | refine CallJ.pure (lessValue_sat _ _) ?_ | ((apply CallJ.lentI); (focus (simp -dsimp (disch := (first | omega | (simp only [LN]; omega))) only [go_sem, ↓reduceIte, seval, l1, l2]; rfl)); (focus (first | exact (lessValue_sat _ _))))))
            | ((with_reducible refine CallH.is ?_); (first | refine CallH.intro (lessValue_sat _ _) ?_))) <;> simp -dsimp (disch := (first | omega | (simp only [LN]; omega))) only [go_sem, ↓reduceIte, seval, l1, l2])
          | ((with_reducible refine hK _ ?_); clear hK K)
          | (with_reducible first | refine AWP.seq ?_ | refine thenQ_normal ?_ | refine AWP.block ?_ | refine AWP.skip ?_ | refine AWP.ret ?_ | refine thenQ_ret ?_ | refine blockQ_ret ?_ | refine AWP.exit ?_ | refine thenQ_exit ?_ | refine blockQ_normal ?_ | refine blockQ_exit ?_)
          | refine blockQ_exit_ne rfl ?_
          | (with_reducible refine And.intro (by (first | with_reducible rfl | with_reducible assumption | omega | (simp only [LN]; first | done | with_reducible rfl | omega) | (simp only [NM, LN]; first | done | with_reducible assumption | omega) | (and_intros <;> first | with_reducible assumption | omega | (simp only [LN]; omega)) | fail)) ?_)
          | ((with_reducible refine AWP.condG (T := TT) (b := ?_) ?_ ?_); rotate_left; exact rfl)
          | (with_reducible first | refine CondG.t ?_ | refine CondG.f ?_ | refine CondG.not ?_)
          | ((with_reducible refine CondG.isT ?_ ?_); focus (first | with_reducible rfl | with_reducible assumption | (simp only [NM, LN]; first | done | with_reducible assumption | omega)))
          | ((with_reducible refine CondG.isF ?_ ?_); focus (first | with_reducible rfl | with_reducible assumption | (simp only [NM, LN]; first | done | with_reducible assumption | omega)))
          | ((with_reducible refine CondG.split (fun h => ?_) (fun h => ?_)) <;> (try simp only [NM] at h)))
        refine ⟨⟨k + 1, by omega, by omega, by rw [scan_step (by omega) hs, hi]⟩, by simp only; omega, ?_⟩
        exact St.le_mk (by simp only [LE, EN, Nat.reduceEqDiff, reduceIte, Nat.reduceSub]) (by simp only [LE, EN, Nat.reduceEqDiff, reduceIte, Nat.reduceSub]) (by simp only [LE, EN, Nat.reduceEqDiff, reduceIte, Nat.reduceSub])
  · have hn : scan (rCell b) a 0 = none := by
      rw [← hi]
      rcases Nat.lt_or_ge k a.length with h | h
      · exact scan_all_none fun j x hj => by rw [rCell, if_neg (by omega), if_neg (by omega)]
      · rw [scan_end (by omega)]
    have hn2 : rCmp a b = cmpInts a.length b.length := by rw [rCmp, hn]
    rw [hn2]
    repeat' (first
      | ((first
        | with_reducible refine AWP.regionL tyOk fun K hK => ?_
        | ((with_reducible first | refine GOn.isT ?_ ?_ | refine HOn.isT ?_ ?_ | refine pickK.isT ?_ ?_); focus (first | with_reducible rfl | with_reducible assumption | (simp only [NM, LN]; first | done | with_reducible assumption | omega)))
        | ((with_reducible first | refine GOn.isF ?_ ?_ | refine HOn.isF ?_ ?_ | refine pickK.isF ?_ ?_); focus (first | with_reducible rfl | with_reducible assumption | (simp only [NM, LN]; first | done | with_reducible assumption | omega)))
        | ((with_reducible first | refine GOn.split (fun h => ?_) (fun h => ?_) | refine HOn.split (fun h => ?_) (fun h => ?_) | refine pickK.split (fun h => ?_) (fun h => ?_)) <;> (try simp only [NM] at h))
        | with_reducible refine AWP.drawAll tyOk mixed 6 (by kernel_rfl) fun K hK => ?_) <;> simp -dsimp (disch := (first | omega | (simp only [LN]; omega))) only [go_sem, ↓reduceIte, seval])
      | ((with_reducible refine hK _ ?_); clear hK K)
      | (with_reducible first | refine AWP.seq ?_ | refine thenQ_normal ?_ | refine AWP.block ?_ | refine AWP.skip ?_ | refine AWP.ret ?_ | refine thenQ_ret ?_ | refine blockQ_ret ?_ | refine AWP.exit ?_ | refine thenQ_exit ?_ | refine blockQ_normal ?_ | refine blockQ_exit ?_)
      | refine blockQ_exit_ne rfl ?_
      | (with_reducible refine And.intro (by (first | with_reducible rfl | with_reducible assumption | omega | (simp only [LN]; first | done | with_reducible rfl | omega) | (simp only [NM, LN]; first | done | with_reducible assumption | omega) | (and_intros <;> first | with_reducible assumption | omega | (simp only [LN]; omega)) | fail)) ?_)
      | ((with_reducible refine AWP.condG (T := TT) (b := ?_) ?_ ?_); rotate_left; exact rfl)
      | (with_reducible first | refine CondG.t ?_ | refine CondG.f ?_ | refine CondG.not ?_)
      | ((with_reducible refine CondG.isT ?_ ?_); focus (first | with_reducible rfl | with_reducible assumption | (simp only [NM, LN]; first | done | with_reducible assumption | omega)))
      | ((with_reducible refine CondG.isF ?_ ?_); focus (first | with_reducible rfl | with_reducible assumption | (simp only [NM, LN]; first | done | with_reducible assumption | omega)))
      | ((with_reducible refine CondG.split (fun h => ?_) (fun h => ?_)) <;> (try simp only [NM] at h)))
    all_goals simp -dsimp (disch := (first | omega | (simp only [LN]; omega))) only [retQ, Try.results60, resVals, cellRV, resOf, St.rest, St.freeze, RT, go_sem, ↓reduceIte, seval]
    all_goals unfold cmpInts
    all_goals (repeat' split) <;> first | rfl | omega

set_option maxHeartbeats 8000000 in
theorem project_sat (r : Row) (l : List Int) (h1 : l.length ≤ 1099511627776) (h2 : r.length ≤ 140737488355328) : Sat Try.prog 61 [.one (eRow r), .one (eInts l)] (.v (.one (eRow (keyOf l r)))) := by
  refine sat_of_body tyOk Try.func61 rfl (by kernel_rfl) ⟨Nat.le_of_ble_eq_true rfl, Nat.le_of_ble_eq_true rfl⟩ fun w0 m0 F0 => ?_
  simp only [Try.ntmps61, envOf, Nat.reduceAdd]
  repeat' (first
    | ((first
      | with_reducible refine AWP.regionL tyOk fun K hK => ?_
      | ((with_reducible first | refine GOn.isT ?_ ?_ | refine HOn.isT ?_ ?_ | refine pickK.isT ?_ ?_); focus (first | with_reducible rfl | with_reducible assumption | (simp only [NM, LN]; first | done | with_reducible assumption | omega)))
      | ((with_reducible first | refine GOn.isF ?_ ?_ | refine HOn.isF ?_ ?_ | refine pickK.isF ?_ ?_); focus (first | with_reducible rfl | with_reducible assumption | (simp only [NM, LN]; first | done | with_reducible assumption | omega)))
      | ((with_reducible first | refine GOn.split (fun h => ?_) (fun h => ?_) | refine HOn.split (fun h => ?_) (fun h => ?_) | refine pickK.split (fun h => ?_) (fun h => ?_)) <;> (try simp only [NM] at h))
      | with_reducible refine AWP.drawAll tyOk mixed 6 (by kernel_rfl) fun K hK => ?_) <;> simp -dsimp (disch := (first | omega | (simp only [LN]; omega))) only [go_sem, ↓reduceIte, seval])
    | ((with_reducible refine hK _ ?_); clear hK K)
    | (with_reducible first | refine AWP.seq ?_ | refine thenQ_normal ?_ | refine AWP.block ?_ | refine AWP.skip ?_ | refine AWP.ret ?_ | refine thenQ_ret ?_ | refine blockQ_ret ?_ | refine AWP.exit ?_ | refine thenQ_exit ?_ | refine blockQ_normal ?_ | refine blockQ_exit ?_)
    | refine blockQ_exit_ne rfl ?_
    | (with_reducible refine And.intro (by (first | with_reducible rfl | with_reducible assumption | omega | (simp only [LN]; first | done | with_reducible rfl | omega) | (simp only [NM, LN]; first | done | with_reducible assumption | omega) | (and_intros <;> first | with_reducible assumption | omega | (simp only [LN]; omega)) | fail)) ?_)
    | ((with_reducible refine AWP.condG (T := TT) (b := ?_) ?_ ?_); rotate_left; exact rfl)
    | (with_reducible first | refine CondG.t ?_ | refine CondG.f ?_ | refine CondG.not ?_)
    | ((with_reducible refine CondG.isT ?_ ?_); focus (first | with_reducible rfl | with_reducible assumption | (simp only [NM, LN]; first | done | with_reducible assumption | omega)))
    | ((with_reducible refine CondG.isF ?_ ?_); focus (first | with_reducible rfl | with_reducible assumption | (simp only [NM, LN]; first | done | with_reducible assumption | omega)))
    | ((with_reducible refine CondG.split (fun h => ?_) (fun h => ?_)) <;> (try simp only [NM] at h)))
  refine AWP.loop (ι := {k : Nat // k ≤ l.length}) (fun k => ⟨34, [(0, .v (.one (eRow r))), (5, .v (.one (.ref 5 0 k.1))), (9, .v (.one (eInts l))), (10, .v (oI l.length)), (11, .v (oI k.1))], [], [(5, ⟨3, (keyOf (l.take k.1) r).map eVal, []⟩)]⟩) (fun k => l.length - k.1) ⟨0, Nat.zero_le _⟩ ?_ fun ⟨k, hkl⟩ => ?_
  · exact St.le_mk (by simp only [LE, EN, Nat.reduceEqDiff, reduceIte, Nat.reduceSub, keyOf]) (by simp only [LE, EN, Nat.reduceEqDiff, reduceIte, Nat.reduceSub, keyOf]) (by simp only [LE, EN, Nat.reduceEqDiff, reduceIte, Nat.reduceSub, keyOf])
  have hlen : (keyOf (l.take k) r).length = k := by rw [keyOf_length]; simp; omega
  repeat' (first
    | ((first
      | with_reducible refine AWP.regionL tyOk fun K hK => ?_
      | ((with_reducible first | refine GOn.isT ?_ ?_ | refine HOn.isT ?_ ?_ | refine pickK.isT ?_ ?_); focus (first | with_reducible rfl | with_reducible assumption | (simp only [NM, LN]; first | done | with_reducible assumption | omega)))
      | ((with_reducible first | refine GOn.isF ?_ ?_ | refine HOn.isF ?_ ?_ | refine pickK.isF ?_ ?_); focus (first | with_reducible rfl | with_reducible assumption | (simp only [NM, LN]; first | done | with_reducible assumption | omega)))
      | ((with_reducible first | refine GOn.split (fun h => ?_) (fun h => ?_) | refine HOn.split (fun h => ?_) (fun h => ?_) | refine pickK.split (fun h => ?_) (fun h => ?_)) <;> (try simp only [NM] at h))
      | with_reducible refine AWP.drawAll tyOk mixed 6 (by kernel_rfl) fun K hK => ?_) <;> simp -dsimp (disch := (first | omega | (simp only [LN]; omega))) only [go_sem, ↓reduceIte, seval, hlen])
    | ((with_reducible refine hK _ ?_); clear hK K)
    | (with_reducible first | refine AWP.seq ?_ | refine thenQ_normal ?_ | refine AWP.block ?_ | refine AWP.skip ?_ | refine AWP.ret ?_ | refine thenQ_ret ?_ | refine blockQ_ret ?_ | refine AWP.exit ?_ | refine thenQ_exit ?_ | refine blockQ_normal ?_ | refine blockQ_exit ?_)
    | refine blockQ_exit_ne rfl ?_
    | (with_reducible refine And.intro (by (first | with_reducible rfl | with_reducible assumption | omega | (simp only [LN]; first | done | with_reducible rfl | omega) | (simp only [NM, LN]; first | done | with_reducible assumption | omega) | (and_intros <;> first | with_reducible assumption | omega | (simp only [LN]; omega)) | fail)) ?_)
    | ((with_reducible refine AWP.condG (T := TT) (b := ?_) ?_ ?_); rotate_left; exact rfl)
    | (with_reducible first | refine CondG.t ?_ | refine CondG.f ?_ | refine CondG.not ?_)
    | ((with_reducible refine CondG.isT ?_ ?_); focus (first | with_reducible rfl | with_reducible assumption | (simp only [NM, LN]; first | done | with_reducible assumption | omega)))
    | ((with_reducible refine CondG.isF ?_ ?_); focus (first | with_reducible rfl | with_reducible assumption | (simp only [NM, LN]; first | done | with_reducible assumption | omega)))
    | ((with_reducible refine CondG.split (fun h => ?_) (fun h => ?_)) <;> (try simp only [NM] at h)))
  all_goals first
    | (refine ⟨⟨k + 1, by omega⟩, by simp only; omega, ?_⟩
       have hk : k < l.length := by omega
       have e : keyOf (l.take (k + 1)) r = keyOf (l.take k) r ++ [keyCell r l[k]] := by
         unfold keyOf
         rw [take_snoc _ _ hk, List.map_append]
         rfl
       first
         | (have h2 : l[k].toNat < r.length := by omega
            have e2 : keyCell r l[k] = r[l[k].toNat]'h2 := by
              rw [keyCell, if_pos ⟨by omega, by omega⟩]
              exact getD_lt _ h2
            exact St.le_mk (by simp only [LE, EN, Nat.reduceEqDiff, reduceIte, Nat.reduceSub, e, e2]) (by simp only [LE, EN, Nat.reduceEqDiff, reduceIte, Nat.reduceSub, e, e2]) (by simp only [LE, EN, Nat.reduceEqDiff, reduceIte, Nat.reduceSub, e, e2])
            )
         | (have e2 : keyCell r l[k] = zV := by rw [keyCell, if_neg (by omega)]
            exact St.le_mk (by simp only [LE, EN, Nat.reduceEqDiff, reduceIte, Nat.reduceSub, e, e2, zV]) (by simp only [LE, EN, Nat.reduceEqDiff, reduceIte, Nat.reduceSub, e, e2, zV]) (by simp only [LE, EN, Nat.reduceEqDiff, reduceIte, Nat.reduceSub, e, e2, zV])
            )
         )
    | (have hk : k = l.length := by omega
       subst hk
       rw [List.take_length] at hlen
       simp -dsimp (disch := (first | omega | (simp only [LN]; omega))) only [retQ, Try.results61, resVals, cellRV, resOf, St.rest, St.freeze, RT, go_sem, ↓reduceIte, seval]
       rw [if_pos (by omega)])
theorem rKeyOf_sat (t : Tbl) (r : Row) (h1 : t.pk.length ≤ 1099511627776) (h2 : r.length ≤ 140737488355328) : Sat Try.prog 20 [.agg (eTbl t), .one (eRow r)] (.v (.one (eRow (keyOf t.pk r)))) := by
  refine sat_of_body tyOk Try.func20 rfl (by kernel_rfl) ⟨Nat.le_of_ble_eq_true rfl, Nat.le_of_ble_eq_true rfl⟩ fun w0 m0 F0 => ?_
  simp only [Try.ntmps20, envOf, Nat.reduceAdd]
  repeat' (first
    | ((first
      | with_reducible refine AWP.regionL tyOk fun K hK => ?_
      | ((with_reducible first | refine GOn.isT ?_ ?_ | refine HOn.isT ?_ ?_ | refine pickK.isT ?_ ?_); focus (first | with_reducible rfl | with_reducible assumption | (simp only [NM, LN]; first | done | with_reducible assumption | omega)))
      | ((with_reducible first | refine GOn.isF ?_ ?_ | refine HOn.isF ?_ ?_ | refine pickK.isF ?_ ?_); focus (first | with_reducible rfl | with_reducible assumption | (simp only [NM, LN]; first | done | with_reducible assumption | omega)))
      | ((with_reducible first | refine GOn.split (fun h => ?_) (fun h => ?_) | refine HOn.split (fun h => ?_) (fun h => ?_) | refine pickK.split (fun h => ?_) (fun h => ?_)) <;> (try simp only [NM] at h))
      | with_reducible refine AWP.drawAll tyOk mixed 6 (by kernel_rfl) fun K hK => ?_
      | ((with_reducible refine CallJ.is ?_); (first | refine CallJ.pure (project_sat r t.pk h1 h2) ?_ | ((apply CallJ.lentI); (focus (simp -dsimp (disch := (first | omega | (simp only [LN]; omega))) only [go_sem, ↓reduceIte, seval]; rfl)); (focus (first | exact (project_sat r t.pk h1 h2))))))
      | ((with_reducible refine CallH.is ?_); (first | refine CallH.intro (project_sat r t.pk h1 h2) ?_))) <;> simp -dsimp (disch := (first | omega | (simp only [LN]; omega))) only [go_sem, ↓reduceIte, seval])
    | ((with_reducible refine hK _ ?_); clear hK K)
    | (with_reducible first | refine AWP.seq ?_ | refine thenQ_normal ?_ | refine AWP.block ?_ | refine AWP.skip ?_ | refine AWP.ret ?_ | refine thenQ_ret ?_ | refine blockQ_ret ?_ | refine AWP.exit ?_ | refine thenQ_exit ?_ | refine blockQ_normal ?_ | refine blockQ_exit ?_)
    | refine blockQ_exit_ne rfl ?_
    | (with_reducible refine And.intro (by (first | with_reducible rfl | with_reducible assumption | omega | (simp only [LN]; first | done | with_reducible rfl | omega) | (simp only [NM, LN]; first | done | with_reducible assumption | omega) | (and_intros <;> first | with_reducible assumption | omega | (simp only [LN]; omega)) | fail)) ?_)
    | ((with_reducible refine AWP.condG (T := TT) (b := ?_) ?_ ?_); rotate_left; exact rfl)
    | (with_reducible first | refine CondG.t ?_ | refine CondG.f ?_ | refine CondG.not ?_)
    | ((with_reducible refine CondG.isT ?_ ?_); focus (first | with_reducible rfl | with_reducible assumption | (simp only [NM, LN]; first | done | with_reducible assumption | omega)))
    | ((with_reducible refine CondG.isF ?_ ?_); focus (first | with_reducible rfl | with_reducible assumption | (simp only [NM, LN]; first | done | with_reducible assumption | omega)))
    | ((with_reducible refine CondG.split (fun h => ?_) (fun h => ?_)) <;> (try simp only [NM] at h)))
  simp -dsimp (disch := (first | omega | (simp only [LN]; omega))) only [retQ, Try.results20, resVals, cellRV, resOf, St.rest, St.freeze, RT, go_sem, ↓reduceIte, seval]

/-- The keys go up strictly. -/
def sortedN (t : Tbl) (rows : List Row) : Nat → Bool
  | 0 => true
  | 1 => true
  | k + 2 => sortedN t rows (k + 1) && decide (cmpRows (keyOf t.pk (rows.getD k [])) (keyOf t.pk (rows.getD (k + 1) [])) < 0)
def sortedR (t : Tbl) (rows : List Row) : Bool := sortedN t rows rows.length
theorem sortedN_mono (t : Tbl) (rows : List Row) : ∀ {k n : Nat}, k ≤ n → sortedN t rows k = false → sortedN t rows n = false
  | k, 0, h, hs => by have : k = 0 := by omega
                      subst this; exact hs
  | k, 1, h, hs => by
    match k, h, hs with
    | 0, _, hs => cases hs
    | 1, _, hs => exact hs
  | k, n + 2, h, hs => by
    rcases Nat.lt_or_ge k (n + 2) with h1 | h1
    · rw [sortedN, sortedN_mono t rows (show k ≤ n + 1 by omega) hs]; rfl
    · have : k = n + 2 := by omega
      subst this; exact hs
theorem sortedR_iff (t : Tbl) (rows : List Row) : sortedR t rows = true ↔ ∀ j, ∀ h : j + 1 < rows.length, cmpRows (keyOf t.pk rows[j]) (keyOf t.pk rows[j + 1]) < 0 := by
  have key : ∀ n, n ≤ rows.length → (sortedN t rows n = true ↔ ∀ j, ∀ h : j + 1 < n, cmpRows (keyOf t.pk (rows.getD j [])) (keyOf t.pk (rows.getD (j + 1) [])) < 0) := by
    intro n
    induction n with
    | zero => intro _; exact ⟨fun _ j h => by omega, fun _ => rfl⟩
    | succ n ih =>
      intro hn
      cases n with
      | zero => exact ⟨fun _ j h => by omega, fun _ => rfl⟩
      | succ n =>
        rw [sortedN, Bool.and_eq_true, decide_eq_true_eq, ih (by omega)]
        constructor
        · rintro ⟨h1, h2⟩ j hj
          rcases Nat.lt_or_ge j n with h3 | h3
          · exact h1 j (by omega)
          · have : j = n := by omega
            subst this; exact h2
        · intro h
          exact ⟨fun j hj => h j (by omega), h n (by omega)⟩
  rw [sortedR, key _ (Nat.le_refl _)]
  constructor
  · intro h j hj
    have := h j hj
    rwa [getD_lt _ (by omega : j < rows.length), getD_lt _ hj] at this
  · intro h j hj
    rw [getD_lt _ (by omega : j < rows.length), getD_lt _ hj]
    exact h j hj

set_option maxHeartbeats 8000000 in
theorem sorted_sat (t : Tbl) (rows : List Row) (h1 : t.pk.length ≤ 1099511627776) (h2 : rows.length ≤ 140737488355328) (h3 : ∀ r ∈ rows, r.length ≤ 140737488355328) : Sat Try.prog 19 [.agg (eTbl t), .one (eRows rows)] (.v (oB (sortedR t rows))) := by
  refine sat_of_body tyOk Try.func19 rfl (by kernel_rfl) ⟨Nat.le_of_ble_eq_true rfl, Nat.le_of_ble_eq_true rfl⟩ fun w0 m0 F0 => ?_
  simp only [Try.ntmps19, envOf, Nat.reduceAdd]
  repeat' (first
    | ((first
      | with_reducible refine AWP.regionL tyOk fun K hK => ?_
      | ((with_reducible first | refine GOn.isT ?_ ?_ | refine HOn.isT ?_ ?_ | refine pickK.isT ?_ ?_); focus (first | with_reducible rfl | with_reducible assumption | (simp only [NM, LN]; first | done | with_reducible assumption | omega)))
      | ((with_reducible first | refine GOn.isF ?_ ?_ | refine HOn.isF ?_ ?_ | refine pickK.isF ?_ ?_); focus (first | with_reducible rfl | with_reducible assumption | (simp only [NM, LN]; first | done | with_reducible assumption | omega)))
      | ((with_reducible first | refine GOn.split (fun h => ?_) (fun h => ?_) | refine HOn.split (fun h => ?_) (fun h => ?_) | refine pickK.split (fun h => ?_) (fun h => ?_)) <;> (try simp only [NM] at h))
      | with_reducible refine AWP.drawAll tyOk mixed 6 (by kernel_rfl) fun K hK => ?_) <;> simp -dsimp (disch := (first | omega | (simp only [LN]; omega))) only [go_sem, ↓reduceIte, seval])
    | ((with_reducible refine hK _ ?_); clear hK K)
    | (with_reducible first | refine AWP.seq ?_ | refine thenQ_normal ?_ | refine AWP.block ?_ | refine AWP.skip ?_ | refine AWP.ret ?_ | refine thenQ_ret ?_ | refine blockQ_ret ?_ | refine AWP.exit ?_ | refine thenQ_exit ?_ | refine blockQ_normal ?_ | refine blockQ_exit ?_)
    | refine blockQ_exit_ne rfl ?_
    | (with_reducible refine And.intro (by (first | with_reducible rfl | with_reducible assumption | omega | (simp only [LN]; first | done | with_reducible rfl | omega) | (simp only [NM, LN]; first | done | with_reducible assumption | omega) | (and_intros <;> first | with_reducible assumption | omega | (simp only [LN]; omega)) | fail)) ?_)
    | ((with_reducible refine AWP.condG (T := TT) (b := ?_) ?_ ?_); rotate_left; exact rfl)
    | (with_reducible first | refine CondG.t ?_ | refine CondG.f ?_ | refine CondG.not ?_)
    | ((with_reducible refine CondG.isT ?_ ?_); focus (first | with_reducible rfl | with_reducible assumption | (simp only [NM, LN]; first | done | with_reducible assumption | omega)))
    | ((with_reducible refine CondG.isF ?_ ?_); focus (first | with_reducible rfl | with_reducible assumption | (simp only [NM, LN]; first | done | with_reducible assumption | omega)))
    | ((with_reducible refine CondG.split (fun h => ?_) (fun h => ?_)) <;> (try simp only [NM] at h)))
  refine AWP.loop (ι := {k : Nat // 1 ≤ k ∧ k ≤ rows.length + 1 ∧ sortedN t rows k = true}) (fun k => ⟨27, [(2, .v (.one (.ptr 2 0))), (1, .v (.one (eRows rows))), (5, .v (oI k.1))], [(2, eTbl t)], []⟩) (fun k => rows.length + 1 - k.1) ⟨1, Nat.le_refl _, by omega, rfl⟩ ?_ fun ⟨k, hk1, hkl, hi⟩ => ?_
  · exact St.le_mk (by simp only [LE, EN, Nat.reduceEqDiff, reduceIte, Nat.reduceSub, eTbl]) (by simp only [LE, EN, Nat.reduceEqDiff, reduceIte, Nat.reduceSub, eTbl]) (by simp only [LE, EN, Nat.reduceEqDiff, reduceIte, Nat.reduceSub, eTbl])
  rcases Nat.lt_or_ge k rows.length with hc | hc
  · have hp : k - 1 < rows.length := by omega
    have ek : ((k : Int) - 1).toNat = k - 1 := by omega
    have b1 : (keyOf t.pk rows[k - 1]).length ≤ 140737488355328 := by rw [keyOf_length]; omega
    have b2 : (keyOf t.pk rows[k]).length ≤ 140737488355328 := by rw [keyOf_length]; omega
    have sg := rCmp_sign (keyOf t.pk rows[k - 1]) (keyOf t.pk rows[k])
    obtain ⟨q, rfl⟩ : ∃ q, k = q + 1 := ⟨k - 1, by omega⟩
    simp only [Nat.add_sub_cancel] at hp ek b1 b2 sg
    repeat' (first
      | ((first
        | with_reducible refine AWP.regionL tyOk fun K hK => ?_
        | ((with_reducible first | refine GOn.isT ?_ ?_ | refine HOn.isT ?_ ?_ | refine pickK.isT ?_ ?_); focus (first | with_reducible rfl | with_reducible assumption | (simp only [NM, LN]; first | done | with_reducible assumption | omega)))
        | ((with_reducible first | refine GOn.isF ?_ ?_ | refine HOn.isF ?_ ?_ | refine pickK.isF ?_ ?_); focus (first | with_reducible rfl | with_reducible assumption | (simp only [NM, LN]; first | done | with_reducible assumption | omega)))
        | ((with_reducible first | refine GOn.split (fun h => ?_) (fun h => ?_) | refine HOn.split (fun h => ?_) (fun h => ?_) | refine pickK.split (fun h => ?_) (fun h => ?_)) <;> (try simp only [NM] at h))
        | with_reducible refine AWP.drawAll tyOk mixed 6 (by kernel_rfl) fun K hK => ?_
        | ((with_reducible refine CallJ.is ?_); (first | refine CallJ.pure (rKeyOf_sat t _ h1 (h3 _ (List.getElem_mem _))) ?_ | refine CallJ.pure (rCompareRows_sat _ _ b1 b2) ?_ | ((apply CallJ.lentI); (focus (simp -dsimp (disch := (first | omega | (simp only [LN]; omega))) only [go_sem, ↓reduceIte, seval, ek]; rfl)); (focus (first | exact (rKeyOf_sat t _ h1 (h3 _ (List.getElem_mem _))) | exact (rCompareRows_sat _ _ b1 b2))))))
        | ((with_reducible refine CallH.is ?_); (first | refine CallH.intro (rKeyOf_sat t _ h1 (h3 _ (List.getElem_mem _))) ?_ | refine CallH.intro (rCompareRows_sat _ _ b1 b2) ?_))) <;> simp -dsimp (disch := (first | omega | (simp only [LN]; omega))) only [go_sem, ↓reduceIte, seval, ek])
      | ((with_reducible refine hK _ ?_); clear hK K)
      | (with_reducible first | refine AWP.seq ?_ | refine thenQ_normal ?_ | refine AWP.block ?_ | refine AWP.skip ?_ | refine AWP.ret ?_ | refine thenQ_ret ?_ | refine blockQ_ret ?_ | refine AWP.exit ?_ | refine thenQ_exit ?_ | refine blockQ_normal ?_ | refine blockQ_exit ?_)
      | refine blockQ_exit_ne rfl ?_
      | (with_reducible refine And.intro (by (first | with_reducible rfl | with_reducible assumption | omega | (simp only [LN]; first | done | with_reducible rfl | omega) | (simp only [NM, LN]; first | done | with_reducible assumption | omega) | (and_intros <;> first | with_reducible assumption | omega | (simp only [LN]; omega)) | fail)) ?_)
      | ((with_reducible refine AWP.condG (T := TT) (b := ?_) ?_ ?_); rotate_left; exact rfl)
      | (with_reducible first | refine CondG.t ?_ | refine CondG.f ?_ | refine CondG.not ?_)
      | ((with_reducible refine CondG.isT ?_ ?_); focus (first | with_reducible rfl | with_reducible assumption | (simp only [NM, LN]; first | done | with_reducible assumption | omega)))
      | ((with_reducible refine CondG.isF ?_ ?_); focus (first | with_reducible rfl | with_reducible assumption | (simp only [NM, LN]; first | done | with_reducible assumption | omega)))
      | ((with_reducible refine CondG.split (fun h => ?_) (fun h => ?_)) <;> (try simp only [NM] at h)))
    · have hf : sortedN t rows (q + 2) = false := by
        rw [sortedN, getD_lt _ hp, getD_lt _ hc, decide_eq_false (by omega), Bool.and_false]
      have hz : sortedR t rows = false := sortedN_mono t rows (by omega) hf
      simp -dsimp (disch := (first | omega | (simp only [LN]; omega))) only [retQ, Try.results19, resVals, cellRV, resOf, St.rest, St.freeze, RT, go_sem, ↓reduceIte, seval]
      rw [hz]
    · have ht : sortedN t rows (q + 2) = true := by
        rw [sortedN, getD_lt _ hp, getD_lt _ hc, decide_eq_true (by omega), hi]; rfl
      refine ⟨⟨q + 1 + 1, by omega, by omega, ht⟩, by simp only; omega, ?_⟩
      exact St.le_mk (by simp only [LE, EN, Nat.reduceEqDiff, reduceIte, Nat.reduceSub, eTbl]) (by simp only [LE, EN, Nat.reduceEqDiff, reduceIte, Nat.reduceSub, eTbl]) (by simp only [LE, EN, Nat.reduceEqDiff, reduceIte, Nat.reduceSub, eTbl])
  · have hz : sortedR t rows = true := by
      cases hs : sortedR t rows with
      | true => rfl
      | false => rw [sortedN_mono t rows hc hs] at hi; cases hi
    repeat' (first
      | ((first
        | with_reducible refine AWP.regionL tyOk fun K hK => ?_
        | ((with_reducible first | refine GOn.isT ?_ ?_ | refine HOn.isT ?_ ?_ | refine pickK.isT ?_ ?_); focus (first | with_reducible rfl | with_reducible assumption | (simp only [NM, LN]; first | done | with_reducible assumption | omega)))
        | ((with_reducible first | refine GOn.isF ?_ ?_ | refine HOn.isF ?_ ?_ | refine pickK.isF ?_ ?_); focus (first | with_reducible rfl | with_reducible assumption | (simp only [NM, LN]; first | done | with_reducible assumption | omega)))
        | ((with_reducible first | refine GOn.split (fun h => ?_) (fun h => ?_) | refine HOn.split (fun h => ?_) (fun h => ?_) | refine pickK.split (fun h => ?_) (fun h => ?_)) <;> (try simp only [NM] at h))
        | with_reducible refine AWP.drawAll tyOk mixed 6 (by kernel_rfl) fun K hK => ?_) <;> simp -dsimp (disch := (first | omega | (simp only [LN]; omega))) only [go_sem, ↓reduceIte, seval])
      | ((with_reducible refine hK _ ?_); clear hK K)
      | (with_reducible first | refine AWP.seq ?_ | refine thenQ_normal ?_ | refine AWP.block ?_ | refine AWP.skip ?_ | refine AWP.ret ?_ | refine thenQ_ret ?_ | refine blockQ_ret ?_ | refine AWP.exit ?_ | refine thenQ_exit ?_ | refine blockQ_normal ?_ | refine blockQ_exit ?_)
      | refine blockQ_exit_ne rfl ?_
      | (with_reducible refine And.intro (by (first | with_reducible rfl | with_reducible assumption | omega | (simp only [LN]; first | done | with_reducible rfl | omega) | (simp only [NM, LN]; first | done | with_reducible assumption | omega) | (and_intros <;> first | with_reducible assumption | omega | (simp only [LN]; omega)) | fail)) ?_)
      | ((with_reducible refine AWP.condG (T := TT) (b := ?_) ?_ ?_); rotate_left; exact rfl)
      | (with_reducible first | refine CondG.t ?_ | refine CondG.f ?_ | refine CondG.not ?_)
      | ((with_reducible refine CondG.isT ?_ ?_); focus (first | with_reducible rfl | with_reducible assumption | (simp only [NM, LN]; first | done | with_reducible assumption | omega)))
      | ((with_reducible refine CondG.isF ?_ ?_); focus (first | with_reducible rfl | with_reducible assumption | (simp only [NM, LN]; first | done | with_reducible assumption | omega)))
      | ((with_reducible refine CondG.split (fun h => ?_) (fun h => ?_)) <;> (try simp only [NM] at h)))
    simp -dsimp (disch := (first | omega | (simp only [LN]; omega))) only [retQ, Try.results19, resVals, cellRV, resOf, St.rest, St.freeze, RT, go_sem, ↓reduceIte, seval]
    rw [hz]
end Go.Bw

namespace Go.Bw
open Go.Proofs
theorem idx_succ {α : Type} (p : α → Bool) : ∀ (l : List α) (k : Nat), idx p l (k + 1) = if idx p l k < 0 then -1 else idx p l k + 1
  | [], k => rfl
  | x :: l, k => by
    unfold idx
    split
    · rw [if_neg (by omega)]; omega
    · exact idx_succ p l (k + 1)
theorem findPos_cons (t : Tbl) (x : Row) (l : List Row) (key : Row) : findPos t (x :: l) key = if 0 ≤ cmpRows (keyOf t.pk x) key then 0 else if findPos t l key < 0 then -1 else findPos t l key + 1 := by
  unfold findPos
  rw [idx]
  simp only [atKey, decide_eq_true_eq]
  split
  · rfl
  · exact idx_succ _ l 0
theorem findI_cons (t : Tbl) (x : Row) (l : List Row) (key : Row) : findI t (x :: l) key = if 0 ≤ cmpRows (keyOf t.pk x) key then 0 else findI t l key + 1 := by
  unfold findI
  rw [findPos_cons]
  split
  · simp
  · by_cases h : findPos t l key < 0
    · rw [if_pos h, if_pos h, if_pos (by omega)]; simp
    · rw [if_neg h, if_neg h, if_neg (by omega)]
theorem findB_cons (t : Tbl) (x : Row) (l : List Row) (key : Row) : findB t (x :: l) key = if 0 ≤ cmpRows (keyOf t.pk x) key then cmpRows (keyOf t.pk x) key == 0 else findB t l key := by
  unfold findB
  rw [findPos_cons]
  split
  · rw [if_neg (by omega)]; rfl
  · by_cases h : findPos t l key < 0
    · rw [if_pos h, if_pos h, if_pos (by omega)]
    · have hg : 0 ≤ findPos t l key := by omega
      rw [if_neg h, if_neg h, if_neg (by omega)]
      have e : (findPos t l key + 1).toNat = (findPos t l key).toNat + 1 := by omega
      rw [e]
      simp
theorem deleteR_nil (t : Tbl) (key : Row) : deleteR t [] key = [] := rfl
theorem deleteR_cons (t : Tbl) (x : Row) (l : List Row) (key : Row) : deleteR t (x :: l) key = if 0 ≤ cmpRows (keyOf t.pk x) key then (if cmpRows (keyOf t.pk x) key = 0 then l else x :: l) else x :: deleteR t l key := by
  unfold deleteR
  rw [findB_cons, findI_cons]
  split
  · rename_i h
    by_cases h0 : cmpRows (keyOf t.pk x) key = 0
    · simp [h0]
    · simp [h0]
  · rename_i h
    rcases find_cases t l key with ⟨hb, k, hk, hi⟩ | ⟨hb, k, hk, hi⟩
    · simp [hb]
    · rw [hb, hi]
      have e : ((k : Int) + 1).toNat = k + 1 := by omega
      simp [e]
theorem upsertR_nil (t : Tbl) (row : Row) : upsertR t [] row = [row] := rfl
theorem upsertR_cons (t : Tbl) (x : Row) (l : List Row) (row : Row) : upsertR t (x :: l) row = if 0 ≤ cmpRows (keyOf t.pk x) (keyOf t.pk row) then (if cmpRows (keyOf t.pk x) (keyOf t.pk row) = 0 then row :: l else row :: x :: l) else x :: upsertR t l row := by
  unfold upsertR
  rw [findB_cons, findI_cons]
  split
  · rename_i h
    by_cases h0 : cmpRows (keyOf t.pk x) (keyOf t.pk row) = 0
    · simp [h0]
    · simp [h0]
  · rename_i h
    rcases find_cases t l (keyOf t.pk row) with ⟨hb, k, hk, hi⟩ | ⟨hb, k, hk, hi⟩
    · rw [hb, hi]
      have e : ((k : Int) + 1).toNat = k + 1 := by omega
      simp [e]
    · rw [hb, hi]
      have e : ((k : Int) + 1).toNat = k + 1 := by omega
      simp [e]

/-- Sorted by key, strictly. -/
def SR (t : Tbl) (rows : List Row) : Prop := rows.Pairwise fun a b => cmpRows (keyOf t.pk a) (keyOf t.pk b) < 0
theorem sr_of {t : Tbl} : ∀ {rows : List Row}, (∀ j, ∀ h : j + 1 < rows.length, cmpRows (keyOf t.pk rows[j]) (keyOf t.pk rows[j + 1]) < 0) → SR t rows
  | [], _ => .nil
  | x :: l, h => by
    have hl : SR t l := sr_of fun j hj => h (j + 1) (by simpa using hj)
    refine .cons (fun y hy => ?_) hl
    cases l with
    | nil => cases hy
    | cons z l =>
      have h0 : cmpRows (keyOf t.pk x) (keyOf t.pk z) < 0 := by simpa using h 0 (by simp)
      rcases List.mem_cons.1 hy with rfl | hy
      · exact h0
      · exact cmpRows_is.trans _ _ _ h0 ((List.pairwise_cons.1 hl).1 y hy)
theorem sr_get {t : Tbl} {rows : List Row} (h : SR t rows) : ∀ j, ∀ hj : j + 1 < rows.length, cmpRows (keyOf t.pk rows[j]) (keyOf t.pk rows[j + 1]) < 0 :=
  fun j hj => List.pairwise_iff_getElem.1 h j (j + 1) (by omega) hj (by omega)
theorem sortedR_sr {t : Tbl} {rows : List Row} : sortedR t rows = true ↔ SR t rows := by
  rw [sortedR_iff]
  exact ⟨sr_of, sr_get⟩

theorem deleteR_sub (t : Tbl) (key : Row) : ∀ (l : List Row), (deleteR t l key).Sublist l
  | [] => .slnil
  | x :: l => by
    rw [deleteR_cons]
    split
    · split
      · exact List.sublist_cons_self x l
      · exact List.Sublist.refl _
    · exact (deleteR_sub t key l).cons_cons x
theorem deleteR_sr {t : Tbl} {l : List Row} (key : Row) (h : SR t l) : SR t (deleteR t l key) := h.sublist (deleteR_sub t key l)
theorem deleteR_none {t : Tbl} {key : Row} : ∀ {l : List Row}, findB t l key = false → deleteR t l key = l
  | [], _ => rfl
  | x :: l, h => by
    rw [findB_cons] at h
    rw [deleteR_cons]
    split
    · rename_i h0
      rw [if_pos h0] at h
      rw [if_neg (by simpa using h)]
    · rename_i h0
      rw [if_neg h0] at h
      rw [deleteR_none h]
theorem findB_above {t : Tbl} {key : Row} : ∀ {l : List Row}, (∀ y ∈ l, 0 < cmpRows (keyOf t.pk y) key) → findB t l key = false
  | [], _ => rfl
  | x :: l, h => by
    have := h x (by simp)
    rw [findB_cons, if_pos (by omega)]
    simp; omega
theorem deleteR_findB {t : Tbl} {key : Row} : ∀ {l : List Row}, SR t l → findB t (deleteR t l key) key = false
  | [], _ => rfl
  | x :: l, h => by
    obtain ⟨h1, h2⟩ := List.pairwise_cons.1 h
    rw [deleteR_cons]
    split
    · rename_i h0
      split
      · rename_i h3
        refine findB_above fun y hy => ?_
        have h4 := h1 y hy
        rw [(cmpRows_is.eq0 _ _).1 h3] at h4
        have := cmpRows_is.anti (keyOf t.pk y) key
        omega
      · rename_i h3
        rw [findB_cons, if_pos h0]
        simpa using h3
    · rename_i h0
      rw [findB_cons, if_neg h0]
      exact deleteR_findB h2
theorem upsertR_findB (t : Tbl) (row : Row) : ∀ (l : List Row), findB t (upsertR t l row) (keyOf t.pk row) = true
  | [] => by
    rw [upsertR_nil, findB_cons, if_pos (by rw [cmpRows_is.refl]; omega), cmpRows_is.refl]; rfl
  | x :: l => by
    have hr := cmpRows_is.refl (keyOf t.pk row)
    rw [upsertR_cons]
    split
    · split <;> (rw [findB_cons, if_pos (by omega), hr]; rfl)
    · rename_i h0
      rw [findB_cons, if_neg h0]
      exact upsertR_findB t row l
theorem deleteR_upsertR (t : Tbl) (row : Row) : ∀ (l : List Row), deleteR t (upsertR t l row) (keyOf t.pk row) = deleteR t l (keyOf t.pk row)
  | [] => by
    have hr := cmpRows_is.refl (keyOf t.pk row)
    rw [upsertR_nil, deleteR_cons, if_pos (by omega), if_pos hr, deleteR_nil]
  | x :: l => by
    have hr := cmpRows_is.refl (keyOf t.pk row)
    rw [upsertR_cons, deleteR_cons]
    split
    · rename_i h0
      split
      · rename_i h1
        rw [deleteR_cons, if_pos (by omega), if_pos hr]
      · rename_i h1
        rw [deleteR_cons, if_pos (by omega), if_pos hr]
    · rename_i h0
      rw [deleteR_cons, if_neg h0, deleteR_upsertR t row l]

theorem mem_upsertR {t : Tbl} {row : Row} : ∀ {l : List Row} {x : Row}, x ∈ upsertR t l row → x = row ∨ x ∈ l
  | [], x, h => by rw [upsertR_nil] at h; exact .inl (by simpa using h)
  | y :: l, x, h => by
    rw [upsertR_cons] at h
    split at h
    · split at h
      · rcases List.mem_cons.1 h with h | h
        · exact .inl h
        · exact .inr (List.mem_cons_of_mem _ h)
      · rcases List.mem_cons.1 h with h | h
        · exact .inl h
        · exact .inr h
    · rcases List.mem_cons.1 h with h | h
      · exact .inr (h ▸ List.mem_cons_self ..)
      · exact (mem_upsertR h).imp id (List.mem_cons_of_mem _)
theorem upsertR_length (t : Tbl) (row : Row) : ∀ (l : List Row), (upsertR t l row).length ≤ l.length + 1
  | [] => Nat.le_refl _
  | y :: l => by
    rw [upsertR_cons]
    have := upsertR_length t row l
    split
    · split <;> simp
    · simp; omega
theorem mem_deleteR {t : Tbl} {key : Row} {l : List Row} {x : Row} (h : x ∈ deleteR t l key) : x ∈ l := (deleteR_sub t key l).subset h
theorem deleteR_length (t : Tbl) (key : Row) (l : List Row) : (deleteR t l key).length ≤ l.length := (deleteR_sub t key l).length_le
end Go.Bw

namespace Go.Bw
open Go.Proofs
attribute [local go_sem ↓] VOps_nil VOps_cons VOp_callJ VVal_callH VOps_guard GOn_tt GOn_ff GOn_tf GOn_ft GOn_not GOn_none HOn_none HOn_tt HOn_ff HOn_tf HOn_ft HOn_not VHead_nil VHead_cons VHead_guard VVal_move VVal_assign VVal_pickE pickK_true pickK_false VVal_not VVal_load loadK_fz loadK_ptr loadK_eptr VVal_fieldAddr VVal_field VVal_indexAddr idxK_sl idxK_ref VVal_index indexK_str VVal_extract VVal_binOp binK_one binK_agg VVal_build VVal_buildSlice VVal_makeFunc VVal_slice sliceK_str sliceK_sl sliceK_ref VVal_slice3 VVal_nilCheck VVal_convert convKk_int convKk_str VVal_len VVal_max VVal_min VOp_assign assignK_int assignK_bool assignK_str assignK_clo assignK_sl assignK_nil assignK_ref assignK_agg assignK_fz assignK_ptr assignK_eptr assignK_any VOp_box VOp_alloc VOp_store storeK_ptr storeK_eptr VOp_buildSlice VOp_append appK_rr appK_rs appK_rn appK_ri appK_nr appK_ns appK_nn appK_ni appStd_eq VOp_copy copyK_ref VOp_clear clearK_ref VOp_cap VOp_eqNil VOp_move VOp_pick VOp_not VOp_load VOp_fieldAddr VOp_field VOp_indexAddr VOp_index VOp_extract VOp_binTmp VOp_binInt VOp_binStr VOp_build VOp_makeFunc VOp_slice VOp_nilCheck VOp_convert VOp_len VOp_max VOp_min mO_some mT_some pk_some pk_none look_cons del_cons
attribute [local go_sem] guardB gOf int_bne beq_true beq_false Bool.not_not gSlot pickK_true pickK_false loadK_fz loadK_ptr loadK_eptr idxK_sl idxK_ref indexK_str binK_one binK_agg sliceK_str sliceK_sl sliceK_ref convKk_int convKk_str maxL minL assignK_int assignK_bool assignK_str assignK_clo assignK_sl assignK_nil assignK_ref assignK_agg assignK_fz assignK_ptr assignK_eptr assignK_any nilRow_eq takeRow_eq appended_eq storeK_ptr storeK_eptr store_mk appIn_eq appMk_eq marked_eq ovOut_nil ovOut_cons ovIn_nil ovIn_cons padRow_eq ysC capK_nil capK_ref ioSt_mk outB_nil outR_nil outB outR inB_nil inB_cons inR_nil inR_cons L.kl L.kl0 L.ids L.ids0 Option.getD_some evalO constA mO_some mT_some put_mk putO_some putO_none okD_some okD_none pk_some pk_none look_nil del_nil sput noBox_mk noRow_mk newBox_eq newRow0_eq St.killRow RowC.kill rowMap_mk rowOf ovAll ovAdd ovDel ovGet ovShift dstOf ysOf overlay_nil overlay_nil' overlay A.map V.map L.noPtr L.noPtr0 L.noRow L.noRow0 L.peek L.norm L.flat clos_int clos_bool clos_str clos_sl clos_nil clos_any clos_fz L.clos L.isFz L.kd moveL fieldOff eqCells eqCell eqOp oneOf boolOf intOfA tupOf vOf aggOf isPtrLike isSlice lenKind lenL nL elemTI loadV asV binL intBin intDivL shrL boolBin strBin boundN partCells fillL placesOf setL chunks repL capsOf capL callOf argsOf frzV_int frzV_bool frzV_str frzV_sl frzV_nil frzV_fz frzV_any frzV_own frzV_clo frzV_ref frzV_eptr frzV_ptr frzRow_nil frzRow_ov frzRs_nil frzRs_cons frzCs_nil frzCs_cons frzO_some frzO_none frzN_int frzN_bool frzN_str frzN_sl frzN_nil frzN_any frzN_own List.map_cons List.map_nil List.cons_append List.nil_append List.append_nil List.length_cons List.length_nil List.length_map List.length_append List.headD_cons List.tail_cons List.getElem?_cons_zero List.getElem?_cons_succ List.drop_zero List.drop_succ_cons List.drop_nil List.take_succ_cons List.take_zero List.take_nil List.take_length List.filter_cons List.filter_nil List.elem_cons List.elem_nil List.all_cons List.all_nil Option.bind_some Option.map_some Option.some.injEq bne_self_eq_false beq_self_eq_true if_true if_false Bool.false_eq_true true_and and_true and_self Nat.zero_add Nat.add_zero Nat.zero_le Int.toNat_natCast Int.toNat_zero Option.isSome_some List.getElem?_toArray decide_true decide_false ge_iff_le gt_iff_lt Bool.not_true Bool.not_false Nat.le_refl Bool.and_true Bool.true_and Bool.and_false Bool.false_and eVal eRow eRow1 eRows eInt1 eInts eCol eCols eTbl eTbls eFK eFKs eCon eCons eSch eRel eInst eChg eChgs szOf getD_map_lt wrap_nat wrap_in List.take_of_length_le frz_eVal frz_eRow1 frz_eInt1 frz_eCol frz_eTbl frz_eFK frz_eCon frz_eRel frz_eChg noOwn_nil noOwn_cons noOwn_append L.isOwn noOwn_eVal noOwn_eRow1 noOwn_eInt1 noOwn_eCol noOwn_eTbl noOwn_eFK noOwn_eCon noOwn_eRel noOwn_eChg convK_2 convK_3 convK_5 convK_12 convK_21 convK_28 convK_156 convK_164 TT_2 TT_3 TT_4 TT_5 TT_9 TT_12 TT_13 TT_21 TT_22 TT_23 TT_24 TT_25 TT_26 TT_28 TT_30 TT_31 TT_32 TT_33 TT_37 TT_38 TT_41 TT_42 TT_43 TT_54 TT_55 TT_58 TT_59 TT_60 TT_61 TT_65 TT_66 TT_70 TT_71 TT_78 TT_82 TT_83 TT_102 TT_126 TT_130 TT_156 TT_164 boolTy_4 eqK_38 eqK_59 eqK_61
attribute [local congr] VOps.congr VHead.congr VOp.congr VVal.congr pk.congr assignK.congr appK.congr appStd.congr copyK.congr clearK.congr storeK.congr loadK.congr idxK.congr sliceK.congr indexK.congr binK.congr convKk.congr
set_option maxHeartbeats 16000000 in
theorem relationsWork_sat : Sat Try.prog 18 [] (.v (oB true)) := by
  have e1 : upsertR peopleT [] [⟨1, 2, ByteArray.empty⟩, ⟨0, 0, ByteArray.empty⟩] = [[⟨1, 2, ByteArray.empty⟩, ⟨0, 0, ByteArray.empty⟩]] := by kernel_rfl
  have e2 : upsertR peopleT [[⟨1, 2, ByteArray.empty⟩, ⟨0, 0, ByteArray.empty⟩]] [⟨1, 1, ByteArray.empty⟩, ⟨0, 0, ByteArray.empty⟩] = [[⟨1, 1, ByteArray.empty⟩, ⟨0, 0, ByteArray.empty⟩], [⟨1, 2, ByteArray.empty⟩, ⟨0, 0, ByteArray.empty⟩]] := by kernel_rfl
  have e3 : findI peopleT [[⟨1, 1, ByteArray.empty⟩, ⟨0, 0, ByteArray.empty⟩], [⟨1, 2, ByteArray.empty⟩, ⟨0, 0, ByteArray.empty⟩]] [⟨1, 2, ByteArray.empty⟩] = 1 := by kernel_rfl
  have e4 : findB peopleT [[⟨1, 1, ByteArray.empty⟩, ⟨0, 0, ByteArray.empty⟩], [⟨1, 2, ByteArray.empty⟩, ⟨0, 0, ByteArray.empty⟩]] [⟨1, 2, ByteArray.empty⟩] = true := by kernel_rfl
  have s1 := relUpsert_sat peopleT [] [⟨1, 2, ByteArray.empty⟩, ⟨0, 0, ByteArray.empty⟩] (by decide) (by decide) (by decide) (by decide)
  have s2 := relUpsert_sat peopleT [[⟨1, 2, ByteArray.empty⟩, ⟨0, 0, ByteArray.empty⟩]] [⟨1, 1, ByteArray.empty⟩, ⟨0, 0, ByteArray.empty⟩] (by decide) (by decide) (by decide) (by decide)
  have s3 := find_sat peopleT [[⟨1, 1, ByteArray.empty⟩, ⟨0, 0, ByteArray.empty⟩], [⟨1, 2, ByteArray.empty⟩, ⟨0, 0, ByteArray.empty⟩]] [⟨1, 2, ByteArray.empty⟩] (by decide) (by decide) (by decide)
  rw [e1] at s1
  rw [e2] at s2
  rw [e3, e4] at s3
  refine sat_of_body tyOk Try.func18 rfl (by kernel_rfl) ⟨Nat.le_of_ble_eq_true rfl, Nat.le_of_ble_eq_true rfl⟩ fun w0 m0 F0 => ?_
  simp only [Try.ntmps18, envOf, Nat.reduceAdd]
  repeat' (first
    | ((first
      | with_reducible refine AWP.regionL tyOk fun K hK => ?_
      | ((with_reducible first | refine GOn.isT ?_ ?_ | refine HOn.isT ?_ ?_ | refine pickK.isT ?_ ?_); focus (first | with_reducible rfl | with_reducible assumption | (simp only [NM, LN]; first | done | with_reducible assumption | omega)))
      | ((with_reducible first | refine GOn.isF ?_ ?_ | refine HOn.isF ?_ ?_ | refine pickK.isF ?_ ?_); focus (first | with_reducible rfl | with_reducible assumption | (simp only [NM, LN]; first | done | with_reducible assumption | omega)))
      | ((with_reducible first | refine GOn.split (fun h => ?_) (fun h => ?_) | refine HOn.split (fun h => ?_) (fun h => ?_) | refine pickK.split (fun h => ?_) (fun h => ?_)) <;> (try simp only [NM] at h))
      | with_reducible refine AWP.drawAll tyOk mixed 6 (by kernel_rfl) fun K hK => ?_
      | ((with_reducible refine CallJ.is ?_); (first | refine CallJ.pure (people_sat) ?_ | refine CallJ.pure (integer_sat _) ?_ | refine CallJ.pure (s1) ?_ | refine CallJ.pure (s2) ?_ | refine CallJ.pure (s3) ?_ | ((apply CallJ.frozI [] []); (focus (simp -dsimp (disch := (first | omega | (simp only [LN]; omega))) only [go_sem, ↓reduceIte, seval, RT, St.rest, St.freeze]; rfl)); (focus (first | exact (people_sat) | exact (integer_sat _) | exact (s1) | exact (s2) | exact (s3))))))
      | ((with_reducible refine CallH.is ?_); (first | refine CallH.intro (people_sat) ?_ | refine CallH.intro (integer_sat _) ?_ | refine CallH.intro (s1) ?_ | refine CallH.intro (s2) ?_ | refine CallH.intro (s3) ?_))) <;> simp -dsimp (disch := (first | omega | (simp only [LN]; omega))) only [go_sem, ↓reduceIte, seval, RT, St.rest, St.freeze])
    | ((with_reducible refine hK _ ?_); clear hK K)
    | (with_reducible first | refine AWP.seq ?_ | refine thenQ_normal ?_ | refine AWP.block ?_ | refine AWP.skip ?_ | refine AWP.ret ?_ | refine thenQ_ret ?_ | refine blockQ_ret ?_ | refine AWP.exit ?_ | refine thenQ_exit ?_ | refine blockQ_normal ?_ | refine blockQ_exit ?_)
    | refine blockQ_exit_ne rfl ?_
    | (with_reducible refine And.intro (by (first | with_reducible rfl | with_reducible assumption | omega | (simp only [LN]; first | done | with_reducible rfl | omega) | (simp only [NM, LN]; first | done | with_reducible assumption | omega) | (and_intros <;> first | with_reducible assumption | omega | (simp only [LN]; omega)) | fail)) ?_)
    | ((with_reducible refine AWP.condG (T := TT) (b := ?_) ?_ ?_); rotate_left; exact rfl)
    | (with_reducible first | refine CondG.t ?_ | refine CondG.f ?_ | refine CondG.not ?_)
    | ((with_reducible refine CondG.isT ?_ ?_); focus (first | with_reducible rfl | with_reducible assumption | (simp only [NM, LN]; first | done | with_reducible assumption | omega)))
    | ((with_reducible refine CondG.isF ?_ ?_); focus (first | with_reducible rfl | with_reducible assumption | (simp only [NM, LN]; first | done | with_reducible assumption | omega)))
    | ((with_reducible refine CondG.split (fun h => ?_) (fun h => ?_)) <;> (try simp only [NM] at h)))
  simp -dsimp (disch := (first | omega | (simp only [LN]; omega))) only [retQ, Try.results18, resVals, cellRV, resOf, St.rest, St.freeze, RT, go_sem, ↓reduceIte, seval]

/-- The sizes of a table, of rows. -/
structure RelFits (t : Tbl) (rows : List Row) : Prop where
  pk : t.pk.length ≤ 1099511627776
  n : rows.length ≤ 1099511627775
  row : ∀ r ∈ rows, r.length ≤ 1099511627776
set_option maxHeartbeats 16000000 in
theorem relationDeleteFind_sat (t : Tbl) (rows : List Row) (row : Row) (hf : RelFits t rows) (hr : row.length ≤ 1099511627776) : Sat Try.prog 4 [.agg (eTbl t), .one (eRows rows), .one (eRow row)] (.v (oB true)) := by
  have h1 := hf.pk
  have h2 := hf.n
  have h3 := hf.row
  have h4 : ∀ r ∈ rows, r.length ≤ 140737488355328 := fun r hr => Nat.le_trans (h3 r hr) (by omega)
  have hk : (keyOf t.pk row).length ≤ 140737488355328 := by rw [keyOf_length]; omega
  cases hs : sortedR t rows with
  | false =>
    refine sat_of_body tyOk Try.func4 rfl (by kernel_rfl) ⟨Nat.le_of_ble_eq_true rfl, Nat.le_of_ble_eq_true rfl⟩ fun w0 m0 F0 => ?_
    simp only [Try.ntmps4, envOf, Nat.reduceAdd]
    repeat' (first
      | ((first
        | with_reducible refine AWP.regionL tyOk fun K hK => ?_
        | ((with_reducible first | refine GOn.isT ?_ ?_ | refine HOn.isT ?_ ?_ | refine pickK.isT ?_ ?_); focus (first | with_reducible rfl | with_reducible assumption | (simp only [NM, LN]; first | done | with_reducible assumption | omega)))
        | ((with_reducible first | refine GOn.isF ?_ ?_ | refine HOn.isF ?_ ?_ | refine pickK.isF ?_ ?_); focus (first | with_reducible rfl | with_reducible assumption | (simp only [NM, LN]; first | done | with_reducible assumption | omega)))
        | ((with_reducible first | refine GOn.split (fun h => ?_) (fun h => ?_) | refine HOn.split (fun h => ?_) (fun h => ?_) | refine pickK.split (fun h => ?_) (fun h => ?_)) <;> (try simp only [NM] at h))
        | with_reducible refine AWP.drawAll tyOk mixed 6 (by kernel_rfl) fun K hK => ?_
        | ((with_reducible refine CallJ.is ?_); (first | refine CallJ.pure (relationsWork_sat) ?_ | refine CallJ.pure (sorted_sat t rows h1 (by omega) h4) ?_ | ((apply CallJ.lentI); (focus (simp -dsimp (disch := (first | omega | (simp only [LN]; omega))) only [go_sem, ↓reduceIte, seval, hs]; rfl)); (focus (first | exact (relationsWork_sat) | exact (sorted_sat t rows h1 (by omega) h4))))))
        | ((with_reducible refine CallH.is ?_); (first | refine CallH.intro (relationsWork_sat) ?_ | refine CallH.intro (sorted_sat t rows h1 (by omega) h4) ?_))) <;> simp -dsimp (disch := (first | omega | (simp only [LN]; omega))) only [go_sem, ↓reduceIte, seval, hs])
      | ((with_reducible refine hK _ ?_); clear hK K)
      | (with_reducible first | refine AWP.seq ?_ | refine thenQ_normal ?_ | refine AWP.block ?_ | refine AWP.skip ?_ | refine AWP.ret ?_ | refine thenQ_ret ?_ | refine blockQ_ret ?_ | refine AWP.exit ?_ | refine thenQ_exit ?_ | refine blockQ_normal ?_ | refine blockQ_exit ?_)
      | refine blockQ_exit_ne rfl ?_
      | (with_reducible refine And.intro (by (first | with_reducible rfl | with_reducible assumption | omega | (simp only [LN]; first | done | with_reducible rfl | omega) | (simp only [NM, LN]; first | done | with_reducible assumption | omega) | (and_intros <;> first | with_reducible assumption | omega | (simp only [LN]; omega)) | fail)) ?_)
      | ((with_reducible refine AWP.condG (T := TT) (b := ?_) ?_ ?_); rotate_left; exact rfl)
      | (with_reducible first | refine CondG.t ?_ | refine CondG.f ?_ | refine CondG.not ?_)
      | ((with_reducible refine CondG.isT ?_ ?_); focus (first | with_reducible rfl | with_reducible assumption | (simp only [NM, LN]; first | done | with_reducible assumption | omega)))
      | ((with_reducible refine CondG.isF ?_ ?_); focus (first | with_reducible rfl | with_reducible assumption | (simp only [NM, LN]; first | done | with_reducible assumption | omega)))
      | ((with_reducible refine CondG.split (fun h => ?_) (fun h => ?_)) <;> (try simp only [NM] at h)))
    simp -dsimp (disch := (first | omega | (simp only [LN]; omega))) only [retQ, Try.results4, resVals, cellRV, resOf, St.rest, St.freeze, RT, go_sem, ↓reduceIte, seval]
  | true =>
    have sr := sortedR_sr.1 hs
    have d1 := deleteR_length t (keyOf t.pk row) rows
    have d2 : ∀ r ∈ deleteR t rows (keyOf t.pk row), r.length ≤ 1099511627776 := fun r hr => h3 r (mem_deleteR hr)
    have d3 : ∀ r ∈ deleteR t rows (keyOf t.pk row), r.length ≤ 140737488355328 := fun r hr => Nat.le_trans (d2 r hr) (by omega)
    have u1 := upsertR_length t row rows
    have u2 : ∀ r ∈ upsertR t rows row, r.length ≤ 1099511627776 := fun r hr' => (mem_upsertR hr').elim (fun e => e ▸ hr) (h3 r)
    have e1 := deleteR_findB (key := keyOf t.pk row) sr
    have e2 : sortedR t (deleteR t rows (keyOf t.pk row)) = true := sortedR_sr.2 (deleteR_sr _ sr)
    have e3 := upsertR_findB t row rows
    have e4 := deleteR_upsertR t row rows
    have s5 := relDelete_sat t (upsertR t rows row) (keyOf t.pk row) h1 (by omega) hk u2
    rw [e3, e4] at s5
    have s6 := relUpsert_sat t rows row h1 (by omega) hr h3
    have s7 := relEqual_sat (deleteR t rows (keyOf t.pk row)) (deleteR t rows (keyOf t.pk row)) (by omega) (by omega) d3 d3
    have he : decide (deleteR t rows (keyOf t.pk row) = deleteR t rows (keyOf t.pk row)) = true := by simp
    rw [he] at s7
    cases hb : findB t rows (keyOf t.pk row) with
    | true =>
      refine sat_of_body tyOk Try.func4 rfl (by kernel_rfl) ⟨Nat.le_of_ble_eq_true rfl, Nat.le_of_ble_eq_true rfl⟩ fun w0 m0 F0 => ?_
      simp only [Try.ntmps4, envOf, Nat.reduceAdd]
      repeat' (first
        | ((first
          | with_reducible refine AWP.regionL tyOk fun K hK => ?_
          | ((with_reducible first | refine GOn.isT ?_ ?_ | refine HOn.isT ?_ ?_ | refine pickK.isT ?_ ?_); focus (first | with_reducible rfl | with_reducible assumption | (simp only [NM, LN]; first | done | with_reducible assumption | omega)))
          | ((with_reducible first | refine GOn.isF ?_ ?_ | refine HOn.isF ?_ ?_ | refine pickK.isF ?_ ?_); focus (first | with_reducible rfl | with_reducible assumption | (simp only [NM, LN]; first | done | with_reducible assumption | omega)))
          | ((with_reducible first | refine GOn.split (fun h => ?_) (fun h => ?_) | refine HOn.split (fun h => ?_) (fun h => ?_) | refine pickK.split (fun h => ?_) (fun h => ?_)) <;> (try simp only [NM] at h))
          | ((with_reducible refine CallJ.is ?_); (first | refine CallJ.pure (relationsWork_sat) ?_ | refine CallJ.pure (sorted_sat t rows h1 (by omega) h4) ?_ | refine CallJ.pure (rKeyOf_sat t row h1 (by omega)) ?_ | refine CallJ.pure (relDelete_sat t rows (keyOf t.pk row) h1 (by omega) hk h3) ?_ | refine CallJ.pure (find_sat t (deleteR t rows (keyOf t.pk row)) (keyOf t.pk row) h1 (by omega) hk) ?_ | refine CallJ.pure (sorted_sat t (deleteR t rows (keyOf t.pk row)) h1 (by omega) d3) ?_ | ((apply CallJ.lentI); (focus (simp -dsimp (disch := (first | omega | (simp only [LN]; omega))) only [go_sem, ↓reduceIte, seval, hs, e1, e2, hb]; rfl)); (focus (first | exact (relationsWork_sat) | exact (sorted_sat t rows h1 (by omega) h4) | exact (rKeyOf_sat t row h1 (by omega)) | exact (relDelete_sat t rows (keyOf t.pk row) h1 (by omega) hk h3) | exact (find_sat t (deleteR t rows (keyOf t.pk row)) (keyOf t.pk row) h1 (by omega) hk) | exact (sorted_sat t (deleteR t rows (keyOf t.pk row)) h1 (by omega) d3))))))
          | ((with_reducible refine CallH.is ?_); (first | refine CallH.intro (relationsWork_sat) ?_ | refine CallH.intro (sorted_sat t rows h1 (by omega) h4) ?_ | refine CallH.intro (rKeyOf_sat t row h1 (by omega)) ?_ | refine CallH.intro (relDelete_sat t rows (keyOf t.pk row) h1 (by omega) hk h3) ?_ | refine CallH.intro (find_sat t (deleteR t rows (keyOf t.pk row)) (keyOf t.pk row) h1 (by omega) hk) ?_ | refine CallH.intro (sorted_sat t (deleteR t rows (keyOf t.pk row)) h1 (by omega) d3) ?_))) <;> simp -dsimp (disch := (first | omega | (simp only [LN]; omega))) only [go_sem, ↓reduceIte, seval, hs, e1, e2, hb])
        | ((with_reducible refine hK _ ?_); clear hK K)
        | (with_reducible first | refine AWP.seq ?_ | refine thenQ_normal ?_ | refine AWP.block ?_ | refine AWP.skip ?_ | refine AWP.ret ?_ | refine thenQ_ret ?_ | refine blockQ_ret ?_ | refine AWP.exit ?_ | refine thenQ_exit ?_ | refine blockQ_normal ?_ | refine blockQ_exit ?_)
        | refine blockQ_exit_ne rfl ?_
        | (with_reducible refine And.intro (by (first | with_reducible rfl | with_reducible assumption | omega | (simp only [LN]; first | done | with_reducible rfl | omega) | (simp only [NM, LN]; first | done | with_reducible assumption | omega) | (and_intros <;> first | with_reducible assumption | omega | (simp only [LN]; omega)) | fail)) ?_)
        | ((with_reducible refine AWP.condG (T := TT) (b := ?_) ?_ ?_); rotate_left; exact rfl)
        | (with_reducible first | refine CondG.t ?_ | refine CondG.f ?_ | refine CondG.not ?_)
        | ((with_reducible refine CondG.isT ?_ ?_); focus (first | with_reducible rfl | with_reducible assumption | (simp only [NM, LN]; first | done | with_reducible assumption | omega)))
        | ((with_reducible refine CondG.isF ?_ ?_); focus (first | with_reducible rfl | with_reducible assumption | (simp only [NM, LN]; first | done | with_reducible assumption | omega)))
        | ((with_reducible refine CondG.split (fun h => ?_) (fun h => ?_)) <;> (try simp only [NM] at h)))
      refine AWP.drawAll tyOk mixed 8 (by kernel_rfl) fun K hK => ?_
      simp -dsimp (disch := (first | omega | (simp only [LN]; omega))) only [go_sem, ↓reduceIte, seval, Option.getD_none]
      repeat' (first
        | ((first
          | with_reducible refine AWP.regionL tyOk fun K hK => ?_
          | ((with_reducible first | refine GOn.isT ?_ ?_ | refine HOn.isT ?_ ?_ | refine pickK.isT ?_ ?_); focus (first | with_reducible rfl | with_reducible assumption | (simp only [NM, LN]; first | done | with_reducible assumption | omega)))
          | ((with_reducible first | refine GOn.isF ?_ ?_ | refine HOn.isF ?_ ?_ | refine pickK.isF ?_ ?_); focus (first | with_reducible rfl | with_reducible assumption | (simp only [NM, LN]; first | done | with_reducible assumption | omega)))
          | ((with_reducible refine CallJ.is ?_); (first | refine CallJ.pure (s5) ?_ | refine CallJ.pure (s6) ?_ | refine CallJ.pure (s7) ?_ | ((apply CallJ.lentI); (focus (simp -dsimp (disch := (first | omega | (simp only [LN]; omega))) only [go_sem, ↓reduceIte, seval, Option.getD_none]; rfl)); (focus (first | exact (s5) | exact (s6) | exact (s7))))))
          | ((with_reducible refine CallH.is ?_); (first | refine CallH.intro (s5) ?_ | refine CallH.intro (s6) ?_ | refine CallH.intro (s7) ?_))) <;> simp -dsimp (disch := (first | omega | (simp only [LN]; omega))) only [go_sem, ↓reduceIte, seval, Option.getD_none])
        | ((with_reducible refine hK _ ?_); clear hK K)
        | (with_reducible first | refine AWP.seq ?_ | refine thenQ_normal ?_ | refine AWP.block ?_ | refine AWP.skip ?_ | refine AWP.ret ?_ | refine thenQ_ret ?_ | refine blockQ_ret ?_ | refine AWP.exit ?_ | refine thenQ_exit ?_ | refine blockQ_normal ?_ | refine blockQ_exit ?_)
        | refine blockQ_exit_ne rfl ?_
        | (with_reducible refine And.intro (by (first | with_reducible rfl | with_reducible assumption | omega | (simp only [LN]; first | done | with_reducible rfl | omega) | (simp only [NM, LN]; first | done | with_reducible assumption | omega) | (and_intros <;> first | with_reducible assumption | omega | (simp only [LN]; omega)) | fail)) ?_)
        | ((with_reducible refine AWP.condG (T := TT) (b := ?_) ?_ ?_); rotate_left; exact rfl)
        | (with_reducible first | refine CondG.t ?_ | refine CondG.f ?_ | refine CondG.not ?_)
        | ((with_reducible refine CondG.isT ?_ ?_); focus (first | with_reducible rfl | with_reducible assumption | (simp only [NM, LN]; first | done | with_reducible assumption | omega)))
        | ((with_reducible refine CondG.isF ?_ ?_); focus (first | with_reducible rfl | with_reducible assumption | (simp only [NM, LN]; first | done | with_reducible assumption | omega))))
      simp -dsimp (disch := (first | omega | (simp only [LN]; omega))) only [retQ, Try.results4, resVals, cellRV, resOf, St.rest, St.freeze, RT, go_sem, ↓reduceIte, seval]
    | false =>
      have e5 := deleteR_none hb
      have s8 := relEqual_sat (deleteR t rows (keyOf t.pk row)) rows (by omega) (by omega) d3 h4
      rw [decide_eq_true e5] at s8
      refine sat_of_body tyOk Try.func4 rfl (by kernel_rfl) ⟨Nat.le_of_ble_eq_true rfl, Nat.le_of_ble_eq_true rfl⟩ fun w0 m0 F0 => ?_
      simp only [Try.ntmps4, envOf, Nat.reduceAdd]
      repeat' (first
        | ((first
          | with_reducible refine AWP.regionL tyOk fun K hK => ?_
          | ((with_reducible first | refine GOn.isT ?_ ?_ | refine HOn.isT ?_ ?_ | refine pickK.isT ?_ ?_); focus (first | with_reducible rfl | with_reducible assumption | (simp only [NM, LN]; first | done | with_reducible assumption | omega)))
          | ((with_reducible first | refine GOn.isF ?_ ?_ | refine HOn.isF ?_ ?_ | refine pickK.isF ?_ ?_); focus (first | with_reducible rfl | with_reducible assumption | (simp only [NM, LN]; first | done | with_reducible assumption | omega)))
          | ((with_reducible first | refine GOn.split (fun h => ?_) (fun h => ?_) | refine HOn.split (fun h => ?_) (fun h => ?_) | refine pickK.split (fun h => ?_) (fun h => ?_)) <;> (try simp only [NM] at h))
          | ((with_reducible refine CallJ.is ?_); (first | refine CallJ.pure (relationsWork_sat) ?_ | refine CallJ.pure (sorted_sat t rows h1 (by omega) h4) ?_ | refine CallJ.pure (rKeyOf_sat t row h1 (by omega)) ?_ | refine CallJ.pure (relDelete_sat t rows (keyOf t.pk row) h1 (by omega) hk h3) ?_ | refine CallJ.pure (find_sat t (deleteR t rows (keyOf t.pk row)) (keyOf t.pk row) h1 (by omega) hk) ?_ | refine CallJ.pure (sorted_sat t (deleteR t rows (keyOf t.pk row)) h1 (by omega) d3) ?_ | ((apply CallJ.lentI); (focus (simp -dsimp (disch := (first | omega | (simp only [LN]; omega))) only [go_sem, ↓reduceIte, seval, hs, e1, e2, hb]; rfl)); (focus (first | exact (relationsWork_sat) | exact (sorted_sat t rows h1 (by omega) h4) | exact (rKeyOf_sat t row h1 (by omega)) | exact (relDelete_sat t rows (keyOf t.pk row) h1 (by omega) hk h3) | exact (find_sat t (deleteR t rows (keyOf t.pk row)) (keyOf t.pk row) h1 (by omega) hk) | exact (sorted_sat t (deleteR t rows (keyOf t.pk row)) h1 (by omega) d3))))))
          | ((with_reducible refine CallH.is ?_); (first | refine CallH.intro (relationsWork_sat) ?_ | refine CallH.intro (sorted_sat t rows h1 (by omega) h4) ?_ | refine CallH.intro (rKeyOf_sat t row h1 (by omega)) ?_ | refine CallH.intro (relDelete_sat t rows (keyOf t.pk row) h1 (by omega) hk h3) ?_ | refine CallH.intro (find_sat t (deleteR t rows (keyOf t.pk row)) (keyOf t.pk row) h1 (by omega) hk) ?_ | refine CallH.intro (sorted_sat t (deleteR t rows (keyOf t.pk row)) h1 (by omega) d3) ?_))) <;> simp -dsimp (disch := (first | omega | (simp only [LN]; omega))) only [go_sem, ↓reduceIte, seval, hs, e1, e2, hb])
        | ((with_reducible refine hK _ ?_); clear hK K)
        | (with_reducible first | refine AWP.seq ?_ | refine thenQ_normal ?_ | refine AWP.block ?_ | refine AWP.skip ?_ | refine AWP.ret ?_ | refine thenQ_ret ?_ | refine blockQ_ret ?_ | refine AWP.exit ?_ | refine thenQ_exit ?_ | refine blockQ_normal ?_ | refine blockQ_exit ?_)
        | refine blockQ_exit_ne rfl ?_
        | (with_reducible refine And.intro (by (first | with_reducible rfl | with_reducible assumption | omega | (simp only [LN]; first | done | with_reducible rfl | omega) | (simp only [NM, LN]; first | done | with_reducible assumption | omega) | (and_intros <;> first | with_reducible assumption | omega | (simp only [LN]; omega)) | fail)) ?_)
        | ((with_reducible refine AWP.condG (T := TT) (b := ?_) ?_ ?_); rotate_left; exact rfl)
        | (with_reducible first | refine CondG.t ?_ | refine CondG.f ?_ | refine CondG.not ?_)
        | ((with_reducible refine CondG.isT ?_ ?_); focus (first | with_reducible rfl | with_reducible assumption | (simp only [NM, LN]; first | done | with_reducible assumption | omega)))
        | ((with_reducible refine CondG.isF ?_ ?_); focus (first | with_reducible rfl | with_reducible assumption | (simp only [NM, LN]; first | done | with_reducible assumption | omega)))
        | ((with_reducible refine CondG.split (fun h => ?_) (fun h => ?_)) <;> (try simp only [NM] at h)))
      refine AWP.drawAll tyOk mixed 8 (by kernel_rfl) fun K hK => ?_
      simp -dsimp (disch := (first | omega | (simp only [LN]; omega))) only [go_sem, ↓reduceIte, seval, Option.getD_none]
      repeat' (first
        | ((first
          | with_reducible refine AWP.regionL tyOk fun K hK => ?_
          | ((with_reducible first | refine GOn.isT ?_ ?_ | refine HOn.isT ?_ ?_ | refine pickK.isT ?_ ?_); focus (first | with_reducible rfl | with_reducible assumption | (simp only [NM, LN]; first | done | with_reducible assumption | omega)))
          | ((with_reducible first | refine GOn.isF ?_ ?_ | refine HOn.isF ?_ ?_ | refine pickK.isF ?_ ?_); focus (first | with_reducible rfl | with_reducible assumption | (simp only [NM, LN]; first | done | with_reducible assumption | omega)))
          | ((with_reducible refine CallJ.is ?_); (first | refine CallJ.pure (s5) ?_ | refine CallJ.pure (s6) ?_ | refine CallJ.pure (s7) ?_ | refine CallJ.pure (s8) ?_ | ((apply CallJ.lentI); (focus (simp -dsimp (disch := (first | omega | (simp only [LN]; omega))) only [go_sem, ↓reduceIte, seval, Option.getD_none]; rfl)); (focus (first | exact (s5) | exact (s6) | exact (s7) | exact (s8))))))
          | ((with_reducible refine CallH.is ?_); (first | refine CallH.intro (s5) ?_ | refine CallH.intro (s6) ?_ | refine CallH.intro (s7) ?_ | refine CallH.intro (s8) ?_))) <;> simp -dsimp (disch := (first | omega | (simp only [LN]; omega))) only [go_sem, ↓reduceIte, seval, Option.getD_none])
        | ((with_reducible refine hK _ ?_); clear hK K)
        | (with_reducible first | refine AWP.seq ?_ | refine thenQ_normal ?_ | refine AWP.block ?_ | refine AWP.skip ?_ | refine AWP.ret ?_ | refine thenQ_ret ?_ | refine blockQ_ret ?_ | refine AWP.exit ?_ | refine thenQ_exit ?_ | refine blockQ_normal ?_ | refine blockQ_exit ?_)
        | refine blockQ_exit_ne rfl ?_
        | (with_reducible refine And.intro (by (first | with_reducible rfl | with_reducible assumption | omega | (simp only [LN]; first | done | with_reducible rfl | omega) | (simp only [NM, LN]; first | done | with_reducible assumption | omega) | (and_intros <;> first | with_reducible assumption | omega | (simp only [LN]; omega)) | fail)) ?_)
        | ((with_reducible refine AWP.condG (T := TT) (b := ?_) ?_ ?_); rotate_left; exact rfl)
        | (with_reducible first | refine CondG.t ?_ | refine CondG.f ?_ | refine CondG.not ?_)
        | ((with_reducible refine CondG.isT ?_ ?_); focus (first | with_reducible rfl | with_reducible assumption | (simp only [NM, LN]; first | done | with_reducible assumption | omega)))
        | ((with_reducible refine CondG.isF ?_ ?_); focus (first | with_reducible rfl | with_reducible assumption | (simp only [NM, LN]; first | done | with_reducible assumption | omega))))
      simp -dsimp (disch := (first | omega | (simp only [LN]; omega))) only [retQ, Try.results4, resVals, cellRV, resOf, St.rest, St.freeze, RT, go_sem, ↓reduceIte, seval]
end Go.Bw

namespace Go.Bw
open Go.RowKit
/-- The memory of a world, all of it read. -/
def memOf (w : World) : Mem := fun x => w.cell? x
def CRd (w : World) (cs : List Value) (ls : List L) : Prop := cs.length = ls.length ∧ ∀ (j : Nat) (l : L), ls[j]? = some l → ∃ v, cs[j]? = some v ∧ Rep (memOf w) v l

theorem CRd.append {w : World} {cs cs' : List Value} {ls ls' : List L} (h : CRd w cs ls) (h' : CRd w cs' ls') : CRd w (cs ++ cs') (ls ++ ls') := by
  refine ⟨by simp [h.1, h'.1], fun j l hj => ?_⟩
  rcases Nat.lt_or_ge j ls.length with hlt | hge
  · rw [List.getElem?_append_left hlt] at hj
    rw [List.getElem?_append_left (by rw [h.1]; exact hlt)]
    exact h.2 j l hj
  · rw [List.getElem?_append_right hge] at hj
    rw [List.getElem?_append_right (by rw [h.1]; exact hge), h.1]
    exact h'.2 _ l hj

/-- What reads at type t reads as e says, of some x that is good. -/
structure Rd (P : Program) (w : World) (t : TypeId) {α : Type} (e : α → List L) (good : α → Prop) : Prop where
  get : ∀ {H : Type} {enc : TypeId × Value → H} {base : Nat} {spare : Nat → Bool} {held : Bool} {n : Nat} {cs : List Value} {x : DataW H × List MemPlace}, DataW.trod enc P w base spare held n t cs = some x →
    (∀ n ∈ x.1.weights P t, n ≤ reachBytes) → ∃ y, good y ∧ CRd w cs (e y)

variable {P : Program} {w : World} {t : TypeId}

theorem CRd.one {v : Value} {l : L} (h : Rep (memOf w) v l) : CRd w [v] [l] := by
  refine ⟨rfl, fun j x hj => ?_⟩
  cases j with
  | zero => simp only [List.getElem?_cons_zero, Option.some.injEq] at hj; subst hj; exact ⟨v, rfl, h⟩
  | succ j => simp at hj

theorem Rd.to {α β : Type} {e : α → List L} {e' : β → List L} {good : α → Prop} {good' : β → Prop} (h : Rd P w t e good) (f : α → β) (he : ∀ x, e' (f x) = e x) (hg : ∀ x, good x → good' (f x)) : Rd P w t e' good' := by
  constructor
  intro H enc base spare held n cs x h1 h2
  obtain ⟨y, h3, h4⟩ := h.get h1 h2
  exact ⟨f y, hg y h3, by rw [he]; exact h4⟩

/-- Each has one: a list of them. -/
theorem choose_list {α : Type} {R : Nat → α → Prop} : ∀ (n : Nat), (∀ i, i < n → ∃ x, R i x) → ∃ l : List α, l.length = n ∧ ∀ i x, l[i]? = some x → R i x
  | 0, _ => ⟨[], rfl, fun i x h => by simp at h⟩
  | n + 1, h => by
    obtain ⟨l, h1, h2⟩ := choose_list n fun i hi => h i (by omega)
    obtain ⟨x, hx⟩ := h n (by omega)
    refine ⟨l ++ [x], by simp [h1], fun i y hy => ?_⟩
    rcases Nat.lt_or_ge i n with hlt | hge
    · rw [List.getElem?_append_left (by omega)] at hy
      exact h2 i y hy
    · rw [List.getElem?_append_right (by omega)] at hy
      have : i = n := by
        have := (List.getElem?_eq_some_iff.1 hy).1
        simp only [List.length_singleton] at this
        omega
      subst this
      simp [h1] at hy
      subst hy
      exact hx

/-- A value that reads so. -/
theorem vrep_agg {cs : Array Value} {ls : List L} {ω : Wh} (h : CRd w cs.toList ls) : VRep (memOf w) ω (.agg cs) (.agg ls) := by
  refine ⟨cs, rfl, by simpa using h.1, fun j l hj => ?_⟩
  obtain ⟨v, h1, h2⟩ := h.2 j l hj
  exact ⟨v, by simpa using h1, h2.erep⟩
theorem vrep_one {v : Value} {l : L} {ω : Wh} (h : CRd w [v] [l]) : VRep (memOf w) ω v (.one l) := by
  obtain ⟨v', h1, h2⟩ := h.2 0 l rfl
  simp only [List.getElem?_cons_zero, Option.some.injEq] at h1
  subst h1
  exact h2.erep

/-- A contract of a function with a body, at values that read so in the world: it is called, and below the old heap nothing turns. -/
theorem calls_of_sat {f : FuncId} {fn : Func} {c : Code} {xs : List V} {b : Bool} {vs : List Value} (hf : P.funcs[f]? = some fn) (hb : fn.body = some c) (hn : (fn.name == "runtime.NumGoroutine") = false) (h : Sat P f xs (.v (.one (.bool b))))
    (hA : ∀ ω, ArgsRep (memOf w) ω vs xs) : Calls P f vs.toArray w fun e w' => e = .returned (.bool b) ∧ Below w.heap.size w w' := by
  have ω : Wh := { box := fun _ => 0, row := fun _ => { blk := none, cap := 0, sz := 0 }, f := fun _ _ _ => False }
  have hCI : CI P w (memOf w) (handed [] [] ω) (roots [] []) a0 w (memOf w) ω := by
    refine { size := rfl, defers := rfl, keeps := ⟨rfl, rfl, rfl, Nat.le_refl _, fun _ _ _ => rfl⟩, mle := Mem.le_refl _, mold := fun _ _ _ => rfl, ok := fun _ _ h => h, env := fun _ _ h => (by cases h), box := fun _ _ h => (by cases h), row := fun _ _ h => (by cases h), fresh := fun κ id hl => ?_, apart := fun κ id κ' id' hl => ?_, home := ⟨fun id hid => ?_, fun _ _ h => (by simp [handed, look] at h), fun _ _ h => (by simp [handed, look] at h)⟩ }
    · cases κ <;> exact absurd hl (by simp [St.live, roots, look])
    · cases κ <;> exact absurd hl (by simp [St.live, roots, look])
    · simp [handed, look] at hid
  have h1 := h.call (memOf w) w vs ω hCI (hA ω)
  rcases h1 with ⟨v, w', h2, _⟩ | ⟨_, h2⟩
  · have h3 : (callFunc f vs.toArray).run P w = .ok (.enter f vs.toArray) w := by
      simp only [callFunc, Sem.run_bind, program, Sem.run, Result.andThen_ok, hf]
      rw [hn, hb]
      simp
    rw [h3] at h2
    cases h2
  · refine h2.mono fun e w' ⟨v, he, m', ω', hC, hv⟩ => ?_
    have hv : v = .bool b := by
      have hv : Rep m' v (.bool b) := hv
      cases hv
      rfl
    subst hv
    refine ⟨he, hC.keeps.os, hC.keeps.tape, hC.keeps.output, hC.keeps.size, fun k hk => hC.keeps.block k hk fun ho => ?_⟩
    obtain ⟨κ, id, hl, _⟩ := ho
    cases κ <;> exact absurd hl (by simp [St.live, roots, look])

theorem argsRep_nil {m : Mem} {ω : Wh} : ArgsRep m ω [] [] := ⟨rfl, fun i x h => by simp at h⟩
theorem argsRep_cons {m : Mem} {ω : Wh} {v : Value} {x : V} {vs : List Value} {xs : List V} (h : VRep m ω v x) (hs : ArgsRep m ω vs xs) : ArgsRep m ω (v :: vs) (x :: xs) := by
  refine ⟨by simp [hs.1], fun i y hy => ?_⟩
  cases i with
  | zero => simp only [List.getElem?_cons_zero, Option.some.injEq] at hy; subst hy; exact ⟨v, rfl, h⟩
  | succ i => exact hs.2 i y (by simpa using hy)

section
open Go.ChangeShapes
variable {H : Type} {enc : TypeId × Value → H} {w' : World} {base : Nat} {sp : Nat → Bool} {held : Bool}
theorem trodAll_carry (hs : ∀ p : MemPlace, p.block < w.heap.size → w.sameAt w' p) : ∀ {ts : List TypeId} {vs : List Value} {ds : List (DataW H)} {ps : List MemPlace}, DataW.TrodAll enc P w base sp held ts vs ds ps → (∀ p ∈ ps, p.block < w.heap.size) → DataW.TrodAll enc P w' base sp held ts vs ds ps
  | [], vs, ds, ps, h, _ => by
    obtain ⟨rfl, rfl, rfl⟩ := trodAll_nil h
    exact rfl
  | t :: ts, vs, ds, ps, h, hp => by
    obtain ⟨v, vs1, d, ds1, a, b, rfl, rfl, rfl, ⟨n, h1⟩, h2⟩ := trodAll_cons h
    exact ⟨a, b, ⟨n, DataW.trod_carry n _ _ _ h1 fun p hp' => hs p (hp p (by simp [hp']))⟩, trodAll_carry hs h2 fun p hp' => hp p (by simp [hp']), rfl⟩
theorem trodAll_below (hl : laidOutB P = true) (hb : Below w.heap.size w w') : ∀ {ts : List TypeId} {vs : List Value} {ds : List (DataW H)} {ps : List MemPlace}, (ts.all fun t => P.readableRec t && decide (t < P.types.size)) = true → DataW.TrodAll enc P w 0 (fun _ => true) true ts vs ds ps → (∀ p ∈ ps, p.block < w.heap.size) →
    DataW.TrodAll enc P w' 0 (fun b => decide (b < w.heap.size)) true ts vs ds ps
  | [], vs, ds, ps, _, h, _ => by
    obtain ⟨rfl, rfl, rfl⟩ := trodAll_nil h
    exact rfl
  | t :: ts, vs, ds, ps, hr, h, hp => by
    obtain ⟨v, vs1, d, ds1, a, b, rfl, rfl, rfl, h1, h2⟩ := trodAll_cons h
    simp only [List.all_cons, Bool.and_eq_true, decide_eq_true_eq] at hr
    exact ⟨a, b, Below.trod hl hr.1.1 hr.1.2 h1 hb fun p hp' => hp p (by simp [hp']), trodAll_below hl hb hr.2 h2 fun p hp' => hp p (by simp [hp']), rfl⟩

/-- A law that only reads and says true: what it leaves. -/
theorem post_of_below {f : Func} {s : ChangeSpec} {apart fresh again : Bool} {args : Array Value} {ds gs : List (DataW H)} {before : List MemPlace} {rt : TypeId} (hl : laidOutB P = true) (hrt : f.resultTypes = #[rt]) (hub : P.underlying rt = some .bool)
    (hread : (f.params.toList.all fun t => P.readableRec t && decide (t < P.types.size)) = true) (hvs : s.vars = [])
    (hW : DataW.Whole enc P f.params.toList s.vars apart w args.toList ds gs before) (hb : Below w.heap.size w w')
    (hfn : s.fn H ds = { results := [.lit (.bool true)], args := ds }) : s.post enc P f apart fresh false again w args (.bool true) w' := by
  have hW0 := hW
  have hlt : ∀ p ∈ before, p.block < w.heap.size := fun p hp => by simpa using hW.lt p hp
  obtain ⟨p, q, hA, hV, rfl, hz, hn⟩ := hW
  rw [hvs] at hV
  have hgq : gs = [] ∧ q = [] := by
    cases gs with
    | nil => exact ⟨rfl, hV⟩
    | cons g gs => exact absurd hV (by simp [DataW.TrodVars])
  obtain ⟨rfl, rfl⟩ := hgq
  simp only [List.append_nil] at hlt hz hn ⊢
  have hres : ∀ (b : Nat) (sp : Nat → Bool) (hd : Bool), DataW.TrodAll enc P w' b sp hd f.resultTypes.toList ((Value.bool true).resultList f.resultTypes.size) (s.fn H (ds ++ [])).results [] := by
    intro b sp hd
    rw [hrt, List.append_nil, hfn]
    exact ⟨[], [], ⟨1, by simp [DataW.trod, hub, Value.cells]⟩, rfl, rfl⟩
  have hargs1 := trodAll_below (P := P) hl hb hread hA hlt
  have hargs2 := trodAll_carry (P := P) (w := w) (w' := w') (fun p hp => hb.same hp) hA hlt
  have hvars : ∀ sp, DataW.TrodVars enc P w' sp s.vars (s.fn H (ds ++ [])).vars [] := by
    intro sp
    rw [hvs, List.append_nil, hfn]
    exact rfl
  refine ⟨ds, [], p ++ [], [], p, [], hW0, hres _ _ _, by rw [List.append_nil, hfn]; exact hargs1, hvars _, World.keptBut_mono (fun p hp => ⟨by simpa using hp.1, ?_⟩) (hb.frame fun x => x ∈ p ∧ True), fun _ => ?_⟩
  · simpa using hp.1
  · refine ⟨?_, _, _, ([] ++ p) ++ [], ⟨[] ++ p, [], trodAll_append hargs2 (hres _ _ _), hvars _, rfl, ?_, ?_⟩, ?_⟩
    · exact ok_one hrt rfl (okWide_bool_mk hub true)
    · intro b off hp
      have hp : MemPlace.cell b off ∈ p := by simpa using hp
      rw [hb.frozen (hlt _ hp)]
      exact hz b off hp
    · intro ha
      simpa using hn ha
    · intro p hp _
      simpa using hp
end
end Go.Bw

namespace Go.Bw
open Go.Proofs
variable {w : World}
theorem cells_int : Try.prog.cellsOf 3 = 1 := by kernel_rfl
theorem cells_string : Try.prog.cellsOf 9 = 1 := by kernel_rfl
theorem cells_bool : Try.prog.cellsOf 4 = 1 := by kernel_rfl
theorem cells_Value : Try.prog.cellsOf 59 = 3 := by kernel_rfl
theorem cells_s_Column : Try.prog.cellsOf 30 = 1 := by kernel_rfl
theorem cells_Column : Try.prog.cellsOf 38 = 3 := by kernel_rfl
theorem cells_s_int : Try.prog.cellsOf 31 = 1 := by kernel_rfl
theorem cells_Table : Try.prog.cellsOf 33 = 3 := by kernel_rfl
end Go.Bw

namespace Go.Bw
open Go.Proofs
theorem laid : laidOutB Try.prog = true := by kernel_rfl
theorem ownK : ownKnob Try.prog.godebug = none := by kernel_rfl

/-- A value that is no struct: it is its one cell. -/
def oneDesc : TypeDesc → Bool
  | .slice _ => true
  | .string => true
  | .bool => true
  | .int _ => true
  | _ => false
theorem cells_oneC {P : Program} {w : World} {base : Nat} {t : TypeId} {v : Value} {d : TypeDesc} (hu : P.underlying t = some d) (hd : oneDesc d = true) (h : Value.okWide P w .any base t v) : v.cells.toList = [v] := by
  have hne : ∀ cs, v ≠ .agg cs := by
    rintro cs rfl
    cases d <;> simp [oneDesc] at hd <;> simp [Value.okWide, hu, Cell.okWide, Cell.ok] at h
  cases v with
  | agg cs => exact absurd rfl (hne cs)
  | _ => rfl

variable {w : World}
theorem cells_Row : Try.prog.cellsOf 43 = 1 := by kernel_rfl
end Go.Bw

namespace Go.Bw
open Go.RowKit Go.Proofs Go.Proofs.Ytinlgpgdinnefaa
theorem bulk_one {H : Type} (d : DataW H) : 1 ≤ Rows.uptoBulk d := by
  cases d with
  | lit l => cases l <;> simp [Rows.uptoBulk]
  | nil => simp [Rows.uptoBulk]
  | ptr d => simp [Rows.uptoBulk]
  | slice elems spare => simp [Rows.uptoBulk]
  | agg parts => simp [Rows.uptoBulk]
  | iface t d => simp [Rows.uptoBulk]
  | map entries => simp [Rows.uptoBulk]
  | held h => simp [Rows.uptoBulk]
theorem bulk_part {H : Type} {d : DataW H} {l : List (DataW H)} (h : d ∈ l) : Rows.uptoBulk d ≤ Rows.uptoBulkAll l := by
  induction l with
  | nil => cases h
  | cons x r ih =>
    simp only [Rows.uptoBulkAll]
    rcases List.mem_cons.1 h with e | e
    · subst e; omega
    · have := ih e; omega
theorem bulk_length {H : Type} (l : List (DataW H)) : l.length ≤ Rows.uptoBulkAll l := by
  induction l with
  | nil => simp [Rows.uptoBulkAll]
  | cons x r ih => have := bulk_one x; simp only [Rows.uptoBulkAll, List.length_cons]; omega

/-- What reads at type t reads as e says, of some x that is good for the bound. -/
structure RdB (P : Program) (w : World) (t : TypeId) {α : Type} (e : α → List L) (good : Nat → α → Prop) : Prop where
  get : ∀ {H : Type} {enc : TypeId × Value → H} {base : Nat} {spare : Nat → Bool} {held : Bool} {n : Nat} {cs : List Value} {x : DataW H × List MemPlace} {N : Nat}, DataW.trod enc P w base spare held n t cs = some x →
    Rows.uptoBulk x.1 ≤ N → ∃ y, good N y ∧ CRd w cs (e y)
section
variable {P : Program} {w : World} {t : TypeId}
theorem rdb_int {k : IntKind} (ht : P.underlying t = some (.int k)) : RdB P w t (fun n => [.int k n]) fun _ _ => True := by
  constructor
  intro H enc base spare held n cs x N h _
  obtain ⟨m, rfl, rfl, hw⟩ := DataW.trod_int ht h
  exact ⟨m, trivial, .one (.int k m)⟩
theorem rdb_bool (ht : P.underlying t = some .bool) : RdB P w t (fun b => [.bool b]) fun _ _ => True := by
  constructor
  intro H enc base spare held n cs x N h _
  obtain ⟨b, rfl, rfl⟩ := DataW.trod_bool ht h
  exact ⟨b, trivial, .one (.bool b)⟩
theorem rdb_string (ht : P.underlying t = some .string) : RdB P w t (fun s => [.str s]) fun _ _ => True := by
  constructor
  intro H enc base spare held n cs x N h hw
  obtain ⟨s, rfl, rfl, _⟩ := DataW.trod_string ht h
  exact ⟨s, trivial, .one (.str s)⟩
theorem RdB.to {α β : Type} {e : α → List L} {e' : β → List L} {good : Nat → α → Prop} {good' : Nat → β → Prop} (h : RdB P w t e good) (f : α → β) (he : ∀ x, e' (f x) = e x) (hg : ∀ N x, good N x → good' N (f x)) : RdB P w t e' good' := by
  constructor
  intro H enc base spare held n cs x N h1 h2
  obtain ⟨y, h3, h4⟩ := h.get h1 h2
  exact ⟨f y, hg N y h3, by rw [he]; exact h4⟩

theorem rdb_slice {e : TypeId} {α : Type} {eβ : α → List L} {good : Nat → α → Prop} {sz : Nat} (ht : P.underlying t = some (.slice e)) (hsz : P.cellsOf e = sz) (hl : ∀ x, (eβ x).length = sz) (h : RdB P w e eβ good) :
    RdB P w t (fun l => [.sl sz (l.map eβ)]) fun N (l : List α) => l.length ≤ N ∧ ∀ x ∈ l, good N x := by
  constructor
  intro H enc base spare held n cs x N h1 h2
  rcases DataW.trod_slice ht h1 with ⟨rfl, rfl⟩ | ⟨a, len, cap, elems, rest, m, rfl, rfl, rfl, k1, k2, k3, k4, k5, k6, k7⟩
  · exact ⟨[], ⟨by simp, by simp⟩, .one (.slNil sz)⟩
  · rw [hsz] at k5
    simp only [Rows.uptoBulk] at h2
    have hw : ∀ d ∈ elems.map (·.1), Rows.uptoBulk d ≤ N := fun d hd => Nat.le_trans (bulk_part hd) (by omega)
    have hbw : len ≤ N := by
      have := bulk_length (elems.map (·.1))
      rw [List.length_map] at this
      omega
    obtain ⟨l, h3, h4⟩ := choose_list (R := fun i (x : α) => good N x ∧ ∃ cs, w.cells? base (a.add (i * sz)) sz = some cs ∧ CRd w cs (eβ x)) len fun i hi => by
      have k8 := k5 i hi
      have hi' : i < elems.length := by omega
      rw [List.getElem?_eq_getElem hi'] at k8
      obtain ⟨cs, h5, h6⟩ := Option.bind_eq_some_iff.1 k8
      obtain ⟨x, h7, h8⟩ := h.get h6 (hw _ (List.mem_map.2 ⟨_, List.getElem_mem hi', rfl⟩))
      exact ⟨x, h7, cs, h5, h8⟩
    refine ⟨l, ⟨by rw [h3]; exact hbw, fun x hx => ?_⟩, .one ?_⟩
    · obtain ⟨i, hi, rfl⟩ := List.mem_iff_getElem.1 hx
      exact (h4 i _ (List.getElem?_eq_getElem hi)).1
    · -- each cell
      have hcell : ∀ i j u, cellOf (l.map eβ) i j = some u → ∃ v, memOf w (a.add (i * sz + j)) = some v ∧ Rep (memOf w) v u := by
        intro i j u hu
        unfold cellOf at hu
        rw [List.getElem?_map] at hu
        cases hli : l[i]? with
        | none => rw [hli] at hu; simp at hu
        | some x =>
          rw [hli] at hu
          simp only [Option.map_some, Option.bind_some] at hu
          obtain ⟨_, cs, h5, h6, h7⟩ := h4 i x hli
          obtain ⟨v, h8, h9⟩ := h7 j u hu
          refine ⟨v, ?_, h9⟩
          have hj : j < sz := by
            have := (List.getElem?_eq_some_iff.1 hu).1
            rw [hl] at this
            exact this
          unfold World.cells? at h5
          split at h5
          · have := mapM_some_get h5 j j (by simp [hj])
            rw [h8, Addr.add_add] at this
            exact this
          · cases h5
      refine .sl a len cap sz (l.map eβ) (fun i j => (memOf w (a.add (i * sz + j))).getD default) (by simp [h3]) k2 (fun y hy => ?_) (fun i j u hu => ?_) (fun i j u hu => ?_)
      · obtain ⟨x, _, rfl⟩ := List.mem_map.1 hy
        exact hl x
      · obtain ⟨v, h5, _⟩ := hcell i j u hu
        rw [h5]; rfl
      · obtain ⟨v, h5, h6⟩ := hcell i j u hu
        rw [h5]; exact h6

structure RdFB (P : Program) (w : World) (fs : List Field) (off : Nat) {α : Type} (e : α → List L) (good : Nat → α → Prop) : Prop where
  get : ∀ {H : Type} {enc : TypeId × Value → H} {base : Nat} {spare : Nat → Bool} {held : Bool} {n : Nat} {cs : List Value} {xs : List (DataW H × List MemPlace)} {N : Nat}, xs.length = fs.length →
    (∀ (i : Nat) (f : Field), fs[i]? = some f → DataW.trod enc P w base spare held n f.type ((cs.drop f.offset).take (P.cellsOf f.type)) = xs[i]?) →
    Rows.uptoBulkAll (xs.map (·.1)) ≤ N → off + (fs.map fun f => P.cellsOf f.type).sum = cs.length → ∃ y, good N y ∧ CRd w (cs.drop off) (e y)

theorem rdFb_nil {off : Nat} : RdFB P w [] off (fun _ : Unit => []) fun _ _ => True := by
  constructor
  intro H enc base spare held n cs xs N _ _ _ hl
  refine ⟨(), trivial, ?_⟩
  have : cs.drop off = [] := List.drop_eq_nil_of_le (by simp at hl; omega)
  rw [this]
  exact ⟨rfl, fun j l hj => by simp at hj⟩
theorem rdFb_cons {f : Field} {fs : List Field} {off sz : Nat} {α β : Type} {e0 : α → List L} {e1 : β → List L} {g0 : Nat → α → Prop} {g1 : Nat → β → Prop} (hf : f.offset = off) (hsz : P.cellsOf f.type = sz) (h0 : RdB P w f.type e0 g0) (h1 : RdFB P w fs (off + sz) e1 g1) :
    RdFB P w (f :: fs) off (fun p : α × β => e0 p.1 ++ e1 p.2) fun N p => g0 N p.1 ∧ g1 N p.2 := by
  constructor
  intro H enc base spare held n cs xs N hx ht hw hl
  cases xs with
  | nil => simp at hx
  | cons x xs =>
    simp only [List.map_cons, Rows.uptoBulkAll] at hw
    have k0 := ht 0 f rfl
    simp only [List.getElem?_cons_zero] at k0
    obtain ⟨y, h2, h3⟩ := h0.get k0 (N := N) (by omega)
    obtain ⟨z, h4, h5⟩ := h1.get (cs := cs) (N := N) (by simpa using hx) (fun i f' hi => by have := ht (i + 1) f' (by simpa using hi); simpa using this) (by omega) (by simp only [List.map_cons, List.sum_cons, hsz] at hl; omega)
    refine ⟨(y, z), ⟨h2, h4⟩, ?_⟩
    have e : cs.drop off = (cs.drop f.offset).take (P.cellsOf f.type) ++ cs.drop (off + sz) := by
      rw [hf, hsz, ← List.drop_drop, List.take_append_drop]
    rw [e]
    exact h3.append h5
theorem rdb_struct {fs : Array Field} {α : Type} {e : α → List L} {good : Nat → α → Prop} (ht : P.underlying t = some (.struct fs)) (hc : P.cellsOf t = (fs.toList.map fun f => P.cellsOf f.type).sum) (h : RdFB P w fs.toList 0 e good) : RdB P w t e good := by
  constructor
  intro H enc base spare held n cs x N h1 h2
  obtain ⟨xs, m, rfl, rfl, k1, k2, k3⟩ := DataW.trod_struct ht h1
  obtain ⟨y, h3, h4⟩ := h.get (cs := cs) (by simpa using k2) (fun i f hi => k3 i f (by simpa using hi)) (N := N) (by simp only [Rows.uptoBulk] at h2; omega) (by rw [k1, hc]; simp)
  exact ⟨y, h3, by simpa using h4⟩

theorem rdb_struct3 {f0 f1 f2 : Field} {z0 z1 z2 : Nat} {α β γ : Type} {e0 : α → List L} {e1 : β → List L} {e2 : γ → List L} {g0 : Nat → α → Prop} {g1 : Nat → β → Prop} {g2 : Nat → γ → Prop} (ht : P.underlying t = some (.struct #[f0, f1, f2])) (ho : f0.offset = 0 ∧ f1.offset = 0 + z0 ∧ f2.offset = 0 + z0 + z1) (hz : P.cellsOf f0.type = z0 ∧ P.cellsOf f1.type = z1 ∧ P.cellsOf f2.type = z2) (hc : P.cellsOf t = 0 + z0 + z1 + z2) (h0 : RdB P w f0.type e0 g0) (h1 : RdB P w f1.type e1 g1) (h2 : RdB P w f2.type e2 g2) : RdB P w t (fun p : α × β × γ × Unit => e0 p.1 ++ (e1 p.2.1 ++ (e2 p.2.2.1 ++ []))) (fun N p => g0 N p.1 ∧ g1 N p.2.1 ∧ g2 N p.2.2.1 ∧ True) :=
  rdb_struct ht (by rw [hc]; simp [hz.1, hz.2.1, hz.2.2]; try omega) (rdFb_cons ho.1 hz.1 h0 (rdFb_cons ho.2.1 hz.2.1 h1 (rdFb_cons ho.2.2 hz.2.2 h2 (rdFb_nil))))
end
variable {w : World}
theorem rdb_I : RdB Try.prog w 3 (fun n => [.int .i64 n]) fun _ _ => True := rdb_int Try.underlying3
theorem rdb_S : RdB Try.prog w 9 (fun s => [.str s]) fun _ _ => True := rdb_string Try.underlying9
theorem rdb_val : RdB Try.prog w 59 eVal fun _ _ => True :=
  (rdb_struct3 Try.underlying59 ⟨rfl, rfl, rfl⟩ ⟨cells_int, cells_int, cells_string⟩ cells_Value rdb_I rdb_I rdb_S).to (fun p => ⟨p.1, p.2.1, p.2.2.1⟩) (fun _ => by simp [eVal]) fun _ _ _ => trivial
theorem rdb_col : RdB Try.prog w 38 eCol fun _ _ => True :=
  (rdb_struct3 Try.underlying38 ⟨rfl, rfl, rfl⟩ ⟨cells_string, cells_int, cells_bool⟩ cells_Column rdb_S rdb_I (rdb_bool Try.underlying4)).to (fun p => ⟨p.1, p.2.1, p.2.2.1⟩) (fun _ => by simp [eCol]) fun _ _ _ => trivial
theorem rdb_cols : RdB Try.prog w 30 (fun l => [eCols l]) fun N l => l.length ≤ N ∧ ∀ c ∈ l, True :=
  rdb_slice Try.underlying30 cells_Column (fun _ => rfl) rdb_col
theorem rdb_ints : RdB Try.prog w 31 (fun l => [eInts l]) fun N l => l.length ≤ N ∧ ∀ c ∈ l, True :=
  rdb_slice Try.underlying31 cells_int (fun _ => rfl) (eβ := eInt1) rdb_I
theorem rdb_tbl : RdB Try.prog w 33 eTbl fun N t => t.cols.length ≤ N ∧ t.pk.length ≤ N :=
  (rdb_struct3 Try.underlying33 ⟨rfl, rfl, rfl⟩ ⟨cells_string, cells_s_Column, cells_s_int⟩ cells_Table rdb_S rdb_cols rdb_ints).to (fun p => ⟨p.1, p.2.1, p.2.2.1⟩) (fun _ => by simp [eTbl]) fun _ _ h => ⟨h.2.1.1, h.2.2.1.1⟩
theorem rdb_row : RdB Try.prog w 43 (fun l => [eRow l]) fun N l => l.length ≤ N ∧ ∀ v ∈ l, True :=
  rdb_slice Try.underlying43 cells_Value (fun _ => rfl) rdb_val
theorem rdb_rows : RdB Try.prog w 41 (fun l => [eRows l]) fun N l => l.length ≤ N ∧ ∀ r ∈ l, r.length ≤ N ∧ ∀ v ∈ r, True :=
  rdb_slice Try.underlying41 cells_Row (fun _ => rfl) (eβ := eRow1) rdb_row
end Go.Bw
