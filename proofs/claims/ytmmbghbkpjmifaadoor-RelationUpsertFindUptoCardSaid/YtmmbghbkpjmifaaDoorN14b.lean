/-
  WHAT IS PROVED HERE, of this translation: CallJ.apart, insertRow_own, find_cases, noOwn_rows, relUpsert_sat, toList_inj, IsCmp.refl, IsCmp.le_trans, cmpInts_is, cmpL_is, cmpS_is, lexC_is, cmpV_is, cmpCell_shift, cmpRows_nil_nil, cmpRows_nil_cons, cmpRows_cons_nil, cmpRows_cons, cmpRows_is, bl_cons, bl_cmp, lessV_iff, lessValue_sat, rCell_sign, rCmp_sign, rCompareRows_sat, project_sat, rKeyOf_sat, sortedN_mono, sortedR_iff, .., rdb_int, rdb_bool, rdb_string, RdB.to, rdb_slice, rdFb_nil, rdFb_cons, rdb_struct, rdb_struct3, rdb_I, rdb_S, rdb_val, rdb_col, rdb_cols, rdb_ints, rdb_tbl, rdb_row, rdb_rows, rdb_intF, rdb_stringF, intOk_bounds, rdb_valF, rdb_rowF, rowFits_of, gPow, tPow, gSyn, gRng, laidW_rel.
  A theorem that ends in sat says what the function it names returns, whatever the state it is called in; the bounds on its arguments stand ahead of it.
-/
import Derived.Laws.Strings
import Derived.ChangeArms
import Derived.SizedLaws
import Derived.JoinedOf
import Derived.ChangeSame
import Derived.RowKit
import Derived.Carry
import Derived.Test.YtmmbghbkpjmifaaDoorRows
import Derived.Test.YtmmbghbkpjmifaaDoorTie
import Derived.Test.YtmmbghbkpjmifaaDoorCards
import Derived.Lib.LaidTab
import Derived.Stop.LaidErr
import Derived.Stop.Joined
import Derived.OpenShut
import Derived.LaidMore
import Derived.SevenTiedAt
import Derived.Deep.DeepHandedRow
import Derived.Lay
import Derived.WalkKit
import Derived.ProofKit
import Derived.Test.YtmmbghbkpjmifaaDoorN14a
set_option linter.unusedSimpArgs false
set_option linter.unusedVariables false

namespace Go.Bw
open Go.Proofs
attribute [local go_sem ↓] VOps_nil VOps_cons VOp_callJ VVal_callH VOps_guard GOn_tt GOn_ff GOn_tf GOn_ft GOn_not GOn_none HOn_none HOn_tt HOn_ff HOn_tf HOn_ft HOn_not VHead_nil VHead_cons VHead_guard VVal_move VVal_assign VVal_pickE pickK_true pickK_false VVal_not VVal_neg negK_int VVal_load loadK_fz loadK_ptr loadK_eptr VVal_fieldAddr VVal_field VVal_indexAddr idxK_sl idxK_ref VVal_index indexK_str VVal_extract VVal_binOp binK_one binK_agg VVal_build VVal_buildSlice VVal_makeFunc VVal_slice sliceK_str sliceK_sl sliceK_nil sliceK_ref VVal_slice3 VVal_nilCheck VVal_convert convKk_int convKk_str VVal_len VVal_max VVal_min VOp_assign assignK_int assignK_bool assignK_str assignK_clo assignK_sl assignK_nil assignK_ref assignK_agg assignK_fz assignK_ptr assignK_eptr assignK_any VOp_box VOp_alloc VOp_store storeK_ptr storeK_eptr VOp_buildSlice VOp_append appK_rr appK_rs appK_rn appK_ri appK_nr appK_ns appK_nn appK_ni appStd_eq VOp_copy copyK_ref VOp_clear clearK_ref VOp_cap VOp_eqNil VOp_move VOp_pick VOp_not VOp_neg VOp_load VOp_fieldAddr VOp_field VOp_indexAddr VOp_index VOp_extract VOp_binTmp VOp_binInt VOp_binStr VOp_build VOp_makeFunc VOp_slice VOp_nilCheck VOp_convert VOp_len VOp_max VOp_min mO_some mT_some pk_some pk_none look_cons del_cons
attribute [local go_sem] guardB gOf int_bne beq_true beq_false Bool.not_not gSlot pickK_true pickK_false negK_int loadK_fz loadK_ptr loadK_eptr idxK_sl idxK_ref indexK_str binK_one binK_agg sliceK_str sliceK_sl sliceK_nil sliceK_ref convKk_int convKk_str maxL minL assignK_int assignK_bool assignK_str assignK_clo assignK_sl assignK_nil assignK_ref assignK_agg assignK_fz assignK_ptr assignK_eptr assignK_any nilRow_eq takeRow_eq appended_eq storeK_ptr storeK_eptr store_mk appIn_eq appMk_eq marked_eq ovOut_nil ovOut_cons ovIn_nil ovIn_cons padRow_eq ysC capK_nil capK_ref ioSt_mk outB_nil outR_nil outB outR inB_nil inB_cons inR_nil inR_cons L.kl L.kl0 L.ids L.ids0 Option.getD_some evalO constA mO_some mT_some put_mk putO_some putO_none okD_some okD_none pk_some pk_none look_nil del_nil sput noBox_mk noRow_mk newBox_eq newRow0_eq St.killRow RowC.kill rowMap_mk rowOf ovAll ovAdd ovDel ovGet ovShift dstOf ysOf overlay_nil overlay_nil' overlay A.map V.map L.noPtr L.noPtr0 L.noRow L.noRow0 L.peek L.norm L.flat clos_int clos_bool clos_str clos_sl clos_nil clos_any clos_fz L.clos L.isFz L.kd moveL fieldOff eqCells eqCell eqOp oneOf boolOf intOfA tupOf vOf aggOf isPtrLike isSlice lenKind lenL nL elemTI loadV asV binL intBin intDivL shrL boolBin strBin strAdd boundN partCells fillL placesOf setL chunks repL capsOf capL callOf argsOf frzV_int frzV_bool frzV_str frzV_sl frzV_nil frzV_fz frzV_any frzV_own frzV_clo frzV_ref frzV_eptr frzV_ptr frzRow_nil frzRow_ov frzRs_nil frzRs_cons frzCs_nil frzCs_cons frzO_some frzO_none frzN_int frzN_bool frzN_str frzN_sl frzN_nil frzN_any frzN_own List.map_cons List.map_nil List.cons_append List.nil_append List.append_nil List.length_cons List.length_nil List.length_map List.length_append List.headD_cons List.tail_cons List.getElem?_cons_zero List.getElem?_cons_succ List.drop_zero List.drop_succ_cons List.drop_nil List.take_succ_cons List.take_zero List.take_nil List.take_length List.filter_cons List.filter_nil List.elem_cons List.elem_nil List.all_cons List.all_nil Option.bind_some Option.map_some Option.some.injEq bne_self_eq_false beq_self_eq_true if_true if_false Bool.false_eq_true true_and and_true and_self Nat.zero_add Nat.add_zero Nat.zero_le Int.toNat_natCast Int.toNat_zero Option.isSome_some List.getElem?_toArray decide_true decide_false ge_iff_le gt_iff_lt Bool.not_true Bool.not_false Nat.le_refl Bool.and_true Bool.true_and Bool.and_false Bool.false_and eVal eRow eRow1 eRows eInt1 eInts eCol eCols eTbl eTbls eFK eFKs eCon eCons eSch eRel eInst eChg eChgs szOf getD_map_lt wrap_nat wrap_in List.take_of_length_le frz_eVal frz_eRow1 frz_eInt1 frz_eCol frz_eTbl frz_eFK frz_eCon frz_eRel frz_eChg noOwn_nil noOwn_cons noOwn_append L.isOwn noOwn_eVal noOwn_eRow1 noOwn_eInt1 noOwn_eCol noOwn_eTbl noOwn_eFK noOwn_eCon noOwn_eRel noOwn_eChg convK_2 convK_3 convK_5 convK_12 convK_21 convK_57 convK_155 convK_162 convK_166 TT_2 TT_3 TT_4 TT_5 TT_9 TT_12 TT_13 TT_21 TT_22 TT_23 TT_24 TT_25 TT_26 TT_27 TT_28 TT_38 TT_39 TT_40 TT_41 TT_42 TT_45 TT_46 TT_47 TT_48 TT_49 TT_50 TT_51 TT_52 TT_54 TT_55 TT_56 TT_57 TT_65 TT_66 TT_82 TT_83 TT_84 TT_100 TT_101 TT_118 TT_155 TT_162 TT_166 boolTy_4 eqK_46 eqK_50 eqK_52
attribute [local congr] VOps.congr VHead.congr VOp.congr VVal.congr pk.congr assignK.congr appK.congr appStd.congr copyK.congr clearK.congr storeK.congr loadK.congr idxK.congr sliceK.congr indexK.congr binK.congr convKk.congr
theorem CallJ.apart {P : Program} {T : TypeId → Option TI} {ops : Array Oper} {l : List Oper} {K : St → Prop} {f : FuncId} {fn : Func} {s : St} {d : Option Tmp} {id lo n id' lo' n' : Nat} (t e : TypeId) (tR : TypeId) (sz : Nat) (r r' : RowC) (hf : P.funcs[f]? = some fn) (hname : (fn.name == "runtime.NumGoroutine") = false)
    (hb : fn.body.isNone = true) (hn : Extern.findNext fn = none) (he : Extern.find fn = some (Extern.SlicesOverlaps.overlaps #[t, t] #[tR])) (ht : P.underlying t = some (.slice e)) (hz : ∀ w, (sizeOf e).run P w = .ok sz w)
    (hne : id ≠ id') (hr : look s.row id = some r) (hr' : look s.row id' = some r') (hcl : ovOut r'.ov r'.xs.length) (hfit : lo' + n' ≤ r'.xs.length) (h0 : 0 < n') (hs0 : 0 < r'.sz)
    (hk : s.okD d ∧ VOps P T ops l (St.putO { s with row := sput id' ⟨r'.sz, r'.xs.take (lo' + n'), []⟩ s.row } d (.v (.one (.bool false)))) K) : CallJ P T ops d l s K (f, [.one (.ref id lo n), .one (.ref id' lo' n')]) :=
  ⟨_, CallMoves.apart hf hname hb hn he ht hz hk.1 hne hr hr' hcl hfit h0 hs0, hk.2⟩

set_option maxHeartbeats 16000000 in
theorem insertRow_own (xs : List (List L)) (q : List (List L)) (k : Nat) (hk : k ≤ xs.length) (h1 : xs.length ≤ 1099511627776) (hno : noOwn xs) :
    SatM Tryd.prog 35 [.one (.ref 1000 0 xs.length), oI k, .one (.ref 1001 0 1)] [] [(1000, ⟨1, xs, []⟩), (1001, ⟨1, [[.sl 3 q]], []⟩)] (.v (.one (.ref 6 0 (xs.length + 1)))) [] [(6, ⟨1, xs.take k ++ [[.sl 3 q]] ++ xs.drop k, []⟩)] := by
  have c1 : ((1 : Nat) : Int) = 1 := rfl
  have r3 : (xs.take k).length = k := by simp; omega
  have hnk : noOwn (xs.take k) := fun x hx => hno x (List.mem_of_mem_take hx)
  refine satM_of_body tyOk [] [6] Tryd.func35 rfl (by kernel_rfl) ⟨Nat.le_of_ble_eq_true rfl, Nat.le_of_ble_eq_true rfl⟩ fun w0 m0 F0 => ?_
  simp only [Tryd.ntmps35, envOf, Nat.reduceAdd]
  repeat' (first
    | ((first
      | with_reducible refine AWP.regionL tyOk fun K hK => ?_
      | ((with_reducible first | refine GOn.isT ?_ ?_ | refine HOn.isT ?_ ?_ | refine pickK.isT ?_ ?_); focus (first | with_reducible rfl | with_reducible assumption | (simp only [NM, LN]; first | done | with_reducible assumption | omega)))
      | ((with_reducible first | refine GOn.isF ?_ ?_ | refine HOn.isF ?_ ?_ | refine pickK.isF ?_ ?_); focus (first | with_reducible rfl | with_reducible assumption | (simp only [NM, LN]; first | done | with_reducible assumption | omega)))
      | ((with_reducible first | refine GOn.split (fun h => ?_) (fun h => ?_) | refine HOn.split (fun h => ?_) (fun h => ?_) | refine pickK.split (fun h => ?_) (fun h => ?_)) <;> (try simp only [NM] at h))) <;> simp -dsimp (disch := (first | omega | (simp only [LN]; omega))) only [go_sem, ↓reduceIte, seval, c1])
    | ((with_reducible refine hK _ ?_); clear hK K)
    | (with_reducible first | refine AWP.seq ?_ | refine thenQ_normal ?_ | refine AWP.block ?_ | refine AWP.skip ?_ | refine AWP.ret ?_ | refine thenQ_ret ?_ | refine blockQ_ret ?_ | refine AWP.exit ?_ | refine thenQ_exit ?_ | refine blockQ_normal ?_ | refine blockQ_exit ?_)
    | refine blockQ_exit_ne rfl ?_
    | (with_reducible refine And.intro (by (first | with_reducible rfl | with_reducible assumption | omega | (simp only [LN]; first | done | with_reducible rfl | omega) | (simp only [NM, LN]; first | done | with_reducible assumption | omega) | (and_intros <;> first | with_reducible assumption | omega | (simp only [LN]; omega)) | fail)) ?_)
    | ((with_reducible refine AWP.condG (T := TT) (b := ?_) ?_ ?_); rotate_left; exact rfl)
    | (with_reducible first | refine CondG.t ?_ | refine CondG.f ?_ | refine CondG.not ?_)
    | ((with_reducible refine CondG.isT ?_ ?_); focus (first | with_reducible rfl | with_reducible assumption | (simp only [NM, LN]; first | done | with_reducible assumption | omega)))
    | ((with_reducible refine CondG.isF ?_ ?_); focus (first | with_reducible rfl | with_reducible assumption | (simp only [NM, LN]; first | done | with_reducible assumption | omega)))
    | ((with_reducible refine CondG.split (fun h => ?_) (fun h => ?_)) <;> (try simp only [NM] at h)))
  · have hkk : k = xs.length := by omega
    subst hkk
    simp -dsimp (disch := (first | omega | (simp only [LN]; omega))) only [retQ, Tryd.results35, resVals, cellRV, resOf, St.rest, St.freeze, RT, go_sem, ↓reduceIte, seval]
    simp
  intro p hp
  refine hK _ ?_
  clear hK K
  have hkl : k < xs.length := by omega
  have w1 : ((k : Int) + 1).toNat = k + 1 := by omega
  rcases Nat.eq_zero_or_pos p with h0 | h0
  · subst h0
    simp only [List.replicate_zero, List.append_nil, Nat.add_zero]
    repeat' (first
      | ((first
        | with_reducible refine AWP.regionL tyOk fun K hK => ?_
        | ((with_reducible first | refine GOn.isT ?_ ?_ | refine HOn.isT ?_ ?_ | refine pickK.isT ?_ ?_); focus (first | with_reducible rfl | with_reducible assumption | (simp only [NM, LN]; first | done | with_reducible assumption | omega)))
        | ((with_reducible first | refine GOn.isF ?_ ?_ | refine HOn.isF ?_ ?_ | refine pickK.isF ?_ ?_); focus (first | with_reducible rfl | with_reducible assumption | (simp only [NM, LN]; first | done | with_reducible assumption | omega)))
        | ((with_reducible first | refine GOn.split (fun h => ?_) (fun h => ?_) | refine HOn.split (fun h => ?_) (fun h => ?_) | refine pickK.split (fun h => ?_) (fun h => ?_)) <;> (try simp only [NM] at h))) <;> simp -dsimp (disch := (first | omega | (simp only [LN]; omega))) only [go_sem, ↓reduceIte, seval, c1])
      | ((with_reducible refine hK _ ?_); clear hK K)
      | (with_reducible first | refine AWP.seq ?_ | refine thenQ_normal ?_ | refine AWP.block ?_ | refine AWP.skip ?_ | refine AWP.ret ?_ | refine thenQ_ret ?_ | refine blockQ_ret ?_ | refine AWP.exit ?_ | refine thenQ_exit ?_ | refine blockQ_normal ?_ | refine blockQ_exit ?_)
      | refine blockQ_exit_ne rfl ?_
      | (with_reducible refine And.intro (by (first | with_reducible rfl | with_reducible assumption | omega | (simp only [LN]; first | done | with_reducible rfl | omega) | (simp only [NM, LN]; first | done | with_reducible assumption | omega) | (and_intros <;> first | with_reducible assumption | omega | (simp only [LN]; omega)) | fail)) ?_)
      | ((with_reducible refine AWP.condG (T := TT) (b := ?_) ?_ ?_); rotate_left; exact rfl)
      | (with_reducible first | refine CondG.t ?_ | refine CondG.f ?_ | refine CondG.not ?_)
      | ((with_reducible refine CondG.isT ?_ ?_); focus (first | with_reducible rfl | with_reducible assumption | (simp only [NM, LN]; first | done | with_reducible assumption | omega)))
      | ((with_reducible refine CondG.isF ?_ ?_); focus (first | with_reducible rfl | with_reducible assumption | (simp only [NM, LN]; first | done | with_reducible assumption | omega)))
      | ((with_reducible refine CondG.split (fun h => ?_) (fun h => ?_)) <;> (try simp only [NM] at h)))
    have r2 : ((xs.length : Int) + 1 - (k : Int)).toNat = xs.length + 1 - k := by omega
    have r4 : k + (xs.length + 1 - k) = xs.length + 1 := by omega
    have r5 : min 1 (xs.length + 1 - k) = 1 := by omega
    have rA : (xs.take k ++ List.replicate (xs.length + 1 - k) [L.sl 3 []]).take k = xs.take k := List.take_left' r3
    have rB : (xs.take k ++ List.replicate (xs.length + 1 - k) [L.sl 3 []]).drop (k + 1) = List.replicate (xs.length - k) [L.sl 3 []] := by
      rw [List.drop_append, r3, List.drop_of_length_le (by omega), List.nil_append, List.drop_replicate]
      congr 1
      omega
    simp only [List.replicate_zero, List.append_nil, Nat.sub_zero, r2, r3, List.length_replicate, r4, r5, rA, rB]
    refine AWP.drawT tyOk mixed 8 8 (by kernel_rfl) rfl rfl fun K hK => ?_
    simp -dsimp (disch := (first | omega | (simp only [LN]; omega))) only [go_sem, ↓reduceIte, seval, c1, w1]
    repeat' (first
      | ((first
        | with_reducible refine AWP.regionL tyOk fun K hK => ?_
        | ((with_reducible first | refine GOn.isT ?_ ?_ | refine HOn.isT ?_ ?_ | refine pickK.isT ?_ ?_); focus (first | with_reducible rfl | with_reducible assumption | (simp only [NM, LN]; first | done | with_reducible assumption | omega)))
        | ((with_reducible first | refine GOn.isF ?_ ?_ | refine HOn.isF ?_ ?_ | refine pickK.isF ?_ ?_); focus (first | with_reducible rfl | with_reducible assumption | (simp only [NM, LN]; first | done | with_reducible assumption | omega)))
        | ((with_reducible first | refine GOn.split (fun h => ?_) (fun h => ?_) | refine HOn.split (fun h => ?_) (fun h => ?_) | refine pickK.split (fun h => ?_) (fun h => ?_)) <;> (try simp only [NM] at h))) <;> simp -dsimp (disch := (first | omega | (simp only [LN]; omega))) only [go_sem, ↓reduceIte, seval, c1, w1])
      | ((with_reducible refine hK _ ?_); clear hK K)
      | (with_reducible first | refine AWP.seq ?_ | refine thenQ_normal ?_ | refine AWP.block ?_ | refine AWP.skip ?_ | refine AWP.ret ?_ | refine thenQ_ret ?_ | refine blockQ_ret ?_ | refine AWP.exit ?_ | refine thenQ_exit ?_ | refine blockQ_normal ?_ | refine blockQ_exit ?_)
      | refine blockQ_exit_ne rfl ?_
      | (with_reducible refine And.intro (by (first | with_reducible rfl | with_reducible assumption | omega | (simp only [LN]; first | done | with_reducible rfl | omega) | (simp only [NM, LN]; first | done | with_reducible assumption | omega) | (and_intros <;> first | with_reducible assumption | omega | (simp only [LN]; omega)) | fail)) ?_)
      | ((with_reducible refine AWP.condG (T := TT) (b := ?_) ?_ ?_); rotate_left; exact rfl)
      | (with_reducible first | refine CondG.t ?_ | refine CondG.f ?_ | refine CondG.not ?_)
      | ((with_reducible refine CondG.isT ?_ ?_); focus (first | with_reducible rfl | with_reducible assumption | (simp only [NM, LN]; first | done | with_reducible assumption | omega)))
      | ((with_reducible refine CondG.isF ?_ ?_); focus (first | with_reducible rfl | with_reducible assumption | (simp only [NM, LN]; first | done | with_reducible assumption | omega)))
      | ((with_reducible refine CondG.split (fun h => ?_) (fun h => ?_)) <;> (try simp only [NM] at h)))
    intro K hK
    simp -dsimp (disch := (first | omega | (simp only [LN]; omega))) only [go_sem, ↓reduceIte, seval, c1, w1]
    repeat' (first
      | ((first
        | with_reducible refine AWP.regionL tyOk fun K hK => ?_
        | ((with_reducible first | refine GOn.isT ?_ ?_ | refine HOn.isT ?_ ?_ | refine pickK.isT ?_ ?_); focus (first | with_reducible rfl | with_reducible assumption | (simp only [NM, LN]; first | done | with_reducible assumption | omega)))
        | ((with_reducible first | refine GOn.isF ?_ ?_ | refine HOn.isF ?_ ?_ | refine pickK.isF ?_ ?_); focus (first | with_reducible rfl | with_reducible assumption | (simp only [NM, LN]; first | done | with_reducible assumption | omega)))
        | ((with_reducible first | refine GOn.split (fun h => ?_) (fun h => ?_) | refine HOn.split (fun h => ?_) (fun h => ?_) | refine pickK.split (fun h => ?_) (fun h => ?_)) <;> (try simp only [NM] at h))) <;> simp -dsimp (disch := (first | omega | (simp only [LN]; omega))) only [go_sem, ↓reduceIte, seval, c1, w1])
      | ((with_reducible refine hK _ ?_); clear hK K)
      | (with_reducible first | refine AWP.seq ?_ | refine thenQ_normal ?_ | refine AWP.block ?_ | refine AWP.skip ?_ | refine AWP.ret ?_ | refine thenQ_ret ?_ | refine blockQ_ret ?_ | refine AWP.exit ?_ | refine thenQ_exit ?_ | refine blockQ_normal ?_ | refine blockQ_exit ?_)
      | refine blockQ_exit_ne rfl ?_
      | (with_reducible refine And.intro (by (first | with_reducible rfl | with_reducible assumption | omega | (simp only [LN]; first | done | with_reducible rfl | omega) | (simp only [NM, LN]; first | done | with_reducible assumption | omega) | (and_intros <;> first | with_reducible assumption | omega | (simp only [LN]; omega)) | fail)) ?_)
      | ((with_reducible refine AWP.condG (T := TT) (b := ?_) ?_ ?_); rotate_left; exact rfl)
      | (with_reducible first | refine CondG.t ?_ | refine CondG.f ?_ | refine CondG.not ?_)
      | ((with_reducible refine CondG.isT ?_ ?_); focus (first | with_reducible rfl | with_reducible assumption | (simp only [NM, LN]; first | done | with_reducible assumption | omega)))
      | ((with_reducible refine CondG.isF ?_ ?_); focus (first | with_reducible rfl | with_reducible assumption | (simp only [NM, LN]; first | done | with_reducible assumption | omega)))
      | ((with_reducible refine CondG.split (fun h => ?_) (fun h => ?_)) <;> (try simp only [NM] at h)))
    have e1 : min (List.drop k xs).length (xs.length + 1 - (k + 1)) = xs.length - k := by rw [List.length_drop]; omega
    have e2 : List.take (k + 1) (List.take k xs ++ [[L.sl 3 q]] ++ List.replicate (xs.length - k) [L.sl 3 []]) = List.take k xs ++ [[L.sl 3 q]] := List.take_left' (by simp; omega)
    have e3 : List.drop (k + 1 + (xs.length - k)) (List.take k xs ++ [[L.sl 3 q]] ++ List.replicate (xs.length - k) [L.sl 3 []]) = [] := List.drop_of_length_le (by simp; omega)
    have e4 : min (List.drop k xs).length (xs.length - k) = xs.length - k := by rw [List.length_drop]; omega
    simp only [e1, e4, e2, e3, List.append_nil]
    simp -dsimp (disch := (first | omega | (simp only [LN]; omega))) only [retQ, Tryd.results35, resVals, cellRV, resOf, St.rest, St.freeze, RT, go_sem, ↓reduceIte, seval]
  repeat' (first
    | ((first
      | with_reducible refine AWP.regionL tyOk fun K hK => ?_
      | ((with_reducible first | refine GOn.isT ?_ ?_ | refine HOn.isT ?_ ?_ | refine pickK.isT ?_ ?_); focus (first | with_reducible rfl | with_reducible assumption | (simp only [NM, LN]; first | done | with_reducible assumption | omega)))
      | ((with_reducible first | refine GOn.isF ?_ ?_ | refine HOn.isF ?_ ?_ | refine pickK.isF ?_ ?_); focus (first | with_reducible rfl | with_reducible assumption | (simp only [NM, LN]; first | done | with_reducible assumption | omega)))
      | ((with_reducible first | refine GOn.split (fun h => ?_) (fun h => ?_) | refine HOn.split (fun h => ?_) (fun h => ?_) | refine pickK.split (fun h => ?_) (fun h => ?_)) <;> (try simp only [NM] at h))) <;> simp -dsimp (disch := (first | omega | (simp only [LN]; omega))) only [go_sem, ↓reduceIte, seval, c1, w1])
    | ((with_reducible refine hK _ ?_); clear hK K)
    | (with_reducible first | refine AWP.seq ?_ | refine thenQ_normal ?_ | refine AWP.block ?_ | refine AWP.skip ?_ | refine AWP.ret ?_ | refine thenQ_ret ?_ | refine blockQ_ret ?_ | refine AWP.exit ?_ | refine thenQ_exit ?_ | refine blockQ_normal ?_ | refine blockQ_exit ?_)
    | refine blockQ_exit_ne rfl ?_
    | (with_reducible refine And.intro (by (first | with_reducible rfl | with_reducible assumption | omega | (simp only [LN]; first | done | with_reducible rfl | omega) | (simp only [NM, LN]; first | done | with_reducible assumption | omega) | (and_intros <;> first | with_reducible assumption | omega | (simp only [LN]; omega)) | fail)) ?_)
    | ((with_reducible refine AWP.condG (T := TT) (b := ?_) ?_ ?_); rotate_left; exact rfl)
    | (with_reducible first | refine CondG.t ?_ | refine CondG.f ?_ | refine CondG.not ?_)
    | ((with_reducible refine CondG.isT ?_ ?_); focus (first | with_reducible rfl | with_reducible assumption | (simp only [NM, LN]; first | done | with_reducible assumption | omega)))
    | ((with_reducible refine CondG.isF ?_ ?_); focus (first | with_reducible rfl | with_reducible assumption | (simp only [NM, LN]; first | done | with_reducible assumption | omega)))
    | ((with_reducible refine CondG.split (fun h => ?_) (fun h => ?_)) <;> (try simp only [NM] at h)))
  have s1 : ((xs.length : Int) + 1).toNat = xs.length + 1 := by omega
  simp only [s1, Nat.sub_zero]
  refine CallJ.apart 26 28 4 1 _ _ Tryd.func70 (by kernel_rfl) (by kernel_rfl) (by kernel_rfl) (by kernel_rfl) Tryd.underlying26 Tryd.sizeOf28 (by decide) rfl rfl ⟨by simp, trivial⟩ (by simp; omega) (by omega) Nat.zero_lt_one ?_
  have e0 : List.take (k + 1 + (xs.length - k)) (xs ++ List.replicate p [L.any]) = xs ++ [[L.any]] := by
    rw [show k + 1 + (xs.length - k) = xs.length + 1 by omega, List.take_append, List.take_of_length_le (by omega : xs.length ≤ xs.length + 1), show xs.length + 1 - xs.length = 1 by omega, List.take_replicate, show min 1 p = 1 by omega]
    rfl
  try simp only [e0]
  simp -dsimp (disch := (first | omega | (simp only [LN]; omega))) only [go_sem, ↓reduceIte, seval, c1, w1, e0]
  repeat' (first
    | ((first
      | with_reducible refine AWP.regionL tyOk fun K hK => ?_
      | ((with_reducible first | refine GOn.isT ?_ ?_ | refine HOn.isT ?_ ?_ | refine pickK.isT ?_ ?_); focus (first | with_reducible rfl | with_reducible assumption | (simp only [NM, LN]; first | done | with_reducible assumption | omega)))
      | ((with_reducible first | refine GOn.isF ?_ ?_ | refine HOn.isF ?_ ?_ | refine pickK.isF ?_ ?_); focus (first | with_reducible rfl | with_reducible assumption | (simp only [NM, LN]; first | done | with_reducible assumption | omega)))
      | ((with_reducible first | refine GOn.split (fun h => ?_) (fun h => ?_) | refine HOn.split (fun h => ?_) (fun h => ?_) | refine pickK.split (fun h => ?_) (fun h => ?_)) <;> (try simp only [NM] at h))) <;> simp -dsimp (disch := (first | omega | (simp only [LN]; omega))) only [go_sem, ↓reduceIte, seval, c1, w1, e0])
    | ((with_reducible refine hK _ ?_); clear hK K)
    | (with_reducible first | refine AWP.seq ?_ | refine thenQ_normal ?_ | refine AWP.block ?_ | refine AWP.skip ?_ | refine AWP.ret ?_ | refine thenQ_ret ?_ | refine blockQ_ret ?_ | refine AWP.exit ?_ | refine thenQ_exit ?_ | refine blockQ_normal ?_ | refine blockQ_exit ?_)
    | refine blockQ_exit_ne rfl ?_
    | (with_reducible refine And.intro (by (first | with_reducible rfl | with_reducible assumption | omega | (simp only [LN]; first | done | with_reducible rfl | omega) | (simp only [NM, LN]; first | done | with_reducible assumption | omega) | (and_intros <;> first | with_reducible assumption | omega | (simp only [LN]; omega)) | fail)) ?_)
    | ((with_reducible refine AWP.condG (T := TT) (b := ?_) ?_ ?_); rotate_left; exact rfl)
    | (with_reducible first | refine CondG.t ?_ | refine CondG.f ?_ | refine CondG.not ?_)
    | ((with_reducible refine CondG.isT ?_ ?_); focus (first | with_reducible rfl | with_reducible assumption | (simp only [NM, LN]; first | done | with_reducible assumption | omega)))
    | ((with_reducible refine CondG.isF ?_ ?_); focus (first | with_reducible rfl | with_reducible assumption | (simp only [NM, LN]; first | done | with_reducible assumption | omega)))
    | ((with_reducible refine CondG.split (fun h => ?_) (fun h => ?_)) <;> (try simp only [NM] at h)))
  have hnx : noOwn (xs ++ [[L.any]]) := by
    intro x hx
    rcases List.mem_append.1 hx with hx | hx
    · exact hno x hx
    · simp only [List.mem_singleton] at hx
      subst hx
      intro l hl
      simp only [List.mem_singleton] at hl
      subst hl
      rfl
  refine AWP.drawT tyOk mixed 8 8 (by kernel_rfl) rfl rfl fun K hK => ?_
  simp -dsimp (disch := (first | omega | (simp only [LN]; omega))) only [go_sem, ↓reduceIte, seval, c1, w1, e0]
  repeat' (first
    | ((first
      | with_reducible refine AWP.regionL tyOk fun K hK => ?_
      | ((with_reducible first | refine GOn.isT ?_ ?_ | refine HOn.isT ?_ ?_ | refine pickK.isT ?_ ?_); focus (first | with_reducible rfl | with_reducible assumption | (simp only [NM, LN]; first | done | with_reducible assumption | omega)))
      | ((with_reducible first | refine GOn.isF ?_ ?_ | refine HOn.isF ?_ ?_ | refine pickK.isF ?_ ?_); focus (first | with_reducible rfl | with_reducible assumption | (simp only [NM, LN]; first | done | with_reducible assumption | omega)))
      | ((with_reducible first | refine GOn.split (fun h => ?_) (fun h => ?_) | refine HOn.split (fun h => ?_) (fun h => ?_) | refine pickK.split (fun h => ?_) (fun h => ?_)) <;> (try simp only [NM] at h))) <;> simp -dsimp (disch := (first | omega | (simp only [LN]; omega))) only [go_sem, ↓reduceIte, seval, c1, w1, e0])
    | ((with_reducible refine hK _ ?_); clear hK K)
    | (with_reducible first | refine AWP.seq ?_ | refine thenQ_normal ?_ | refine AWP.block ?_ | refine AWP.skip ?_ | refine AWP.ret ?_ | refine thenQ_ret ?_ | refine blockQ_ret ?_ | refine AWP.exit ?_ | refine thenQ_exit ?_ | refine blockQ_normal ?_ | refine blockQ_exit ?_)
    | refine blockQ_exit_ne rfl ?_
    | (with_reducible refine And.intro (by (first | with_reducible rfl | with_reducible assumption | omega | (simp only [LN]; first | done | with_reducible rfl | omega) | (simp only [NM, LN]; first | done | with_reducible assumption | omega) | (and_intros <;> first | with_reducible assumption | omega | (simp only [LN]; omega)) | fail)) ?_)
    | ((with_reducible refine AWP.condG (T := TT) (b := ?_) ?_ ?_); rotate_left; exact rfl)
    | (with_reducible first | refine CondG.t ?_ | refine CondG.f ?_ | refine CondG.not ?_)
    | ((with_reducible refine CondG.isT ?_ ?_); focus (first | with_reducible rfl | with_reducible assumption | (simp only [NM, LN]; first | done | with_reducible assumption | omega)))
    | ((with_reducible refine CondG.isF ?_ ?_); focus (first | with_reducible rfl | with_reducible assumption | (simp only [NM, LN]; first | done | with_reducible assumption | omega)))
    | ((with_reducible refine CondG.split (fun h => ?_) (fun h => ?_)) <;> (try simp only [NM] at h)))
  intro K hK
  simp -dsimp (disch := (first | omega | (simp only [LN]; omega))) only [go_sem, ↓reduceIte, seval, c1, w1, e0]
  repeat' (first
    | ((first
      | with_reducible refine AWP.regionL tyOk fun K hK => ?_
      | ((with_reducible first | refine GOn.isT ?_ ?_ | refine HOn.isT ?_ ?_ | refine pickK.isT ?_ ?_); focus (first | with_reducible rfl | with_reducible assumption | (simp only [NM, LN]; first | done | with_reducible assumption | omega)))
      | ((with_reducible first | refine GOn.isF ?_ ?_ | refine HOn.isF ?_ ?_ | refine pickK.isF ?_ ?_); focus (first | with_reducible rfl | with_reducible assumption | (simp only [NM, LN]; first | done | with_reducible assumption | omega)))
      | ((with_reducible first | refine GOn.split (fun h => ?_) (fun h => ?_) | refine HOn.split (fun h => ?_) (fun h => ?_) | refine pickK.split (fun h => ?_) (fun h => ?_)) <;> (try simp only [NM] at h))) <;> simp -dsimp (disch := (first | omega | (simp only [LN]; omega))) only [go_sem, ↓reduceIte, seval, c1, w1, e0])
    | ((with_reducible refine hK _ ?_); clear hK K)
    | (with_reducible first | refine AWP.seq ?_ | refine thenQ_normal ?_ | refine AWP.block ?_ | refine AWP.skip ?_ | refine AWP.ret ?_ | refine thenQ_ret ?_ | refine blockQ_ret ?_ | refine AWP.exit ?_ | refine thenQ_exit ?_ | refine blockQ_normal ?_ | refine blockQ_exit ?_)
    | refine blockQ_exit_ne rfl ?_
    | (with_reducible refine And.intro (by (first | with_reducible rfl | with_reducible assumption | omega | (simp only [LN]; first | done | with_reducible rfl | omega) | (simp only [NM, LN]; first | done | with_reducible assumption | omega) | (and_intros <;> first | with_reducible assumption | omega | (simp only [LN]; omega)) | fail)) ?_)
    | ((with_reducible refine AWP.condG (T := TT) (b := ?_) ?_ ?_); rotate_left; exact rfl)
    | (with_reducible first | refine CondG.t ?_ | refine CondG.f ?_ | refine CondG.not ?_)
    | ((with_reducible refine CondG.isT ?_ ?_); focus (first | with_reducible rfl | with_reducible assumption | (simp only [NM, LN]; first | done | with_reducible assumption | omega)))
    | ((with_reducible refine CondG.isF ?_ ?_); focus (first | with_reducible rfl | with_reducible assumption | (simp only [NM, LN]; first | done | with_reducible assumption | omega)))
    | ((with_reducible refine CondG.split (fun h => ?_) (fun h => ?_)) <;> (try simp only [NM] at h)))
  have hX : (xs ++ [[L.any]]).length = xs.length + 1 := by simp
  have d0 : List.drop k (xs ++ [[L.any]]) = List.drop k xs ++ [[L.any]] := List.drop_append_of_le_length (by omega)
  have d1 : min (List.drop k xs ++ [[L.any]]).length (xs.length + 1 - (k + 1)) = xs.length - k := by rw [List.length_append, List.length_drop]; omega
  have d2 : List.take (xs.length - k) (List.drop k xs ++ [[L.any]]) = List.drop k xs := List.take_left' (by simp)
  have d3 : List.drop (k + 1 + (xs.length - k)) (xs ++ [[L.any]]) = [] := List.drop_of_length_le (by omega)
  have d6 : (List.take (k + 1) (xs ++ [[L.any]])).length = k + 1 := by rw [List.length_take]; omega
  have d4 : List.take k (List.take (k + 1) (xs ++ [[L.any]]) ++ List.drop k xs) = List.take k xs := by
    rw [List.take_append_of_le_length (by omega), List.take_take, show min k (k + 1) = k by omega, List.take_append_of_le_length (by omega)]
  have d5 : List.drop (k + 1) (List.take (k + 1) (xs ++ [[L.any]]) ++ List.drop k xs) = List.drop k xs := List.drop_left' d6
  have d7 : min 1 (xs.length + 1 - k) = 1 := by omega
  have d8 : min (List.drop k xs ++ [[L.any]]).length (xs.length - k) = xs.length - k := by rw [List.length_append, List.length_drop]; omega
  simp only [d0, d1, d8, d2, d3, d4, d5, d7, List.append_nil]
  simp -dsimp (disch := (first | omega | (simp only [LN]; omega))) only [retQ, Tryd.results35, resVals, cellRV, resOf, St.rest, St.freeze, RT, go_sem, ↓reduceIte, seval]

/-- relation.Upsert, relation.Delete. -/
def upsertR (t : Tbl) (rows : List Row) (row : Row) : List Row :=
  if findB t rows (keyOf t.pk row) then rows.set (findI t rows (keyOf t.pk row)).toNat row else rows.take (findI t rows (keyOf t.pk row)).toNat ++ [row] ++ rows.drop (findI t rows (keyOf t.pk row)).toNat
theorem find_cases (t : Tbl) (rows : List Row) (key : Row) : (findB t rows key = false ∧ ∃ k : Nat, k ≤ rows.length ∧ findI t rows key = (k : Int)) ∨ (findB t rows key = true ∧ ∃ k : Nat, k < rows.length ∧ findI t rows key = (k : Int)) := by
  unfold findB findI findPos
  rcases idx_cases (atKey t key) rows 0 with ⟨h1, h2⟩ | ⟨j, hj, h1, h2, h3⟩
  · rw [h1]
    exact .inl ⟨rfl, rows.length, Nat.le_refl _, rfl⟩
  · rw [h1, Nat.zero_add]
    rw [if_neg (by omega), if_neg (by omega)]
    cases hb : (cmpRows (keyOf t.pk (rows.getD ((j : Nat) : Int).toNat [])) key == 0) with
    | false => exact .inl ⟨rfl, j, Nat.le_of_lt hj, rfl⟩
    | true => exact .inr ⟨rfl, j, hj, rfl⟩
theorem noOwn_rows (l : List Row) : noOwn (l.map eRow1) := by
  have := noOwn_eRow1 l
  rw [this]; trivial

set_option maxHeartbeats 16000000 in
theorem relUpsert_sat (t : Tbl) (rows : List Row) (row : Row) (h1 : t.pk.length ≤ 1099511627776) (h2 : rows.length ≤ 1099511627776) (h3 : row.length ≤ 1099511627776) (h4 : ∀ r ∈ rows, r.length ≤ 1099511627776) :
    Sat Tryd.prog 11 [.agg (eTbl t), .one (eRows rows), .one (eRow row)] (.v (.one (eRows (upsertR t rows row)))) := by
  have b1 : (keyOf t.pk row).length ≤ 140737488355328 := by rw [keyOf_length]; omega
  rcases find_cases t rows (keyOf t.pk row) with ⟨hb, k, hk, hi⟩ | ⟨hb, k, hk, hi⟩
  · have sp : upsertR t rows row = rows.take k ++ [row] ++ rows.drop k := by rw [upsertR, hb, hi]; rfl
    rw [sp]
    have hl : (rows.map eRow1).length = rows.length := by simp
    refine sat_of_body tyOk Tryd.func11 rfl (by kernel_rfl) ⟨Nat.le_of_ble_eq_true rfl, Nat.le_of_ble_eq_true rfl⟩ fun w0 m0 F0 => ?_
    simp only [Tryd.ntmps11, envOf, Nat.reduceAdd]
    repeat' (first
      | ((first
        | with_reducible refine AWP.regionL tyOk fun K hK => ?_
        | ((with_reducible first | refine GOn.isT ?_ ?_ | refine HOn.isT ?_ ?_ | refine pickK.isT ?_ ?_); focus (first | with_reducible rfl | with_reducible assumption | (simp only [NM, LN]; first | done | with_reducible assumption | omega)))
        | ((with_reducible first | refine GOn.isF ?_ ?_ | refine HOn.isF ?_ ?_ | refine pickK.isF ?_ ?_); focus (first | with_reducible rfl | with_reducible assumption | (simp only [NM, LN]; first | done | with_reducible assumption | omega)))
        | ((with_reducible first | refine GOn.split (fun h => ?_) (fun h => ?_) | refine HOn.split (fun h => ?_) (fun h => ?_) | refine pickK.split (fun h => ?_) (fun h => ?_)) <;> (try simp only [NM] at h))
        | with_reducible refine AWP.drawAll tyOk mixed 6 (by kernel_rfl) fun K hK => ?_
        | ((with_reducible refine CallJ.is ?_); refine CallJ.io [] [] [] [(2, 11)] [] [11] [] [11] (relClone_own rows h2 h4) rfl ⟨rfl, rfl, rfl, rfl⟩ ?_ ?_ ?_; (focus (simp -dsimp (disch := (first | omega | (simp only [LN]; omega))) only [go_sem, ↓reduceIte, seval, hb, hi, dropL_nil, dropL_nil', dropL_cons]; done)); (focus (simp -dsimp (disch := (first | omega | (simp only [LN]; omega))) only [go_sem, ↓reduceIte, seval, hb, hi, dropL_nil, dropL_nil', dropL_cons]; done)))
        | ((with_reducible refine CallJ.is ?_); refine CallJ.io [] [(1000, 7), (1001, 32)] [] [(6, 33)] [] [7, 32, 33] [] [7, 32, 33] (insertRow_own (rows.map eRow1) (row.map eVal) k (by omega) (by omega) (noOwn_rows rows)) rfl ⟨rfl, rfl, rfl, rfl⟩ ?_ ?_ ?_; (focus (simp -dsimp (disch := (first | omega | (simp only [LN]; omega))) only [go_sem, ↓reduceIte, seval, hb, hi, dropL_nil, dropL_nil', dropL_cons]; done)); (focus (simp -dsimp (disch := (first | omega | (simp only [LN]; omega))) only [go_sem, ↓reduceIte, seval, hb, hi, dropL_nil, dropL_nil', dropL_cons]; done)))
        | ((with_reducible refine CallJ.is ?_); (first | refine CallJ.pure (cloneRow_sat row h3) ?_ | refine CallJ.pure (key_sat t row h1) ?_ | refine CallJ.pure (find_sat t rows (keyOf t.pk row) h1 (by omega) b1) ?_ | ((apply CallJ.lentI); (focus (simp -dsimp (disch := (first | omega | (simp only [LN]; omega))) only [go_sem, ↓reduceIte, seval, hb, hi, dropL_nil, dropL_nil', dropL_cons]; rfl)); (focus (first | exact (cloneRow_sat row h3) | exact (key_sat t row h1) | exact (find_sat t rows (keyOf t.pk row) h1 (by omega) b1))))))
        | ((with_reducible refine CallH.is ?_); (first | refine CallH.intro (cloneRow_sat row h3) ?_ | refine CallH.intro (key_sat t row h1) ?_ | refine CallH.intro (find_sat t rows (keyOf t.pk row) h1 (by omega) b1) ?_ | ((first | refine CallH.lent (cloneRow_sat row h3) ?_ ?_; focus (simp -dsimp (disch := (first | omega | (simp only [LN]; omega))) only [go_sem, ↓reduceIte, seval, hb, hi, dropL_nil, dropL_nil', dropL_cons]; done) | refine CallH.lent (key_sat t row h1) ?_ ?_; focus (simp -dsimp (disch := (first | omega | (simp only [LN]; omega))) only [go_sem, ↓reduceIte, seval, hb, hi, dropL_nil, dropL_nil', dropL_cons]; done) | refine CallH.lent (find_sat t rows (keyOf t.pk row) h1 (by omega) b1) ?_ ?_; focus (simp -dsimp (disch := (first | omega | (simp only [LN]; omega))) only [go_sem, ↓reduceIte, seval, hb, hi, dropL_nil, dropL_nil', dropL_cons]; done)))))) <;> simp -dsimp (disch := (first | omega | (simp only [LN]; omega))) only [go_sem, ↓reduceIte, seval, hb, hi, dropL_nil, dropL_nil', dropL_cons])
      | ((with_reducible refine hK _ ?_); clear hK K)
      | (with_reducible first | refine AWP.seq ?_ | refine thenQ_normal ?_ | refine AWP.block ?_ | refine AWP.skip ?_ | refine AWP.ret ?_ | refine thenQ_ret ?_ | refine blockQ_ret ?_ | refine AWP.exit ?_ | refine thenQ_exit ?_ | refine blockQ_normal ?_ | refine blockQ_exit ?_)
      | refine blockQ_exit_ne rfl ?_
      | (with_reducible refine And.intro (by (first | with_reducible rfl | with_reducible assumption | omega | (simp only [LN]; first | done | with_reducible rfl | omega) | (simp only [NM, LN]; first | done | with_reducible assumption | omega) | (and_intros <;> first | with_reducible assumption | omega | (simp only [LN]; omega)) | fail)) ?_)
      | ((with_reducible refine AWP.condG (T := TT) (b := ?_) ?_ ?_); rotate_left; exact rfl)
      | (with_reducible first | refine CondG.t ?_ | refine CondG.f ?_ | refine CondG.not ?_)
      | ((with_reducible refine CondG.isT ?_ ?_); focus (first | with_reducible rfl | with_reducible assumption | (simp only [NM, LN]; first | done | with_reducible assumption | omega)))
      | ((with_reducible refine CondG.isF ?_ ?_); focus (first | with_reducible rfl | with_reducible assumption | (simp only [NM, LN]; first | done | with_reducible assumption | omega)))
      | ((with_reducible refine CondG.split (fun h => ?_) (fun h => ?_)) <;> (try simp only [NM] at h)))
    have ex : List.take k (rows.map eRow1) ++ [[L.sl 3 (row.map eVal)]] ++ List.drop k (rows.map eRow1) = (rows.take k ++ [row] ++ rows.drop k).map eRow1 := by simp [List.map_take, List.map_drop, eRow1, eRow]
    have el : (rows.take k ++ [row] ++ rows.drop k).length = rows.length + 1 := by simp; omega
    simp only [ex]
    simp -dsimp (disch := (first | omega | (simp only [LN]; omega))) only [retQ, Tryd.results11, resVals, cellRV, resOf, St.rest, St.freeze, RT, go_sem, ↓reduceIte, seval]
    have el2 : (rows.take k).length + 1 + (rows.drop k).length = rows.length + 1 := by simp; omega
    rw [if_pos (by omega)]
  · have sp : upsertR t rows row = rows.set k row := by rw [upsertR, hb, hi]; rfl
    rw [sp]
    refine sat_of_body tyOk Tryd.func11 rfl (by kernel_rfl) ⟨Nat.le_of_ble_eq_true rfl, Nat.le_of_ble_eq_true rfl⟩ fun w0 m0 F0 => ?_
    simp only [Tryd.ntmps11, envOf, Nat.reduceAdd]
    repeat' (first
      | ((first
        | with_reducible refine AWP.regionL tyOk fun K hK => ?_
        | ((with_reducible first | refine GOn.isT ?_ ?_ | refine HOn.isT ?_ ?_ | refine pickK.isT ?_ ?_); focus (first | with_reducible rfl | with_reducible assumption | (simp only [NM, LN]; first | done | with_reducible assumption | omega)))
        | ((with_reducible first | refine GOn.isF ?_ ?_ | refine HOn.isF ?_ ?_ | refine pickK.isF ?_ ?_); focus (first | with_reducible rfl | with_reducible assumption | (simp only [NM, LN]; first | done | with_reducible assumption | omega)))
        | ((with_reducible first | refine GOn.split (fun h => ?_) (fun h => ?_) | refine HOn.split (fun h => ?_) (fun h => ?_) | refine pickK.split (fun h => ?_) (fun h => ?_)) <;> (try simp only [NM] at h))
        | with_reducible refine AWP.drawAll tyOk mixed 6 (by kernel_rfl) fun K hK => ?_
        | ((with_reducible refine CallJ.is ?_); refine CallJ.io [] [] [] [(2, 11)] [] [11] [] [11] (relClone_own rows h2 h4) rfl ⟨rfl, rfl, rfl, rfl⟩ ?_ ?_ ?_; (focus (simp -dsimp (disch := (first | omega | (simp only [LN]; omega))) only [go_sem, ↓reduceIte, seval, hb, hi, dropL_nil, dropL_nil', dropL_cons]; done)); (focus (simp -dsimp (disch := (first | omega | (simp only [LN]; omega))) only [go_sem, ↓reduceIte, seval, hb, hi, dropL_nil, dropL_nil', dropL_cons]; done)))
        | ((with_reducible refine CallJ.is ?_); (first | refine CallJ.pure (cloneRow_sat row h3) ?_ | refine CallJ.pure (key_sat t row h1) ?_ | refine CallJ.pure (find_sat t rows (keyOf t.pk row) h1 (by omega) b1) ?_ | ((apply CallJ.lentI); (focus (simp -dsimp (disch := (first | omega | (simp only [LN]; omega))) only [go_sem, ↓reduceIte, seval, hb, hi, dropL_nil, dropL_nil', dropL_cons]; rfl)); (focus (first | exact (cloneRow_sat row h3) | exact (key_sat t row h1) | exact (find_sat t rows (keyOf t.pk row) h1 (by omega) b1))))))
        | ((with_reducible refine CallH.is ?_); (first | refine CallH.intro (cloneRow_sat row h3) ?_ | refine CallH.intro (key_sat t row h1) ?_ | refine CallH.intro (find_sat t rows (keyOf t.pk row) h1 (by omega) b1) ?_ | ((first | refine CallH.lent (cloneRow_sat row h3) ?_ ?_; focus (simp -dsimp (disch := (first | omega | (simp only [LN]; omega))) only [go_sem, ↓reduceIte, seval, hb, hi, dropL_nil, dropL_nil', dropL_cons]; done) | refine CallH.lent (key_sat t row h1) ?_ ?_; focus (simp -dsimp (disch := (first | omega | (simp only [LN]; omega))) only [go_sem, ↓reduceIte, seval, hb, hi, dropL_nil, dropL_nil', dropL_cons]; done) | refine CallH.lent (find_sat t rows (keyOf t.pk row) h1 (by omega) b1) ?_ ?_; focus (simp -dsimp (disch := (first | omega | (simp only [LN]; omega))) only [go_sem, ↓reduceIte, seval, hb, hi, dropL_nil, dropL_nil', dropL_cons]; done)))))) <;> simp -dsimp (disch := (first | omega | (simp only [LN]; omega))) only [go_sem, ↓reduceIte, seval, hb, hi, dropL_nil, dropL_nil', dropL_cons])
      | ((with_reducible refine hK _ ?_); clear hK K)
      | (with_reducible first | refine AWP.seq ?_ | refine thenQ_normal ?_ | refine AWP.block ?_ | refine AWP.skip ?_ | refine AWP.ret ?_ | refine thenQ_ret ?_ | refine blockQ_ret ?_ | refine AWP.exit ?_ | refine thenQ_exit ?_ | refine blockQ_normal ?_ | refine blockQ_exit ?_)
      | refine blockQ_exit_ne rfl ?_
      | (with_reducible refine And.intro (by (first | with_reducible rfl | with_reducible assumption | omega | (simp only [LN]; first | done | with_reducible rfl | omega) | (simp only [NM, LN]; first | done | with_reducible assumption | omega) | (and_intros <;> first | with_reducible assumption | omega | (simp only [LN]; omega)) | fail)) ?_)
      | ((with_reducible refine AWP.condG (T := TT) (b := ?_) ?_ ?_); rotate_left; exact rfl)
      | (with_reducible first | refine CondG.t ?_ | refine CondG.f ?_ | refine CondG.not ?_)
      | ((with_reducible refine CondG.isT ?_ ?_); focus (first | with_reducible rfl | with_reducible assumption | (simp only [NM, LN]; first | done | with_reducible assumption | omega)))
      | ((with_reducible refine CondG.isF ?_ ?_); focus (first | with_reducible rfl | with_reducible assumption | (simp only [NM, LN]; first | done | with_reducible assumption | omega)))
      | ((with_reducible refine CondG.split (fun h => ?_) (fun h => ?_)) <;> (try simp only [NM] at h)))
    have ex : (rows.map eRow1).set k [L.sl 3 (row.map eVal)] = (rows.set k row).map eRow1 := by simp [List.map_set, eRow1, eRow]
    have el : (rows.set k row).length = rows.length := by simp
    simp only [ex]
    simp -dsimp (disch := (first | omega | (simp only [LN]; omega))) only [retQ, Tryd.results11, resVals, cellRV, resOf, St.rest, St.freeze, RT, go_sem, ↓reduceIte, seval]
    rw [if_pos (by omega)]
end Go.Bw

namespace Go.Bw
open Go.Proofs
theorem toList_inj {a b : ByteArray} (h : a.toList = b.toList) : a = b := by
  rw [ByteArray.toList_eq, ByteArray.toList_eq] at h
  cases a; cases b
  simp only at h
  congr 1
  exact Array.ext' h
/-- A comparison: zero says one and the same; turned round it is the negative; it is transitive. -/
structure IsCmp {α : Type} (c : α → α → Int) : Prop where
  eq0 : ∀ a b, c a b = 0 ↔ a = b
  anti : ∀ a b, c a b = -(c b a)
  trans : ∀ x y z, c x y < 0 → c y z < 0 → c x z < 0
theorem IsCmp.refl {α : Type} {c : α → α → Int} (h : IsCmp c) (a : α) : c a a = 0 := (h.eq0 a a).2 rfl
theorem IsCmp.le_trans {α : Type} {c : α → α → Int} (h : IsCmp c) {x y z : α} (h1 : c x y ≤ 0) (h2 : c y z ≤ 0) : c x z ≤ 0 := by
  rcases Int.lt_or_eq_of_le h1 with h1 | h1
  · rcases Int.lt_or_eq_of_le h2 with h2 | h2
    · exact Int.le_of_lt (h.trans _ _ _ h1 h2)
    · rw [← (h.eq0 _ _).1 h2]; omega
  · rw [(h.eq0 _ _).1 h1]; exact h2
theorem cmpInts_is : IsCmp cmpInts := by
  refine ⟨fun a b => ?_, fun a b => ?_, fun x y z => ?_⟩ <;> unfold cmpInts <;> (repeat' split) <;> omega
theorem cmpL_is : IsCmp Lib.compareBytes := by
  refine ⟨fun a => ?_, fun a => ?_, fun a => ?_⟩
  · induction a with
    | nil => intro b; cases b <;> simp [Lib.compareBytes]
    | cons x a ih =>
      intro b
      cases b with
      | nil => simp [Lib.compareBytes]
      | cons y b =>
        simp only [Lib.compareBytes, List.cons.injEq]
        have := ih b
        have hxy : x = y ↔ x.toNat = y.toNat := ⟨fun h => by rw [h], fun h => UInt8.toNat_inj.1 h⟩
        simp only [UInt8.lt_iff_toNat_lt] at *
        (repeat' split) <;> simp_all <;> omega
  · induction a with
    | nil => intro b; cases b <;> simp [Lib.compareBytes]
    | cons x a ih =>
      intro b
      cases b with
      | nil => simp [Lib.compareBytes]
      | cons y b =>
        simp only [Lib.compareBytes]
        have := ih b
        simp only [UInt8.lt_iff_toNat_lt] at *
        (repeat' split) <;> simp_all <;> omega
  · induction a with
    | nil =>
      intro y z h1 h2
      cases y <;> cases z <;> simp_all [Lib.compareBytes]
    | cons x a ih =>
      intro b c h1 h2
      cases b with
      | nil => simp [Lib.compareBytes] at h1
      | cons y b =>
        cases c with
        | nil => simp [Lib.compareBytes] at h2
        | cons z c =>
          simp only [Lib.compareBytes] at *
          have := ih b c
          simp only [UInt8.lt_iff_toNat_lt] at *
          (repeat' split) <;> (repeat' split at h1) <;> (repeat' split at h2) <;> simp_all <;> omega
theorem cmpS_is : IsCmp cmpS := by
  refine ⟨fun a b => ?_, fun a b => cmpL_is.anti _ _, fun x y z => cmpL_is.trans _ _ _⟩
  unfold cmpS
  rw [cmpL_is.eq0]
  exact ⟨fun h => toList_inj (by rw [ByteArray.toList_eq, ByteArray.toList_eq]; exact h), fun h => by rw [h]⟩
/-- First one, then the other. -/
def lexC {α β γ : Type} (f : γ → α) (g : γ → β) (c : α → α → Int) (d : β → β → Int) (x y : γ) : Int := if c (f x) (f y) ≠ 0 then c (f x) (f y) else d (g x) (g y)
theorem lexC_is {α β γ : Type} {f : γ → α} {g : γ → β} {c : α → α → Int} {d : β → β → Int} (hc : IsCmp c) (hd : IsCmp d) (hi : ∀ x y, f x = f y → g x = g y → x = y) : IsCmp (lexC f g c d) := by
  refine ⟨fun a b => ?_, fun a b => ?_, fun x y z h1 h2 => ?_⟩
  · unfold lexC
    have h1 := hc.eq0 (f a) (f b)
    have h2 := hd.eq0 (g a) (g b)
    split
    · rename_i h
      exact ⟨fun e => absurd e h, fun e => by rw [e] at h; exact absurd (hc.refl _) h⟩
    · rename_i h
      have h : c (f a) (f b) = 0 := by simpa using h
      rw [h2]
      exact ⟨fun e => hi a b (h1.1 h) e, fun e => by rw [e]⟩
  · unfold lexC
    have h1 := hc.anti (f a) (f b)
    have h2 := hd.anti (g a) (g b)
    split <;> split <;> omega
  · unfold lexC at *
    by_cases e1 : c (f x) (f y) = 0
    · have e1' := (hc.eq0 _ _).1 e1
      rw [if_neg (by simp [e1])] at h1
      rw [e1']
      by_cases e2 : c (f y) (f z) = 0
      · rw [if_neg (by simp [e2])] at h2 ⊢
        exact hd.trans _ _ _ h1 h2
      · rw [if_pos e2] at h2 ⊢
        exact h2
    · rw [if_pos e1] at h1
      by_cases e2 : c (f y) (f z) = 0
      · rw [← (hc.eq0 _ _).1 e2, if_pos e1]
        exact h1
      · rw [if_pos e2] at h2
        have h3 := hc.trans _ _ _ h1 h2
        rw [if_pos (by omega)]
        exact h3
theorem cmpV_is : IsCmp cmpV := by
  have h1 : IsCmp (lexC (γ := Val) Val.kind (fun v => (v.int, v.text)) cmpInts (lexC Prod.fst Prod.snd cmpInts cmpS)) :=
    lexC_is cmpInts_is (lexC_is cmpInts_is cmpS_is fun x y h1 h2 => Prod.ext h1 h2) fun x y h1 h2 => by
      cases x; cases y
      simp only [Prod.mk.injEq] at h1 h2
      simp [h1, h2.1, h2.2]
  exact h1

theorem cmpCell_shift (y : Val) (b : Row) : ∀ (a : Row) (k : Nat), scan (cmpCell (y :: b)) a (k + 1) = scan (cmpCell b) a k
  | [], _ => rfl
  | x :: a, k => by
    have e : cmpCell (y :: b) (k + 1) x = cmpCell b k x := by
      unfold cmpCell
      simp
    rw [scan, scan, e, cmpCell_shift y b a (k + 1)]
theorem cmpRows_nil_nil : cmpRows [] [] = 0 := rfl
theorem cmpRows_nil_cons (y : Val) (b : Row) : cmpRows [] (y :: b) = -1 := by
  unfold cmpRows
  simp only [scan, cmpInts, List.length_nil, List.length_cons]
  rw [if_pos (by omega)]
theorem cmpRows_cons_nil (x : Val) (a : Row) : cmpRows (x :: a) [] = 1 := by
  have h : scan (cmpCell []) (x :: a) 0 = none := scan_all_none fun j y _ => by simp [cmpCell]
  unfold cmpRows
  rw [h]
  simp only [cmpInts, List.length_nil, List.length_cons]
  rw [if_neg (by omega), if_pos (by omega)]
theorem cmpRows_cons (x y : Val) (a b : Row) : cmpRows (x :: a) (y :: b) = if cmpV x y ≠ 0 then cmpV x y else cmpRows a b := by
  unfold cmpRows
  rw [scan, show cmpCell (y :: b) 0 x = if cmpV x y ≠ 0 then some (cmpV x y) else none by simp [cmpCell]]
  by_cases h : cmpV x y = 0
  · rw [if_neg (by simp [h]), if_neg (by simp [h])]
    simp only
    rw [cmpCell_shift y b a 0]
    cases scan (cmpCell b) a 0 with
    | some e => rfl
    | none =>
      simp only [cmpInts, List.length_cons]
      (repeat' split) <;> omega
  · rw [if_pos h, if_pos h]
theorem cmpRows_is : IsCmp cmpRows := by
  refine ⟨fun a => ?_, fun a => ?_, fun a => ?_⟩
  · induction a with
    | nil => intro b; cases b with
      | nil => simp [cmpRows_nil_nil]
      | cons y b => simp [cmpRows_nil_cons]
    | cons x a ih => intro b; cases b with
      | nil => simp [cmpRows_cons_nil]
      | cons y b =>
        rw [cmpRows_cons]
        have h1 := cmpV_is.eq0 x y
        have h2 := ih b
        split
        · rename_i h; simp [h]; intro e; exact absurd (h1.2 e) h
        · rename_i h
          have h : cmpV x y = 0 := by simpa using h
          rw [h2]; simp [h1.1 h]
  · induction a with
    | nil => intro b; cases b with
      | nil => rfl
      | cons y b => rw [cmpRows_nil_cons, cmpRows_cons_nil]
    | cons x a ih => intro b; cases b with
      | nil => rw [cmpRows_nil_cons, cmpRows_cons_nil]; rfl
      | cons y b =>
        rw [cmpRows_cons, cmpRows_cons]
        have h1 := cmpV_is.anti x y
        have h2 := ih b
        split <;> split <;> omega
  · induction a with
    | nil => intro b c h1 h2; cases b with
      | nil => rw [cmpRows_nil_nil] at h1; omega
      | cons y b => cases c with
        | nil => rw [cmpRows_cons_nil] at h2; omega
        | cons z c => rw [cmpRows_nil_cons]; omega
    | cons x a ih => intro b c h1 h2; cases b with
      | nil => rw [cmpRows_cons_nil] at h1; omega
      | cons y b => cases c with
        | nil => rw [cmpRows_cons_nil] at h2; omega
        | cons z c =>
          rw [cmpRows_cons] at h1 h2 ⊢
          by_cases e1 : cmpV x y = 0
          · rw [if_neg (by simp [e1])] at h1
            rw [(cmpV_is.eq0 _ _).1 e1]
            by_cases e2 : cmpV y z = 0
            · rw [if_neg (by simp [e2])] at h2 ⊢
              exact ih b c h1 h2
            · rw [if_pos e2] at h2 ⊢; exact h2
          · rw [if_pos e1] at h1
            by_cases e2 : cmpV y z = 0
            · rw [← (cmpV_is.eq0 _ _).1 e2, if_pos e1]; exact h1
            · rw [if_pos e2] at h2
              have h3 := cmpV_is.trans _ _ _ h1 h2
              rw [if_pos (by omega)]; exact h3

theorem bl_cons (x y : UInt8) (a b : List UInt8) : Op.bytesLess (x :: a) (y :: b) = true ↔ x.toNat < y.toNat ∨ (x = y ∧ Op.bytesLess a b = true) := by
  simp [Op.bytesLess, UInt8.lt_iff_toNat_lt]
end Go.Bw

namespace Go.Bw
open Go.Proofs
attribute [local go_sem ↓] VOps_nil VOps_cons VOp_callJ VVal_callH VOps_guard GOn_tt GOn_ff GOn_tf GOn_ft GOn_not GOn_none HOn_none HOn_tt HOn_ff HOn_tf HOn_ft HOn_not VHead_nil VHead_cons VHead_guard VVal_move VVal_assign VVal_pickE pickK_true pickK_false VVal_not VVal_neg negK_int VVal_load loadK_fz loadK_ptr loadK_eptr VVal_fieldAddr VVal_field VVal_indexAddr idxK_sl idxK_ref VVal_index indexK_str VVal_extract VVal_binOp binK_one binK_agg VVal_build VVal_buildSlice VVal_makeFunc VVal_slice sliceK_str sliceK_sl sliceK_nil sliceK_ref VVal_slice3 VVal_nilCheck VVal_convert convKk_int convKk_str VVal_len VVal_max VVal_min VOp_assign assignK_int assignK_bool assignK_str assignK_clo assignK_sl assignK_nil assignK_ref assignK_agg assignK_fz assignK_ptr assignK_eptr assignK_any VOp_box VOp_alloc VOp_store storeK_ptr storeK_eptr VOp_buildSlice VOp_append appK_rr appK_rs appK_rn appK_ri appK_nr appK_ns appK_nn appK_ni appStd_eq VOp_copy copyK_ref VOp_clear clearK_ref VOp_cap VOp_eqNil VOp_move VOp_pick VOp_not VOp_neg VOp_load VOp_fieldAddr VOp_field VOp_indexAddr VOp_index VOp_extract VOp_binTmp VOp_binInt VOp_binStr VOp_build VOp_makeFunc VOp_slice VOp_nilCheck VOp_convert VOp_len VOp_max VOp_min mO_some mT_some pk_some pk_none look_cons del_cons
attribute [local go_sem] guardB gOf int_bne beq_true beq_false Bool.not_not gSlot pickK_true pickK_false negK_int loadK_fz loadK_ptr loadK_eptr idxK_sl idxK_ref indexK_str binK_one binK_agg sliceK_str sliceK_sl sliceK_nil sliceK_ref convKk_int convKk_str maxL minL assignK_int assignK_bool assignK_str assignK_clo assignK_sl assignK_nil assignK_ref assignK_agg assignK_fz assignK_ptr assignK_eptr assignK_any nilRow_eq takeRow_eq appended_eq storeK_ptr storeK_eptr store_mk appIn_eq appMk_eq marked_eq ovOut_nil ovOut_cons ovIn_nil ovIn_cons padRow_eq ysC capK_nil capK_ref ioSt_mk outB_nil outR_nil outB outR inB_nil inB_cons inR_nil inR_cons L.kl L.kl0 L.ids L.ids0 Option.getD_some evalO constA mO_some mT_some put_mk putO_some putO_none okD_some okD_none pk_some pk_none look_nil del_nil sput noBox_mk noRow_mk newBox_eq newRow0_eq St.killRow RowC.kill rowMap_mk rowOf ovAll ovAdd ovDel ovGet ovShift dstOf ysOf overlay_nil overlay_nil' overlay A.map V.map L.noPtr L.noPtr0 L.noRow L.noRow0 L.peek L.norm L.flat clos_int clos_bool clos_str clos_sl clos_nil clos_any clos_fz L.clos L.isFz L.kd moveL fieldOff eqCells eqCell eqOp oneOf boolOf intOfA tupOf vOf aggOf isPtrLike isSlice lenKind lenL nL elemTI loadV asV binL intBin intDivL shrL boolBin strBin strAdd boundN partCells fillL placesOf setL chunks repL capsOf capL callOf argsOf frzV_int frzV_bool frzV_str frzV_sl frzV_nil frzV_fz frzV_any frzV_own frzV_clo frzV_ref frzV_eptr frzV_ptr frzRow_nil frzRow_ov frzRs_nil frzRs_cons frzCs_nil frzCs_cons frzO_some frzO_none frzN_int frzN_bool frzN_str frzN_sl frzN_nil frzN_any frzN_own List.map_cons List.map_nil List.cons_append List.nil_append List.append_nil List.length_cons List.length_nil List.length_map List.length_append List.headD_cons List.tail_cons List.getElem?_cons_zero List.getElem?_cons_succ List.drop_zero List.drop_succ_cons List.drop_nil List.take_succ_cons List.take_zero List.take_nil List.take_length List.filter_cons List.filter_nil List.elem_cons List.elem_nil List.all_cons List.all_nil Option.bind_some Option.map_some Option.some.injEq bne_self_eq_false beq_self_eq_true if_true if_false Bool.false_eq_true true_and and_true and_self Nat.zero_add Nat.add_zero Nat.zero_le Int.toNat_natCast Int.toNat_zero Option.isSome_some List.getElem?_toArray decide_true decide_false ge_iff_le gt_iff_lt Bool.not_true Bool.not_false Nat.le_refl Bool.and_true Bool.true_and Bool.and_false Bool.false_and eVal eRow eRow1 eRows eInt1 eInts eCol eCols eTbl eTbls eFK eFKs eCon eCons eSch eRel eInst eChg eChgs szOf getD_map_lt wrap_nat wrap_in List.take_of_length_le frz_eVal frz_eRow1 frz_eInt1 frz_eCol frz_eTbl frz_eFK frz_eCon frz_eRel frz_eChg noOwn_nil noOwn_cons noOwn_append L.isOwn noOwn_eVal noOwn_eRow1 noOwn_eInt1 noOwn_eCol noOwn_eTbl noOwn_eFK noOwn_eCon noOwn_eRel noOwn_eChg convK_2 convK_3 convK_5 convK_12 convK_21 convK_57 convK_155 convK_162 convK_166 TT_2 TT_3 TT_4 TT_5 TT_9 TT_12 TT_13 TT_21 TT_22 TT_23 TT_24 TT_25 TT_26 TT_27 TT_28 TT_38 TT_39 TT_40 TT_41 TT_42 TT_45 TT_46 TT_47 TT_48 TT_49 TT_50 TT_51 TT_52 TT_54 TT_55 TT_56 TT_57 TT_65 TT_66 TT_82 TT_83 TT_84 TT_100 TT_101 TT_118 TT_155 TT_162 TT_166 boolTy_4 eqK_46 eqK_50 eqK_52
attribute [local congr] VOps.congr VHead.congr VOp.congr VVal.congr pk.congr assignK.congr appK.congr appStd.congr copyK.congr clearK.congr storeK.congr loadK.congr idxK.congr sliceK.congr indexK.congr binK.congr convKk.congr
/-- The reference's order. -/
def lessV (a b : Val) : Bool := if a.kind ≠ b.kind then decide (a.kind < b.kind) else if a.int ≠ b.int then decide (a.int < b.int) else Op.bytesLess a.text.toList b.text.toList
theorem bl_cmp : ∀ a b : List UInt8, Op.bytesLess a b = decide (Lib.compareBytes a b < 0)
  | [], [] => rfl
  | [], _ :: _ => by simp [Op.bytesLess, Lib.compareBytes]
  | _ :: _, [] => by simp [Op.bytesLess, Lib.compareBytes]
  | x :: a, y :: b => by
    have h := bl_cons x y a b
    have ih := bl_cmp a b
    rw [Bool.eq_iff_iff, h, ih]
    have hxy : x = y ↔ x.toNat = y.toNat := ⟨fun h => by rw [h], fun h => UInt8.toNat_inj.1 h⟩
    simp only [Lib.compareBytes, UInt8.lt_iff_toNat_lt, hxy, decide_eq_true_eq]
    (repeat' split) <;> omega
theorem lessV_iff (a b : Val) : lessV a b = decide (cmpV a b < 0) := by
  unfold lessV cmpV
  rw [bl_cmp, ByteArray.toList_eq, ByteArray.toList_eq]
  have h1 : cmpInts a.kind b.kind = 0 ↔ a.kind = b.kind := cmpInts_is.eq0 _ _
  have h2 : cmpInts a.int b.int = 0 ↔ a.int = b.int := cmpInts_is.eq0 _ _
  have k1 : cmpInts a.kind b.kind < 0 ↔ a.kind < b.kind := by unfold cmpInts; (repeat' split) <;> omega
  have k2 : cmpInts a.int b.int < 0 ↔ a.int < b.int := by unfold cmpInts; (repeat' split) <;> omega
  by_cases e1 : a.kind = b.kind
  · rw [if_neg (show ¬ (a.kind ≠ b.kind) from fun h => h e1), if_neg (show ¬ (cmpInts a.kind b.kind ≠ 0) from fun h => h (h1.2 e1))]
    by_cases e2 : a.int = b.int
    · rw [if_neg (show ¬ (a.int ≠ b.int) from fun h => h e2), if_neg (show ¬ (cmpInts a.int b.int ≠ 0) from fun h => h (h2.2 e2))]; rfl
    · rw [if_pos (show a.int ≠ b.int from e2), if_pos (show cmpInts a.int b.int ≠ 0 from fun h => e2 (h2.1 h))]; simp [k2]
  · rw [if_pos (show a.kind ≠ b.kind from e1), if_pos (show cmpInts a.kind b.kind ≠ 0 from fun h => e1 (h1.1 h))]; simp [k1]

set_option maxHeartbeats 8000000 in
theorem lessValue_sat (a b : Val) : Sat Tryd.prog 69 [.agg (eVal a), .agg (eVal b)] (.v (oB (lessV a b))) := by
  refine sat_of_body tyOk Tryd.func69 rfl (by kernel_rfl) ⟨Nat.le_of_ble_eq_true rfl, Nat.le_of_ble_eq_true rfl⟩ fun w0 m0 F0 => ?_
  simp only [Tryd.ntmps69, envOf, Nat.reduceAdd]
  repeat' (first
    | ((first
      | with_reducible refine AWP.regionL tyOk fun K hK => ?_
      | ((with_reducible first | refine GOn.isT ?_ ?_ | refine HOn.isT ?_ ?_ | refine pickK.isT ?_ ?_); focus (first | with_reducible rfl | with_reducible assumption | (simp only [NM, LN]; first | done | with_reducible assumption | omega)))
      | ((with_reducible first | refine GOn.isF ?_ ?_ | refine HOn.isF ?_ ?_ | refine pickK.isF ?_ ?_); focus (first | with_reducible rfl | with_reducible assumption | (simp only [NM, LN]; first | done | with_reducible assumption | omega)))
      | ((with_reducible first | refine GOn.split (fun h => ?_) (fun h => ?_) | refine HOn.split (fun h => ?_) (fun h => ?_) | refine pickK.split (fun h => ?_) (fun h => ?_)) <;> (try simp only [NM] at h))
      | with_reducible refine AWP.drawAll tyOk mixed 6 (by kernel_rfl) fun K hK => ?_) <;> simp -dsimp (disch := (first | omega | (simp only [LN]; omega))) only [go_sem, ↓reduceIte, seval])
    | ((with_reducible refine hK _ ?_); clear hK K)
    | (with_reducible first | refine AWP.seq ?_ | refine thenQ_normal ?_ | refine AWP.block ?_ | refine AWP.skip ?_ | refine AWP.ret ?_ | refine thenQ_ret ?_ | refine blockQ_ret ?_ | refine AWP.exit ?_ | refine thenQ_exit ?_ | refine blockQ_normal ?_ | refine blockQ_exit ?_)
    | refine blockQ_exit_ne rfl ?_
    | (with_reducible refine And.intro (by (first | with_reducible rfl | with_reducible assumption | omega | (simp only [LN]; first | done | with_reducible rfl | omega) | (simp only [NM, LN]; first | done | with_reducible assumption | omega) | (and_intros <;> first | with_reducible assumption | omega | (simp only [LN]; omega)) | fail)) ?_)
    | ((with_reducible refine AWP.condG (T := TT) (b := ?_) ?_ ?_); rotate_left; exact rfl)
    | (with_reducible first | refine CondG.t ?_ | refine CondG.f ?_ | refine CondG.not ?_)
    | ((with_reducible refine CondG.isT ?_ ?_); focus (first | with_reducible rfl | with_reducible assumption | (simp only [NM, LN]; first | done | with_reducible assumption | omega)))
    | ((with_reducible refine CondG.isF ?_ ?_); focus (first | with_reducible rfl | with_reducible assumption | (simp only [NM, LN]; first | done | with_reducible assumption | omega)))
    | ((with_reducible refine CondG.split (fun h => ?_) (fun h => ?_)) <;> (try simp only [NM] at h)))
  all_goals simp -dsimp (disch := (first | omega | (simp only [LN]; omega))) only [retQ, Tryd.results69, resVals, cellRV, resOf, St.rest, St.freeze, RT, go_sem, ↓reduceIte, seval]
  all_goals simp_all [lessV]

def rCell (b : Row) (k : Nat) (x : Val) : Option Int := if k < b.length ∧ cmpV x (b.getD k zV) < 0 then some (-1) else if k < b.length ∧ cmpV (b.getD k zV) x < 0 then some 1 else none
def rCmp (a b : Row) : Int := match scan (rCell b) a 0 with
  | some e => e
  | none => cmpInts a.length b.length
theorem rCell_sign (b : Row) (k : Nat) (x : Val) : (match rCell b k x, cmpCell b k x with | some e, some e' => (e < 0 ↔ e' < 0) ∧ (e = 0 ↔ e' = 0) | none, none => True | _, _ => False) := by
  unfold rCell cmpCell
  have h1 := cmpV_is.anti x (b.getD k zV)
  by_cases hk : k < b.length
  · simp only [hk, true_and]
    rcases Int.lt_trichotomy (cmpV x (b.getD k zV)) 0 with h | h | h
    · rw [if_pos h, if_pos (by omega)]; simp only; omega
    · rw [if_neg (by omega), if_neg (by omega), if_neg (by omega)]; trivial
    · rw [if_neg (by omega), if_pos (by omega), if_pos (by omega)]; simp only; omega
  · simp [hk]
theorem rCmp_sign (a b : Row) : (rCmp a b < 0 ↔ cmpRows a b < 0) ∧ (rCmp a b = 0 ↔ cmpRows a b = 0) := by
  have key : ∀ (l : Row) (k : Nat), (match scan (rCell b) l k, scan (cmpCell b) l k with | some e, some e' => (e < 0 ↔ e' < 0) ∧ (e = 0 ↔ e' = 0) | none, none => True | _, _ => False) := by
    intro l
    induction l with
    | nil => intro k; trivial
    | cons x l ih =>
      intro k
      have h := rCell_sign b k x
      rw [scan, scan]
      cases h1 : rCell b k x with
      | none =>
        cases h2 : cmpCell b k x with
        | none => exact ih (k + 1)
        | some e => rw [h1, h2] at h; exact h.elim
      | some e =>
        cases h2 : cmpCell b k x with
        | none => rw [h1, h2] at h; exact h.elim
        | some e' => rw [h1, h2] at h; exact h
  have h := key a 0
  unfold rCmp cmpRows
  cases h1 : scan (rCell b) a 0 with
  | none =>
    cases h2 : scan (cmpCell b) a 0 with
    | none => exact ⟨Iff.rfl, Iff.rfl⟩
    | some e => rw [h1, h2] at h; exact h.elim
  | some e =>
    cases h2 : scan (cmpCell b) a 0 with
    | none => rw [h1, h2] at h; exact h.elim
    | some e' => rw [h1, h2] at h; exact h

set_option maxHeartbeats 8000000 in
theorem rCompareRows_sat (a b : Row) (h1 : a.length ≤ 140737488355328) (h2 : b.length ≤ 140737488355328) : Sat Tryd.prog 32 [.one (eRow a), .one (eRow b)] (.v (oI (rCmp a b))) := by
  refine sat_of_body tyOk Tryd.func32 rfl (by kernel_rfl) ⟨Nat.le_of_ble_eq_true rfl, Nat.le_of_ble_eq_true rfl⟩ fun w0 m0 F0 => ?_
  simp only [Tryd.ntmps32, envOf, Nat.reduceAdd]
  repeat' (first
    | ((first
      | with_reducible refine AWP.regionL tyOk fun K hK => ?_
      | ((with_reducible first | refine GOn.isT ?_ ?_ | refine HOn.isT ?_ ?_ | refine pickK.isT ?_ ?_); focus (first | with_reducible rfl | with_reducible assumption | (simp only [NM, LN]; first | done | with_reducible assumption | omega)))
      | ((with_reducible first | refine GOn.isF ?_ ?_ | refine HOn.isF ?_ ?_ | refine pickK.isF ?_ ?_); focus (first | with_reducible rfl | with_reducible assumption | (simp only [NM, LN]; first | done | with_reducible assumption | omega)))
      | ((with_reducible first | refine GOn.split (fun h => ?_) (fun h => ?_) | refine HOn.split (fun h => ?_) (fun h => ?_) | refine pickK.split (fun h => ?_) (fun h => ?_)) <;> (try simp only [NM] at h))
      | with_reducible refine AWP.drawAll tyOk mixed 6 (by kernel_rfl) fun K hK => ?_) <;> simp -dsimp (disch := (first | omega | (simp only [LN]; omega))) only [go_sem, ↓reduceIte, seval])
    | ((with_reducible refine hK _ ?_); clear hK K)
    | (with_reducible first | refine AWP.seq ?_ | refine thenQ_normal ?_ | refine AWP.block ?_ | refine AWP.skip ?_ | refine AWP.ret ?_ | refine thenQ_ret ?_ | refine blockQ_ret ?_ | refine AWP.exit ?_ | refine thenQ_exit ?_ | refine blockQ_normal ?_ | refine blockQ_exit ?_)
    | refine blockQ_exit_ne rfl ?_
    | (with_reducible refine And.intro (by (first | with_reducible rfl | with_reducible assumption | omega | (simp only [LN]; first | done | with_reducible rfl | omega) | (simp only [NM, LN]; first | done | with_reducible assumption | omega) | (and_intros <;> first | with_reducible assumption | omega | (simp only [LN]; omega)) | fail)) ?_)
    | ((with_reducible refine AWP.condG (T := TT) (b := ?_) ?_ ?_); rotate_left; exact rfl)
    | (with_reducible first | refine CondG.t ?_ | refine CondG.f ?_ | refine CondG.not ?_)
    | ((with_reducible refine CondG.isT ?_ ?_); focus (first | with_reducible rfl | with_reducible assumption | (simp only [NM, LN]; first | done | with_reducible assumption | omega)))
    | ((with_reducible refine CondG.isF ?_ ?_); focus (first | with_reducible rfl | with_reducible assumption | (simp only [NM, LN]; first | done | with_reducible assumption | omega)))
    | ((with_reducible refine CondG.split (fun h => ?_) (fun h => ?_)) <;> (try simp only [NM] at h)))
  refine AWP.loop (ι := {k : Nat // k ≤ a.length ∧ k ≤ b.length ∧ scan (rCell b) (a.drop k) k = scan (rCell b) a 0}) (fun k => ⟨48, [(0, .v (.one (eRow a))), (1, .v (.one (eRow b))), (5, .v (oI k.1))], [], []⟩) (fun k => a.length - k.1) ⟨0, Nat.zero_le _, Nat.zero_le _, rfl⟩ ?_ fun ⟨k, hkl, hkb, hi⟩ => ?_
  · exact St.le_mk (by simp only [LE, EN, Nat.reduceEqDiff, reduceIte, Nat.reduceSub]) (by simp only [LE, EN, Nat.reduceEqDiff, reduceIte, Nat.reduceSub]) (by simp only [LE, EN, Nat.reduceEqDiff, reduceIte, Nat.reduceSub])
  by_cases hc : k < a.length ∧ k < b.length
  · obtain ⟨hc1, hc2⟩ := hc
    have l1 := lessV_iff a[k] b[k]
    have l2 := lessV_iff b[k] a[k]
    by_cases c1 : cmpV a[k] b[k] < 0
    · have hs : rCell b k a[k] = some (-1) := by
        rw [rCell, getD_lt _ hc2, if_pos ⟨hc2, c1⟩]
      rw [decide_eq_true c1] at l1
      repeat' (first
        | ((first
          | with_reducible refine AWP.regionL tyOk fun K hK => ?_
          | ((with_reducible first | refine GOn.isT ?_ ?_ | refine HOn.isT ?_ ?_ | refine pickK.isT ?_ ?_); focus (first | with_reducible rfl | with_reducible assumption | (simp only [NM, LN]; first | done | with_reducible assumption | omega)))
          | ((with_reducible first | refine GOn.isF ?_ ?_ | refine HOn.isF ?_ ?_ | refine pickK.isF ?_ ?_); focus (first | with_reducible rfl | with_reducible assumption | (simp only [NM, LN]; first | done | with_reducible assumption | omega)))
          | ((with_reducible first | refine GOn.split (fun h => ?_) (fun h => ?_) | refine HOn.split (fun h => ?_) (fun h => ?_) | refine pickK.split (fun h => ?_) (fun h => ?_)) <;> (try simp only [NM] at h))
          | with_reducible refine AWP.drawAll tyOk mixed 6 (by kernel_rfl) fun K hK => ?_
          | ((with_reducible refine CallJ.is ?_); (first | refine CallJ.pure (lessValue_sat _ _) ?_ | ((apply CallJ.lentI); (focus (simp -dsimp (disch := (first | omega | (simp only [LN]; omega))) only [go_sem, ↓reduceIte, seval, l1]; rfl)); (focus (first | exact (lessValue_sat _ _))))))
          | ((with_reducible refine CallH.is ?_); (first | refine CallH.intro (lessValue_sat _ _) ?_))) <;> simp -dsimp (disch := (first | omega | (simp only [LN]; omega))) only [go_sem, ↓reduceIte, seval, l1])
        | ((with_reducible refine hK _ ?_); clear hK K)
        | (with_reducible first | refine AWP.seq ?_ | refine thenQ_normal ?_ | refine AWP.block ?_ | refine AWP.skip ?_ | refine AWP.ret ?_ | refine thenQ_ret ?_ | refine blockQ_ret ?_ | refine AWP.exit ?_ | refine thenQ_exit ?_ | refine blockQ_normal ?_ | refine blockQ_exit ?_)
        | refine blockQ_exit_ne rfl ?_
        | (with_reducible refine And.intro (by (first | with_reducible rfl | with_reducible assumption | omega | (simp only [LN]; first | done | with_reducible rfl | omega) | (simp only [NM, LN]; first | done | with_reducible assumption | omega) | (and_intros <;> first | with_reducible assumption | omega | (simp only [LN]; omega)) | fail)) ?_)
        | ((with_reducible refine AWP.condG (T := TT) (b := ?_) ?_ ?_); rotate_left; exact rfl)
        | (with_reducible first | refine CondG.t ?_ | refine CondG.f ?_ | refine CondG.not ?_)
        | ((with_reducible refine CondG.isT ?_ ?_); focus (first | with_reducible rfl | with_reducible assumption | (simp only [NM, LN]; first | done | with_reducible assumption | omega)))
        | ((with_reducible refine CondG.isF ?_ ?_); focus (first | with_reducible rfl | with_reducible assumption | (simp only [NM, LN]; first | done | with_reducible assumption | omega)))
        | ((with_reducible refine CondG.split (fun h => ?_) (fun h => ?_)) <;> (try simp only [NM] at h)))
      simp -dsimp (disch := (first | omega | (simp only [LN]; omega))) only [retQ, Tryd.results32, resVals, cellRV, resOf, St.rest, St.freeze, RT, go_sem, ↓reduceIte, seval]
      rw [rCmp, scan_leaf (by omega) hs hi]
    · rw [decide_eq_false (by omega)] at l1
      by_cases c2 : cmpV b[k] a[k] < 0
      · have hs : rCell b k a[k] = some 1 := by
          rw [rCell, getD_lt _ hc2, if_neg (by omega), if_pos ⟨hc2, c2⟩]
        rw [decide_eq_true c2] at l2
        repeat' (first
          | ((first
            | with_reducible refine AWP.regionL tyOk fun K hK => ?_
            | ((with_reducible first | refine GOn.isT ?_ ?_ | refine HOn.isT ?_ ?_ | refine pickK.isT ?_ ?_); focus (first | with_reducible rfl | with_reducible assumption | (simp only [NM, LN]; first | done | with_reducible assumption | omega)))
            | ((with_reducible first | refine GOn.isF ?_ ?_ | refine HOn.isF ?_ ?_ | refine pickK.isF ?_ ?_); focus (first | with_reducible rfl | with_reducible assumption | (simp only [NM, LN]; first | done | with_reducible assumption | omega)))
            | ((with_reducible first | refine GOn.split (fun h => ?_) (fun h => ?_) | refine HOn.split (fun h => ?_) (fun h => ?_) | refine pickK.split (fun h => ?_) (fun h => ?_)) <;> (try simp only [NM] at h))
            | with_reducible refine AWP.drawAll tyOk mixed 6 (by kernel_rfl) fun K hK => ?_
            | ((with_reducible refine CallJ.is ?_); (first | refine CallJ.pure (lessValue_sat _ _) ?_ | ((apply CallJ.lentI); (focus (simp -dsimp (disch := (first | omega | (simp only [LN]; omega))) only [go_sem, ↓reduceIte, seval, l1, l2]; rfl)); (focus (first | exact (lessValue_sat _ _))))))
            | ((with_reducible refine CallH.is ?_); (first | refine CallH.intro (lessValue_sat _ _) ?_))) <;> simp -dsimp (disch := (first | omega | (simp only [LN]; omega))) only [go_sem, ↓reduceIte, seval, l1, l2])
          | ((with_reducible refine hK _ ?_); clear hK K)
          | (with_reducible first | refine AWP.seq ?_ | refine thenQ_normal ?_ | refine AWP.block ?_ | refine AWP.skip ?_ | refine AWP.ret ?_ | refine thenQ_ret ?_ | refine blockQ_ret ?_ | refine AWP.exit ?_ | refine thenQ_exit ?_ | refine blockQ_normal ?_ | refine blockQ_exit ?_)
          | refine blockQ_exit_ne rfl ?_
          | (with_reducible refine And.intro (by (first | with_reducible rfl | with_reducible assumption | omega | (simp only [LN]; first | done | with_reducible rfl | omega) | (simp only [NM, LN]; first | done | with_reducible assumption | omega) | (and_intros <;> first | with_reducible assumption | omega | (simp only [LN]; omega)) | fail)) ?_)
          | ((with_reducible refine AWP.condG (T := TT) (b := ?_) ?_ ?_); rotate_left; exact rfl)
          | (with_reducible first | refine CondG.t ?_ | refine CondG.f ?_ | refine CondG.not ?_)
          | ((with_reducible refine CondG.isT ?_ ?_); focus (first | with_reducible rfl | with_reducible assumption | (simp only [NM, LN]; first | done | with_reducible assumption | omega)))
          | ((with_reducible refine CondG.isF ?_ ?_); focus (first | with_reducible rfl | with_reducible assumption | (simp only [NM, LN]; first | done | with_reducible assumption | omega)))
          | ((with_reducible refine CondG.split (fun h => ?_) (fun h => ?_)) <;> (try simp only [NM] at h)))
        simp -dsimp (disch := (first | omega | (simp only [LN]; omega))) only [retQ, Tryd.results32, resVals, cellRV, resOf, St.rest, St.freeze, RT, go_sem, ↓reduceIte, seval]
        rw [rCmp, scan_leaf (by omega) hs hi]
      · have hs : rCell b k a[k] = none := by
          rw [rCell, getD_lt _ hc2, if_neg (by omega), if_neg (by omega)]
        rw [decide_eq_false (by omega)] at l2
        repeat' (first
          | ((first
            | with_reducible refine AWP.regionL tyOk fun K hK => ?_
            | ((with_reducible first | refine GOn.isT ?_ ?_ | refine HOn.isT ?_ ?_ | refine pickK.isT ?_ ?_); focus (first | with_reducible rfl | with_reducible assumption | (simp only [NM, LN]; first | done | with_reducible assumption | omega)))
            | ((with_reducible first | refine GOn.isF ?_ ?_ | refine HOn.isF ?_ ?_ | refine pickK.isF ?_ ?_); focus (first | with_reducible rfl | with_reducible assumption | (simp only [NM, LN]; first | done | with_reducible assumption | omega)))
            | ((with_reducible first | refine GOn.split (fun h => ?_) (fun h => ?_) | refine HOn.split (fun h => ?_) (fun h => ?_) | refine pickK.split (fun h => ?_) (fun h => ?_)) <;> (try simp only [NM] at h))
            | with_reducible refine AWP.drawAll tyOk mixed 6 (by kernel_rfl) fun K hK => ?_
            | ((with_reducible refine CallJ.is ?_); (first | refine CallJ.pure (lessValue_sat _ _) ?_ | ((apply CallJ.lentI); (focus (simp -dsimp (disch := (first | omega | (simp only [LN]; omega))) only [go_sem, ↓reduceIte, seval, l1, l2]; rfl)); (focus (first | exact (lessValue_sat _ _))))))
            | ((with_reducible refine CallH.is ?_); (first | refine CallH.intro (lessValue_sat _ _) ?_))) <;> simp -dsimp (disch := (first | omega | (simp only [LN]; omega))) only [go_sem, ↓reduceIte, seval, l1, l2])
          | ((with_reducible refine hK _ ?_); clear hK K)
          | (with_reducible first | refine AWP.seq ?_ | refine thenQ_normal ?_ | refine AWP.block ?_ | refine AWP.skip ?_ | refine AWP.ret ?_ | refine thenQ_ret ?_ | refine blockQ_ret ?_ | refine AWP.exit ?_ | refine thenQ_exit ?_ | refine blockQ_normal ?_ | refine blockQ_exit ?_)
          | refine blockQ_exit_ne rfl ?_
          | (with_reducible refine And.intro (by (first | with_reducible rfl | with_reducible assumption | omega | (simp only [LN]; first | done | with_reducible rfl | omega) | (simp only [NM, LN]; first | done | with_reducible assumption | omega) | (and_intros <;> first | with_reducible assumption | omega | (simp only [LN]; omega)) | fail)) ?_)
          | ((with_reducible refine AWP.condG (T := TT) (b := ?_) ?_ ?_); rotate_left; exact rfl)
          | (with_reducible first | refine CondG.t ?_ | refine CondG.f ?_ | refine CondG.not ?_)
          | ((with_reducible refine CondG.isT ?_ ?_); focus (first | with_reducible rfl | with_reducible assumption | (simp only [NM, LN]; first | done | with_reducible assumption | omega)))
          | ((with_reducible refine CondG.isF ?_ ?_); focus (first | with_reducible rfl | with_reducible assumption | (simp only [NM, LN]; first | done | with_reducible assumption | omega)))
          | ((with_reducible refine CondG.split (fun h => ?_) (fun h => ?_)) <;> (try simp only [NM] at h)))
        refine ⟨⟨k + 1, by omega, by omega, by rw [scan_step (by omega) hs, hi]⟩, by simp only; omega, ?_⟩
        exact St.le_mk (by simp only [LE, EN, Nat.reduceEqDiff, reduceIte, Nat.reduceSub]) (by simp only [LE, EN, Nat.reduceEqDiff, reduceIte, Nat.reduceSub]) (by simp only [LE, EN, Nat.reduceEqDiff, reduceIte, Nat.reduceSub])
  · have hn : scan (rCell b) a 0 = none := by
      rw [← hi]
      rcases Nat.lt_or_ge k a.length with h | h
      · exact scan_all_none fun j x hj => by rw [rCell, if_neg (by omega), if_neg (by omega)]
      · rw [scan_end (by omega)]
    have hn2 : rCmp a b = cmpInts a.length b.length := by rw [rCmp, hn]
    rw [hn2]
    repeat' (first
      | ((first
        | with_reducible refine AWP.regionL tyOk fun K hK => ?_
        | ((with_reducible first | refine GOn.isT ?_ ?_ | refine HOn.isT ?_ ?_ | refine pickK.isT ?_ ?_); focus (first | with_reducible rfl | with_reducible assumption | (simp only [NM, LN]; first | done | with_reducible assumption | omega)))
        | ((with_reducible first | refine GOn.isF ?_ ?_ | refine HOn.isF ?_ ?_ | refine pickK.isF ?_ ?_); focus (first | with_reducible rfl | with_reducible assumption | (simp only [NM, LN]; first | done | with_reducible assumption | omega)))
        | ((with_reducible first | refine GOn.split (fun h => ?_) (fun h => ?_) | refine HOn.split (fun h => ?_) (fun h => ?_) | refine pickK.split (fun h => ?_) (fun h => ?_)) <;> (try simp only [NM] at h))
        | with_reducible refine AWP.drawAll tyOk mixed 6 (by kernel_rfl) fun K hK => ?_) <;> simp -dsimp (disch := (first | omega | (simp only [LN]; omega))) only [go_sem, ↓reduceIte, seval])
      | ((with_reducible refine hK _ ?_); clear hK K)
      | (with_reducible first | refine AWP.seq ?_ | refine thenQ_normal ?_ | refine AWP.block ?_ | refine AWP.skip ?_ | refine AWP.ret ?_ | refine thenQ_ret ?_ | refine blockQ_ret ?_ | refine AWP.exit ?_ | refine thenQ_exit ?_ | refine blockQ_normal ?_ | refine blockQ_exit ?_)
      | refine blockQ_exit_ne rfl ?_
      | (with_reducible refine And.intro (by (first | with_reducible rfl | with_reducible assumption | omega | (simp only [LN]; first | done | with_reducible rfl | omega) | (simp only [NM, LN]; first | done | with_reducible assumption | omega) | (and_intros <;> first | with_reducible assumption | omega | (simp only [LN]; omega)) | fail)) ?_)
      | ((with_reducible refine AWP.condG (T := TT) (b := ?_) ?_ ?_); rotate_left; exact rfl)
      | (with_reducible first | refine CondG.t ?_ | refine CondG.f ?_ | refine CondG.not ?_)
      | ((with_reducible refine CondG.isT ?_ ?_); focus (first | with_reducible rfl | with_reducible assumption | (simp only [NM, LN]; first | done | with_reducible assumption | omega)))
      | ((with_reducible refine CondG.isF ?_ ?_); focus (first | with_reducible rfl | with_reducible assumption | (simp only [NM, LN]; first | done | with_reducible assumption | omega)))
      | ((with_reducible refine CondG.split (fun h => ?_) (fun h => ?_)) <;> (try simp only [NM] at h)))
    all_goals simp -dsimp (disch := (first | omega | (simp only [LN]; omega))) only [retQ, Tryd.results32, resVals, cellRV, resOf, St.rest, St.freeze, RT, go_sem, ↓reduceIte, seval]
    all_goals unfold cmpInts
    all_goals (repeat' split) <;> first | rfl | omega

set_option maxHeartbeats 8000000 in
theorem project_sat (r : Row) (l : List Int) (h1 : l.length ≤ 1099511627776) (h2 : r.length ≤ 140737488355328) : Sat Tryd.prog 37 [.one (eRow r), .one (eInts l)] (.v (.one (eRow (keyOf l r)))) := by
  refine sat_of_body tyOk Tryd.func37 rfl (by kernel_rfl) ⟨Nat.le_of_ble_eq_true rfl, Nat.le_of_ble_eq_true rfl⟩ fun w0 m0 F0 => ?_
  simp only [Tryd.ntmps37, envOf, Nat.reduceAdd]
  repeat' (first
    | ((first
      | with_reducible refine AWP.regionL tyOk fun K hK => ?_
      | ((with_reducible first | refine GOn.isT ?_ ?_ | refine HOn.isT ?_ ?_ | refine pickK.isT ?_ ?_); focus (first | with_reducible rfl | with_reducible assumption | (simp only [NM, LN]; first | done | with_reducible assumption | omega)))
      | ((with_reducible first | refine GOn.isF ?_ ?_ | refine HOn.isF ?_ ?_ | refine pickK.isF ?_ ?_); focus (first | with_reducible rfl | with_reducible assumption | (simp only [NM, LN]; first | done | with_reducible assumption | omega)))
      | ((with_reducible first | refine GOn.split (fun h => ?_) (fun h => ?_) | refine HOn.split (fun h => ?_) (fun h => ?_) | refine pickK.split (fun h => ?_) (fun h => ?_)) <;> (try simp only [NM] at h))
      | with_reducible refine AWP.drawAll tyOk mixed 6 (by kernel_rfl) fun K hK => ?_) <;> simp -dsimp (disch := (first | omega | (simp only [LN]; omega))) only [go_sem, ↓reduceIte, seval])
    | ((with_reducible refine hK _ ?_); clear hK K)
    | (with_reducible first | refine AWP.seq ?_ | refine thenQ_normal ?_ | refine AWP.block ?_ | refine AWP.skip ?_ | refine AWP.ret ?_ | refine thenQ_ret ?_ | refine blockQ_ret ?_ | refine AWP.exit ?_ | refine thenQ_exit ?_ | refine blockQ_normal ?_ | refine blockQ_exit ?_)
    | refine blockQ_exit_ne rfl ?_
    | (with_reducible refine And.intro (by (first | with_reducible rfl | with_reducible assumption | omega | (simp only [LN]; first | done | with_reducible rfl | omega) | (simp only [NM, LN]; first | done | with_reducible assumption | omega) | (and_intros <;> first | with_reducible assumption | omega | (simp only [LN]; omega)) | fail)) ?_)
    | ((with_reducible refine AWP.condG (T := TT) (b := ?_) ?_ ?_); rotate_left; exact rfl)
    | (with_reducible first | refine CondG.t ?_ | refine CondG.f ?_ | refine CondG.not ?_)
    | ((with_reducible refine CondG.isT ?_ ?_); focus (first | with_reducible rfl | with_reducible assumption | (simp only [NM, LN]; first | done | with_reducible assumption | omega)))
    | ((with_reducible refine CondG.isF ?_ ?_); focus (first | with_reducible rfl | with_reducible assumption | (simp only [NM, LN]; first | done | with_reducible assumption | omega)))
    | ((with_reducible refine CondG.split (fun h => ?_) (fun h => ?_)) <;> (try simp only [NM] at h)))
  refine AWP.loop (ι := {k : Nat // k ≤ l.length}) (fun k => ⟨34, [(0, .v (.one (eRow r))), (5, .v (.one (.ref 5 0 k.1))), (9, .v (.one (eInts l))), (10, .v (oI l.length)), (11, .v (oI k.1))], [], [(5, ⟨3, (keyOf (l.take k.1) r).map eVal, []⟩)]⟩) (fun k => l.length - k.1) ⟨0, Nat.zero_le _⟩ ?_ fun ⟨k, hkl⟩ => ?_
  · exact St.le_mk (by simp only [LE, EN, Nat.reduceEqDiff, reduceIte, Nat.reduceSub, keyOf]) (by simp only [LE, EN, Nat.reduceEqDiff, reduceIte, Nat.reduceSub, keyOf]) (by simp only [LE, EN, Nat.reduceEqDiff, reduceIte, Nat.reduceSub, keyOf])
  have hlen : (keyOf (l.take k) r).length = k := by rw [keyOf_length]; simp; omega
  repeat' (first
    | ((first
      | with_reducible refine AWP.regionL tyOk fun K hK => ?_
      | ((with_reducible first | refine GOn.isT ?_ ?_ | refine HOn.isT ?_ ?_ | refine pickK.isT ?_ ?_); focus (first | with_reducible rfl | with_reducible assumption | (simp only [NM, LN]; first | done | with_reducible assumption | omega)))
      | ((with_reducible first | refine GOn.isF ?_ ?_ | refine HOn.isF ?_ ?_ | refine pickK.isF ?_ ?_); focus (first | with_reducible rfl | with_reducible assumption | (simp only [NM, LN]; first | done | with_reducible assumption | omega)))
      | ((with_reducible first | refine GOn.split (fun h => ?_) (fun h => ?_) | refine HOn.split (fun h => ?_) (fun h => ?_) | refine pickK.split (fun h => ?_) (fun h => ?_)) <;> (try simp only [NM] at h))
      | with_reducible refine AWP.drawAll tyOk mixed 6 (by kernel_rfl) fun K hK => ?_) <;> simp -dsimp (disch := (first | omega | (simp only [LN]; omega))) only [go_sem, ↓reduceIte, seval, hlen])
    | ((with_reducible refine hK _ ?_); clear hK K)
    | (with_reducible first | refine AWP.seq ?_ | refine thenQ_normal ?_ | refine AWP.block ?_ | refine AWP.skip ?_ | refine AWP.ret ?_ | refine thenQ_ret ?_ | refine blockQ_ret ?_ | refine AWP.exit ?_ | refine thenQ_exit ?_ | refine blockQ_normal ?_ | refine blockQ_exit ?_)
    | refine blockQ_exit_ne rfl ?_
    | (with_reducible refine And.intro (by (first | with_reducible rfl | with_reducible assumption | omega | (simp only [LN]; first | done | with_reducible rfl | omega) | (simp only [NM, LN]; first | done | with_reducible assumption | omega) | (and_intros <;> first | with_reducible assumption | omega | (simp only [LN]; omega)) | fail)) ?_)
    | ((with_reducible refine AWP.condG (T := TT) (b := ?_) ?_ ?_); rotate_left; exact rfl)
    | (with_reducible first | refine CondG.t ?_ | refine CondG.f ?_ | refine CondG.not ?_)
    | ((with_reducible refine CondG.isT ?_ ?_); focus (first | with_reducible rfl | with_reducible assumption | (simp only [NM, LN]; first | done | with_reducible assumption | omega)))
    | ((with_reducible refine CondG.isF ?_ ?_); focus (first | with_reducible rfl | with_reducible assumption | (simp only [NM, LN]; first | done | with_reducible assumption | omega)))
    | ((with_reducible refine CondG.split (fun h => ?_) (fun h => ?_)) <;> (try simp only [NM] at h)))
  all_goals first
    | (refine ⟨⟨k + 1, by omega⟩, by simp only; omega, ?_⟩
       have hk : k < l.length := by omega
       have e : keyOf (l.take (k + 1)) r = keyOf (l.take k) r ++ [keyCell r l[k]] := by
         unfold keyOf
         rw [take_snoc _ _ hk, List.map_append]
         rfl
       first
         | (have h2 : l[k].toNat < r.length := by omega
            have e2 : keyCell r l[k] = r[l[k].toNat]'h2 := by
              rw [keyCell, if_pos ⟨by omega, by omega⟩]
              exact getD_lt _ h2
            exact St.le_mk (by simp only [LE, EN, Nat.reduceEqDiff, reduceIte, Nat.reduceSub, e, e2]) (by simp only [LE, EN, Nat.reduceEqDiff, reduceIte, Nat.reduceSub, e, e2]) (by simp only [LE, EN, Nat.reduceEqDiff, reduceIte, Nat.reduceSub, e, e2])
            )
         | (have e2 : keyCell r l[k] = zV := by rw [keyCell, if_neg (by omega)]
            exact St.le_mk (by simp only [LE, EN, Nat.reduceEqDiff, reduceIte, Nat.reduceSub, e, e2, zV]) (by simp only [LE, EN, Nat.reduceEqDiff, reduceIte, Nat.reduceSub, e, e2, zV]) (by simp only [LE, EN, Nat.reduceEqDiff, reduceIte, Nat.reduceSub, e, e2, zV])
            )
         )
    | (have hk : k = l.length := by omega
       subst hk
       rw [List.take_length] at hlen
       simp -dsimp (disch := (first | omega | (simp only [LN]; omega))) only [retQ, Tryd.results37, resVals, cellRV, resOf, St.rest, St.freeze, RT, go_sem, ↓reduceIte, seval]
       rw [if_pos (by omega)])
theorem rKeyOf_sat (t : Tbl) (r : Row) (h1 : t.pk.length ≤ 1099511627776) (h2 : r.length ≤ 140737488355328) : Sat Tryd.prog 13 [.agg (eTbl t), .one (eRow r)] (.v (.one (eRow (keyOf t.pk r)))) := by
  refine sat_of_body tyOk Tryd.func13 rfl (by kernel_rfl) ⟨Nat.le_of_ble_eq_true rfl, Nat.le_of_ble_eq_true rfl⟩ fun w0 m0 F0 => ?_
  simp only [Tryd.ntmps13, envOf, Nat.reduceAdd]
  repeat' (first
    | ((first
      | with_reducible refine AWP.regionL tyOk fun K hK => ?_
      | ((with_reducible first | refine GOn.isT ?_ ?_ | refine HOn.isT ?_ ?_ | refine pickK.isT ?_ ?_); focus (first | with_reducible rfl | with_reducible assumption | (simp only [NM, LN]; first | done | with_reducible assumption | omega)))
      | ((with_reducible first | refine GOn.isF ?_ ?_ | refine HOn.isF ?_ ?_ | refine pickK.isF ?_ ?_); focus (first | with_reducible rfl | with_reducible assumption | (simp only [NM, LN]; first | done | with_reducible assumption | omega)))
      | ((with_reducible first | refine GOn.split (fun h => ?_) (fun h => ?_) | refine HOn.split (fun h => ?_) (fun h => ?_) | refine pickK.split (fun h => ?_) (fun h => ?_)) <;> (try simp only [NM] at h))
      | with_reducible refine AWP.drawAll tyOk mixed 6 (by kernel_rfl) fun K hK => ?_
      | ((with_reducible refine CallJ.is ?_); (first | refine CallJ.pure (project_sat r t.pk h1 h2) ?_ | ((apply CallJ.lentI); (focus (simp -dsimp (disch := (first | omega | (simp only [LN]; omega))) only [go_sem, ↓reduceIte, seval]; rfl)); (focus (first | exact (project_sat r t.pk h1 h2))))))
      | ((with_reducible refine CallH.is ?_); (first | refine CallH.intro (project_sat r t.pk h1 h2) ?_))) <;> simp -dsimp (disch := (first | omega | (simp only [LN]; omega))) only [go_sem, ↓reduceIte, seval])
    | ((with_reducible refine hK _ ?_); clear hK K)
    | (with_reducible first | refine AWP.seq ?_ | refine thenQ_normal ?_ | refine AWP.block ?_ | refine AWP.skip ?_ | refine AWP.ret ?_ | refine thenQ_ret ?_ | refine blockQ_ret ?_ | refine AWP.exit ?_ | refine thenQ_exit ?_ | refine blockQ_normal ?_ | refine blockQ_exit ?_)
    | refine blockQ_exit_ne rfl ?_
    | (with_reducible refine And.intro (by (first | with_reducible rfl | with_reducible assumption | omega | (simp only [LN]; first | done | with_reducible rfl | omega) | (simp only [NM, LN]; first | done | with_reducible assumption | omega) | (and_intros <;> first | with_reducible assumption | omega | (simp only [LN]; omega)) | fail)) ?_)
    | ((with_reducible refine AWP.condG (T := TT) (b := ?_) ?_ ?_); rotate_left; exact rfl)
    | (with_reducible first | refine CondG.t ?_ | refine CondG.f ?_ | refine CondG.not ?_)
    | ((with_reducible refine CondG.isT ?_ ?_); focus (first | with_reducible rfl | with_reducible assumption | (simp only [NM, LN]; first | done | with_reducible assumption | omega)))
    | ((with_reducible refine CondG.isF ?_ ?_); focus (first | with_reducible rfl | with_reducible assumption | (simp only [NM, LN]; first | done | with_reducible assumption | omega)))
    | ((with_reducible refine CondG.split (fun h => ?_) (fun h => ?_)) <;> (try simp only [NM] at h)))
  simp -dsimp (disch := (first | omega | (simp only [LN]; omega))) only [retQ, Tryd.results13, resVals, cellRV, resOf, St.rest, St.freeze, RT, go_sem, ↓reduceIte, seval]

/-- The keys go up strictly. -/
def sortedN (t : Tbl) (rows : List Row) : Nat → Bool
  | 0 => true
  | 1 => true
  | k + 2 => sortedN t rows (k + 1) && decide (cmpRows (keyOf t.pk (rows.getD k [])) (keyOf t.pk (rows.getD (k + 1) [])) < 0)
def sortedR (t : Tbl) (rows : List Row) : Bool := sortedN t rows rows.length
theorem sortedN_mono (t : Tbl) (rows : List Row) : ∀ {k n : Nat}, k ≤ n → sortedN t rows k = false → sortedN t rows n = false
  | k, 0, h, hs => by have : k = 0 := by omega
                      subst this; exact hs
  | k, 1, h, hs => by
    match k, h, hs with
    | 0, _, hs => cases hs
    | 1, _, hs => exact hs
  | k, n + 2, h, hs => by
    rcases Nat.lt_or_ge k (n + 2) with h1 | h1
    · rw [sortedN, sortedN_mono t rows (show k ≤ n + 1 by omega) hs]; rfl
    · have : k = n + 2 := by omega
      subst this; exact hs
theorem sortedR_iff (t : Tbl) (rows : List Row) : sortedR t rows = true ↔ ∀ j, ∀ h : j + 1 < rows.length, cmpRows (keyOf t.pk rows[j]) (keyOf t.pk rows[j + 1]) < 0 := by
  have key : ∀ n, n ≤ rows.length → (sortedN t rows n = true ↔ ∀ j, ∀ h : j + 1 < n, cmpRows (keyOf t.pk (rows.getD j [])) (keyOf t.pk (rows.getD (j + 1) [])) < 0) := by
    intro n
    induction n with
    | zero => intro _; exact ⟨fun _ j h => by omega, fun _ => rfl⟩
    | succ n ih =>
      intro hn
      cases n with
      | zero => exact ⟨fun _ j h => by omega, fun _ => rfl⟩
      | succ n =>
        rw [sortedN, Bool.and_eq_true, decide_eq_true_eq, ih (by omega)]
        constructor
        · rintro ⟨h1, h2⟩ j hj
          rcases Nat.lt_or_ge j n with h3 | h3
          · exact h1 j (by omega)
          · have : j = n := by omega
            subst this; exact h2
        · intro h
          exact ⟨fun j hj => h j (by omega), h n (by omega)⟩
  rw [sortedR, key _ (Nat.le_refl _)]
  constructor
  · intro h j hj
    have := h j hj
    rwa [getD_lt _ (by omega : j < rows.length), getD_lt _ hj] at this
  · intro h j hj
    rw [getD_lt _ (by omega : j < rows.length), getD_lt _ hj]
    exact h j hj

set_option maxHeartbeats 8000000 in
theorem sorted_sat (t : Tbl) (rows : List Row) (h1 : t.pk.length ≤ 1099511627776) (h2 : rows.length ≤ 140737488355328) (h3 : ∀ r ∈ rows, r.length ≤ 140737488355328) : Sat Tryd.prog 10 [.agg (eTbl t), .one (eRows rows)] (.v (oB (sortedR t rows))) := by
  refine sat_of_body tyOk Tryd.func10 rfl (by kernel_rfl) ⟨Nat.le_of_ble_eq_true rfl, Nat.le_of_ble_eq_true rfl⟩ fun w0 m0 F0 => ?_
  simp only [Tryd.ntmps10, envOf, Nat.reduceAdd]
  repeat' (first
    | ((first
      | with_reducible refine AWP.regionL tyOk fun K hK => ?_
      | ((with_reducible first | refine GOn.isT ?_ ?_ | refine HOn.isT ?_ ?_ | refine pickK.isT ?_ ?_); focus (first | with_reducible rfl | with_reducible assumption | (simp only [NM, LN]; first | done | with_reducible assumption | omega)))
      | ((with_reducible first | refine GOn.isF ?_ ?_ | refine HOn.isF ?_ ?_ | refine pickK.isF ?_ ?_); focus (first | with_reducible rfl | with_reducible assumption | (simp only [NM, LN]; first | done | with_reducible assumption | omega)))
      | ((with_reducible first | refine GOn.split (fun h => ?_) (fun h => ?_) | refine HOn.split (fun h => ?_) (fun h => ?_) | refine pickK.split (fun h => ?_) (fun h => ?_)) <;> (try simp only [NM] at h))
      | with_reducible refine AWP.drawAll tyOk mixed 6 (by kernel_rfl) fun K hK => ?_) <;> simp -dsimp (disch := (first | omega | (simp only [LN]; omega))) only [go_sem, ↓reduceIte, seval])
    | ((with_reducible refine hK _ ?_); clear hK K)
    | (with_reducible first | refine AWP.seq ?_ | refine thenQ_normal ?_ | refine AWP.block ?_ | refine AWP.skip ?_ | refine AWP.ret ?_ | refine thenQ_ret ?_ | refine blockQ_ret ?_ | refine AWP.exit ?_ | refine thenQ_exit ?_ | refine blockQ_normal ?_ | refine blockQ_exit ?_)
    | refine blockQ_exit_ne rfl ?_
    | (with_reducible refine And.intro (by (first | with_reducible rfl | with_reducible assumption | omega | (simp only [LN]; first | done | with_reducible rfl | omega) | (simp only [NM, LN]; first | done | with_reducible assumption | omega) | (and_intros <;> first | with_reducible assumption | omega | (simp only [LN]; omega)) | fail)) ?_)
    | ((with_reducible refine AWP.condG (T := TT) (b := ?_) ?_ ?_); rotate_left; exact rfl)
    | (with_reducible first | refine CondG.t ?_ | refine CondG.f ?_ | refine CondG.not ?_)
    | ((with_reducible refine CondG.isT ?_ ?_); focus (first | with_reducible rfl | with_reducible assumption | (simp only [NM, LN]; first | done | with_reducible assumption | omega)))
    | ((with_reducible refine CondG.isF ?_ ?_); focus (first | with_reducible rfl | with_reducible assumption | (simp only [NM, LN]; first | done | with_reducible assumption | omega)))
    | ((with_reducible refine CondG.split (fun h => ?_) (fun h => ?_)) <;> (try simp only [NM] at h)))
  refine AWP.loop (ι := {k : Nat // 1 ≤ k ∧ k ≤ rows.length + 1 ∧ sortedN t rows k = true}) (fun k => ⟨27, [(2, .v (.one (.ptr 2 0))), (1, .v (.one (eRows rows))), (5, .v (oI k.1))], [(2, eTbl t)], []⟩) (fun k => rows.length + 1 - k.1) ⟨1, Nat.le_refl _, by omega, rfl⟩ ?_ fun ⟨k, hk1, hkl, hi⟩ => ?_
  · exact St.le_mk (by simp only [LE, EN, Nat.reduceEqDiff, reduceIte, Nat.reduceSub, eTbl]) (by simp only [LE, EN, Nat.reduceEqDiff, reduceIte, Nat.reduceSub, eTbl]) (by simp only [LE, EN, Nat.reduceEqDiff, reduceIte, Nat.reduceSub, eTbl])
  rcases Nat.lt_or_ge k rows.length with hc | hc
  · have hp : k - 1 < rows.length := by omega
    have ek : ((k : Int) - 1).toNat = k - 1 := by omega
    have b1 : (keyOf t.pk rows[k - 1]).length ≤ 140737488355328 := by rw [keyOf_length]; omega
    have b2 : (keyOf t.pk rows[k]).length ≤ 140737488355328 := by rw [keyOf_length]; omega
    have sg := rCmp_sign (keyOf t.pk rows[k - 1]) (keyOf t.pk rows[k])
    obtain ⟨q, rfl⟩ : ∃ q, k = q + 1 := ⟨k - 1, by omega⟩
    simp only [Nat.add_sub_cancel] at hp ek b1 b2 sg
    repeat' (first
      | ((first
        | with_reducible refine AWP.regionL tyOk fun K hK => ?_
        | ((with_reducible first | refine GOn.isT ?_ ?_ | refine HOn.isT ?_ ?_ | refine pickK.isT ?_ ?_); focus (first | with_reducible rfl | with_reducible assumption | (simp only [NM, LN]; first | done | with_reducible assumption | omega)))
        | ((with_reducible first | refine GOn.isF ?_ ?_ | refine HOn.isF ?_ ?_ | refine pickK.isF ?_ ?_); focus (first | with_reducible rfl | with_reducible assumption | (simp only [NM, LN]; first | done | with_reducible assumption | omega)))
        | ((with_reducible first | refine GOn.split (fun h => ?_) (fun h => ?_) | refine HOn.split (fun h => ?_) (fun h => ?_) | refine pickK.split (fun h => ?_) (fun h => ?_)) <;> (try simp only [NM] at h))
        | with_reducible refine AWP.drawAll tyOk mixed 6 (by kernel_rfl) fun K hK => ?_
        | ((with_reducible refine CallJ.is ?_); (first | refine CallJ.pure (rKeyOf_sat t _ h1 (h3 _ (List.getElem_mem _))) ?_ | refine CallJ.pure (rCompareRows_sat _ _ b1 b2) ?_ | ((apply CallJ.lentI); (focus (simp -dsimp (disch := (first | omega | (simp only [LN]; omega))) only [go_sem, ↓reduceIte, seval, ek]; rfl)); (focus (first | exact (rKeyOf_sat t _ h1 (h3 _ (List.getElem_mem _))) | exact (rCompareRows_sat _ _ b1 b2))))))
        | ((with_reducible refine CallH.is ?_); (first | refine CallH.intro (rKeyOf_sat t _ h1 (h3 _ (List.getElem_mem _))) ?_ | refine CallH.intro (rCompareRows_sat _ _ b1 b2) ?_))) <;> simp -dsimp (disch := (first | omega | (simp only [LN]; omega))) only [go_sem, ↓reduceIte, seval, ek])
      | ((with_reducible refine hK _ ?_); clear hK K)
      | (with_reducible first | refine AWP.seq ?_ | refine thenQ_normal ?_ | refine AWP.block ?_ | refine AWP.skip ?_ | refine AWP.ret ?_ | refine thenQ_ret ?_ | refine blockQ_ret ?_ | refine AWP.exit ?_ | refine thenQ_exit ?_ | refine blockQ_normal ?_ | refine blockQ_exit ?_)
      | refine blockQ_exit_ne rfl ?_
      | (with_reducible refine And.intro (by (first | with_reducible rfl | with_reducible assumption | omega | (simp only [LN]; first | done | with_reducible rfl | omega) | (simp only [NM, LN]; first | done | with_reducible assumption | omega) | (and_intros <;> first | with_reducible assumption | omega | (simp only [LN]; omega)) | fail)) ?_)
      | ((with_reducible refine AWP.condG (T := TT) (b := ?_) ?_ ?_); rotate_left; exact rfl)
      | (with_reducible first | refine CondG.t ?_ | refine CondG.f ?_ | refine CondG.not ?_)
      | ((with_reducible refine CondG.isT ?_ ?_); focus (first | with_reducible rfl | with_reducible assumption | (simp only [NM, LN]; first | done | with_reducible assumption | omega)))
      | ((with_reducible refine CondG.isF ?_ ?_); focus (first | with_reducible rfl | with_reducible assumption | (simp only [NM, LN]; first | done | with_reducible assumption | omega)))
      | ((with_reducible refine CondG.split (fun h => ?_) (fun h => ?_)) <;> (try simp only [NM] at h)))
    · have hf : sortedN t rows (q + 2) = false := by
        rw [sortedN, getD_lt _ hp, getD_lt _ hc, decide_eq_false (by omega), Bool.and_false]
      have hz : sortedR t rows = false := sortedN_mono t rows (by omega) hf
      simp -dsimp (disch := (first | omega | (simp only [LN]; omega))) only [retQ, Tryd.results10, resVals, cellRV, resOf, St.rest, St.freeze, RT, go_sem, ↓reduceIte, seval]
      rw [hz]
    · have ht : sortedN t rows (q + 2) = true := by
        rw [sortedN, getD_lt _ hp, getD_lt _ hc, decide_eq_true (by omega), hi]; rfl
      refine ⟨⟨q + 1 + 1, by omega, by omega, ht⟩, by simp only; omega, ?_⟩
      exact St.le_mk (by simp only [LE, EN, Nat.reduceEqDiff, reduceIte, Nat.reduceSub, eTbl]) (by simp only [LE, EN, Nat.reduceEqDiff, reduceIte, Nat.reduceSub, eTbl]) (by simp only [LE, EN, Nat.reduceEqDiff, reduceIte, Nat.reduceSub, eTbl])
  · have hz : sortedR t rows = true := by
      cases hs : sortedR t rows with
      | true => rfl
      | false => rw [sortedN_mono t rows hc hs] at hi; cases hi
    repeat' (first
      | ((first
        | with_reducible refine AWP.regionL tyOk fun K hK => ?_
        | ((with_reducible first | refine GOn.isT ?_ ?_ | refine HOn.isT ?_ ?_ | refine pickK.isT ?_ ?_); focus (first | with_reducible rfl | with_reducible assumption | (simp only [NM, LN]; first | done | with_reducible assumption | omega)))
        | ((with_reducible first | refine GOn.isF ?_ ?_ | refine HOn.isF ?_ ?_ | refine pickK.isF ?_ ?_); focus (first | with_reducible rfl | with_reducible assumption | (simp only [NM, LN]; first | done | with_reducible assumption | omega)))
        | ((with_reducible first | refine GOn.split (fun h => ?_) (fun h => ?_) | refine HOn.split (fun h => ?_) (fun h => ?_) | refine pickK.split (fun h => ?_) (fun h => ?_)) <;> (try simp only [NM] at h))
        | with_reducible refine AWP.drawAll tyOk mixed 6 (by kernel_rfl) fun K hK => ?_) <;> simp -dsimp (disch := (first | omega | (simp only [LN]; omega))) only [go_sem, ↓reduceIte, seval])
      | ((with_reducible refine hK _ ?_); clear hK K)
      | (with_reducible first | refine AWP.seq ?_ | refine thenQ_normal ?_ | refine AWP.block ?_ | refine AWP.skip ?_ | refine AWP.ret ?_ | refine thenQ_ret ?_ | refine blockQ_ret ?_ | refine AWP.exit ?_ | refine thenQ_exit ?_ | refine blockQ_normal ?_ | refine blockQ_exit ?_)
      | refine blockQ_exit_ne rfl ?_
      | (with_reducible refine And.intro (by (first | with_reducible rfl | with_reducible assumption | omega | (simp only [LN]; first | done | with_reducible rfl | omega) | (simp only [NM, LN]; first | done | with_reducible assumption | omega) | (and_intros <;> first | with_reducible assumption | omega | (simp only [LN]; omega)) | fail)) ?_)
      | ((with_reducible refine AWP.condG (T := TT) (b := ?_) ?_ ?_); rotate_left; exact rfl)
      | (with_reducible first | refine CondG.t ?_ | refine CondG.f ?_ | refine CondG.not ?_)
      | ((with_reducible refine CondG.isT ?_ ?_); focus (first | with_reducible rfl | with_reducible assumption | (simp only [NM, LN]; first | done | with_reducible assumption | omega)))
      | ((with_reducible refine CondG.isF ?_ ?_); focus (first | with_reducible rfl | with_reducible assumption | (simp only [NM, LN]; first | done | with_reducible assumption | omega)))
      | ((with_reducible refine CondG.split (fun h => ?_) (fun h => ?_)) <;> (try simp only [NM] at h)))
    simp -dsimp (disch := (first | omega | (simp only [LN]; omega))) only [retQ, Tryd.results10, resVals, cellRV, resOf, St.rest, St.freeze, RT, go_sem, ↓reduceIte, seval]
    rw [hz]
end Go.Bw

namespace Go.Bw
open Go.Proofs
theorem idx_succ {α : Type} (p : α → Bool) : ∀ (l : List α) (k : Nat), idx p l (k + 1) = if idx p l k < 0 then -1 else idx p l k + 1
  | [], k => rfl
  | x :: l, k => by
    unfold idx
    split
    · rw [if_neg (by omega)]; omega
    · exact idx_succ p l (k + 1)
theorem findPos_cons (t : Tbl) (x : Row) (l : List Row) (key : Row) : findPos t (x :: l) key = if 0 ≤ cmpRows (keyOf t.pk x) key then 0 else if findPos t l key < 0 then -1 else findPos t l key + 1 := by
  unfold findPos
  rw [idx]
  simp only [atKey, decide_eq_true_eq]
  split
  · rfl
  · exact idx_succ _ l 0
theorem findI_cons (t : Tbl) (x : Row) (l : List Row) (key : Row) : findI t (x :: l) key = if 0 ≤ cmpRows (keyOf t.pk x) key then 0 else findI t l key + 1 := by
  unfold findI
  rw [findPos_cons]
  split
  · simp
  · by_cases h : findPos t l key < 0
    · rw [if_pos h, if_pos h, if_pos (by omega)]; simp
    · rw [if_neg h, if_neg h, if_neg (by omega)]
theorem findB_cons (t : Tbl) (x : Row) (l : List Row) (key : Row) : findB t (x :: l) key = if 0 ≤ cmpRows (keyOf t.pk x) key then cmpRows (keyOf t.pk x) key == 0 else findB t l key := by
  unfold findB
  rw [findPos_cons]
  split
  · rw [if_neg (by omega)]; rfl
  · by_cases h : findPos t l key < 0
    · rw [if_pos h, if_pos h, if_pos (by omega)]
    · have hg : 0 ≤ findPos t l key := by omega
      rw [if_neg h, if_neg h, if_neg (by omega)]
      have e : (findPos t l key + 1).toNat = (findPos t l key).toNat + 1 := by omega
      rw [e]
      simp
theorem upsertR_nil (t : Tbl) (row : Row) : upsertR t [] row = [row] := rfl
theorem upsertR_cons (t : Tbl) (x : Row) (l : List Row) (row : Row) : upsertR t (x :: l) row = if 0 ≤ cmpRows (keyOf t.pk x) (keyOf t.pk row) then (if cmpRows (keyOf t.pk x) (keyOf t.pk row) = 0 then row :: l else row :: x :: l) else x :: upsertR t l row := by
  unfold upsertR
  rw [findB_cons, findI_cons]
  split
  · rename_i h
    by_cases h0 : cmpRows (keyOf t.pk x) (keyOf t.pk row) = 0
    · simp [h0]
    · simp [h0]
  · rename_i h
    rcases find_cases t l (keyOf t.pk row) with ⟨hb, k, hk, hi⟩ | ⟨hb, k, hk, hi⟩
    · rw [hb, hi]
      have e : ((k : Int) + 1).toNat = k + 1 := by omega
      simp [e]
    · rw [hb, hi]
      have e : ((k : Int) + 1).toNat = k + 1 := by omega
      simp [e]

/-- Sorted by key, strictly. -/
def SR (t : Tbl) (rows : List Row) : Prop := rows.Pairwise fun a b => cmpRows (keyOf t.pk a) (keyOf t.pk b) < 0
theorem sr_of {t : Tbl} : ∀ {rows : List Row}, (∀ j, ∀ h : j + 1 < rows.length, cmpRows (keyOf t.pk rows[j]) (keyOf t.pk rows[j + 1]) < 0) → SR t rows
  | [], _ => .nil
  | x :: l, h => by
    have hl : SR t l := sr_of fun j hj => h (j + 1) (by simpa using hj)
    refine .cons (fun y hy => ?_) hl
    cases l with
    | nil => cases hy
    | cons z l =>
      have h0 : cmpRows (keyOf t.pk x) (keyOf t.pk z) < 0 := by simpa using h 0 (by simp)
      rcases List.mem_cons.1 hy with rfl | hy
      · exact h0
      · exact cmpRows_is.trans _ _ _ h0 ((List.pairwise_cons.1 hl).1 y hy)
theorem sr_get {t : Tbl} {rows : List Row} (h : SR t rows) : ∀ j, ∀ hj : j + 1 < rows.length, cmpRows (keyOf t.pk rows[j]) (keyOf t.pk rows[j + 1]) < 0 :=
  fun j hj => List.pairwise_iff_getElem.1 h j (j + 1) (by omega) hj (by omega)
theorem sortedR_sr {t : Tbl} {rows : List Row} : sortedR t rows = true ↔ SR t rows := by
  rw [sortedR_iff]
  exact ⟨sr_of, sr_get⟩

theorem upsertR_findB (t : Tbl) (row : Row) : ∀ (l : List Row), findB t (upsertR t l row) (keyOf t.pk row) = true
  | [] => by
    rw [upsertR_nil, findB_cons, if_pos (by rw [cmpRows_is.refl]; omega), cmpRows_is.refl]; rfl
  | x :: l => by
    have hr := cmpRows_is.refl (keyOf t.pk row)
    rw [upsertR_cons]
    split
    · split <;> (rw [findB_cons, if_pos (by omega), hr]; rfl)
    · rename_i h0
      rw [findB_cons, if_neg h0]
      exact upsertR_findB t row l
theorem mem_upsertR {t : Tbl} {row : Row} : ∀ {l : List Row} {x : Row}, x ∈ upsertR t l row → x = row ∨ x ∈ l
  | [], x, h => by rw [upsertR_nil] at h; exact .inl (by simpa using h)
  | y :: l, x, h => by
    rw [upsertR_cons] at h
    split at h
    · split at h
      · rcases List.mem_cons.1 h with h | h
        · exact .inl h
        · exact .inr (List.mem_cons_of_mem _ h)
      · rcases List.mem_cons.1 h with h | h
        · exact .inl h
        · exact .inr h
    · rcases List.mem_cons.1 h with h | h
      · exact .inr (h ▸ List.mem_cons_self ..)
      · exact (mem_upsertR h).imp id (List.mem_cons_of_mem _)
theorem upsertR_length (t : Tbl) (row : Row) : ∀ (l : List Row), (upsertR t l row).length ≤ l.length + 1
  | [] => Nat.le_refl _
  | y :: l => by
    rw [upsertR_cons]
    have := upsertR_length t row l
    split
    · split <;> simp
    · simp; omega

theorem upsertR_findI (t : Tbl) (row : Row) : ∀ (l : List Row), ∃ k : Nat, findI t (upsertR t l row) (keyOf t.pk row) = (k : Int) ∧ k < (upsertR t l row).length ∧ (upsertR t l row)[k]? = some row
  | [] => by
    refine ⟨0, ?_, ?_, ?_⟩
    · rw [upsertR_nil, findI_cons, if_pos (by rw [cmpRows_is.refl]; exact Int.le_refl _)]; rfl
    · simp [upsertR_nil]
    · simp [upsertR_nil]
  | x :: l => by
    rw [upsertR_cons]
    have h0 : 0 ≤ cmpRows (keyOf t.pk row) (keyOf t.pk row) := by rw [cmpRows_is.refl]; exact Int.le_refl _
    by_cases h : 0 ≤ cmpRows (keyOf t.pk x) (keyOf t.pk row)
    · rw [if_pos h]
      by_cases e : cmpRows (keyOf t.pk x) (keyOf t.pk row) = 0
      · rw [if_pos e]
        exact ⟨0, by rw [findI_cons, if_pos h0]; rfl, by simp, by simp⟩
      · rw [if_neg e]
        exact ⟨0, by rw [findI_cons, if_pos h0]; rfl, by simp, by simp⟩
    · rw [if_neg h]
      obtain ⟨k, h1, h2, h3⟩ := upsertR_findI t row l
      exact ⟨k + 1, by rw [findI_cons, if_neg h, h1]; simp, by simpa using h2, by simpa using h3⟩
theorem upsertR_sr {t : Tbl} {row : Row} : ∀ {l : List Row}, SR t l → SR t (upsertR t l row)
  | [], _ => by rw [upsertR_nil]; exact List.pairwise_singleton _ _
  | x :: l, h => by
    obtain ⟨h1, h2⟩ := List.pairwise_cons.1 h
    rw [upsertR_cons]
    by_cases hc : 0 ≤ cmpRows (keyOf t.pk x) (keyOf t.pk row)
    · rw [if_pos hc]
      by_cases e : cmpRows (keyOf t.pk x) (keyOf t.pk row) = 0
      · rw [if_pos e]
        have ek := (cmpRows_is.eq0 _ _).1 e
        refine List.pairwise_cons.2 ⟨fun y hy => ?_, h2⟩
        rw [← ek]
        exact h1 y hy
      · rw [if_neg e]
        have hlt : cmpRows (keyOf t.pk row) (keyOf t.pk x) < 0 := by
          have := cmpRows_is.anti (keyOf t.pk x) (keyOf t.pk row)
          omega
        refine List.pairwise_cons.2 ⟨fun y hy => ?_, h⟩
        rcases List.mem_cons.1 hy with rfl | hy
        · exact hlt
        · exact cmpRows_is.trans _ _ _ hlt (h1 y hy)
    · rw [if_neg hc]
      refine List.pairwise_cons.2 ⟨fun y hy => ?_, upsertR_sr h2⟩
      rcases mem_upsertR hy with rfl | hy
      · omega
      · exact h1 y hy
theorem upsertR_other {t : Tbl} {row key : Row} (hk : key ≠ keyOf t.pk row) : ∀ (l : List Row), findB t (upsertR t l row) key = findB t l key
  | [] => by
    rw [upsertR_nil, findB_cons]
    split
    · have : cmpRows (keyOf t.pk row) key ≠ 0 := fun e => hk ((cmpRows_is.eq0 _ _).1 e).symm
      simp [findB, findPos, idx, this]
    · rfl
  | x :: l => by
    have hne : cmpRows (keyOf t.pk row) key ≠ 0 := fun e => hk ((cmpRows_is.eq0 _ _).1 e).symm
    rw [upsertR_cons]
    by_cases hc : 0 ≤ cmpRows (keyOf t.pk x) (keyOf t.pk row)
    · rw [if_pos hc]
      by_cases e : cmpRows (keyOf t.pk x) (keyOf t.pk row) = 0
      · rw [if_pos e, findB_cons, findB_cons, (cmpRows_is.eq0 _ _).1 e]
      · rw [if_neg e, findB_cons]
        by_cases h2 : 0 ≤ cmpRows (keyOf t.pk row) key
        · rw [if_pos h2, findB_cons]
          have h3 : 0 < cmpRows (keyOf t.pk x) key := by
            have a1 := cmpRows_is.anti (keyOf t.pk x) (keyOf t.pk row)
            have a2 := cmpRows_is.anti (keyOf t.pk row) key
            have a3 := cmpRows_is.anti (keyOf t.pk x) key
            have := cmpRows_is.trans key (keyOf t.pk row) (keyOf t.pk x) (by omega) (by omega)
            omega
          rw [if_pos (by omega)]
          have n1 : (cmpRows (keyOf t.pk row) key == 0) = false := by simpa using hne
          have n2 : (cmpRows (keyOf t.pk x) key == 0) = false := by simp; omega
          rw [n1, n2]
        · rw [if_neg h2]
    · rw [if_neg hc, findB_cons, findB_cons, upsertR_other hk l]
end Go.Bw

namespace Go.Bw
open Go.Proofs
attribute [local go_sem ↓] VOps_nil VOps_cons VOp_callJ VVal_callH VOps_guard GOn_tt GOn_ff GOn_tf GOn_ft GOn_not GOn_none HOn_none HOn_tt HOn_ff HOn_tf HOn_ft HOn_not VHead_nil VHead_cons VHead_guard VVal_move VVal_assign VVal_pickE pickK_true pickK_false VVal_not VVal_neg negK_int VVal_load loadK_fz loadK_ptr loadK_eptr VVal_fieldAddr VVal_field VVal_indexAddr idxK_sl idxK_ref VVal_index indexK_str VVal_extract VVal_binOp binK_one binK_agg VVal_build VVal_buildSlice VVal_makeFunc VVal_slice sliceK_str sliceK_sl sliceK_nil sliceK_ref VVal_slice3 VVal_nilCheck VVal_convert convKk_int convKk_str VVal_len VVal_max VVal_min VOp_assign assignK_int assignK_bool assignK_str assignK_clo assignK_sl assignK_nil assignK_ref assignK_agg assignK_fz assignK_ptr assignK_eptr assignK_any VOp_box VOp_alloc VOp_store storeK_ptr storeK_eptr VOp_buildSlice VOp_append appK_rr appK_rs appK_rn appK_ri appK_nr appK_ns appK_nn appK_ni appStd_eq VOp_copy copyK_ref VOp_clear clearK_ref VOp_cap VOp_eqNil VOp_move VOp_pick VOp_not VOp_neg VOp_load VOp_fieldAddr VOp_field VOp_indexAddr VOp_index VOp_extract VOp_binTmp VOp_binInt VOp_binStr VOp_build VOp_makeFunc VOp_slice VOp_nilCheck VOp_convert VOp_len VOp_max VOp_min mO_some mT_some pk_some pk_none look_cons del_cons
attribute [local go_sem] guardB gOf int_bne beq_true beq_false Bool.not_not gSlot pickK_true pickK_false negK_int loadK_fz loadK_ptr loadK_eptr idxK_sl idxK_ref indexK_str binK_one binK_agg sliceK_str sliceK_sl sliceK_nil sliceK_ref convKk_int convKk_str maxL minL assignK_int assignK_bool assignK_str assignK_clo assignK_sl assignK_nil assignK_ref assignK_agg assignK_fz assignK_ptr assignK_eptr assignK_any nilRow_eq takeRow_eq appended_eq storeK_ptr storeK_eptr store_mk appIn_eq appMk_eq marked_eq ovOut_nil ovOut_cons ovIn_nil ovIn_cons padRow_eq ysC capK_nil capK_ref ioSt_mk outB_nil outR_nil outB outR inB_nil inB_cons inR_nil inR_cons L.kl L.kl0 L.ids L.ids0 Option.getD_some evalO constA mO_some mT_some put_mk putO_some putO_none okD_some okD_none pk_some pk_none look_nil del_nil sput noBox_mk noRow_mk newBox_eq newRow0_eq St.killRow RowC.kill rowMap_mk rowOf ovAll ovAdd ovDel ovGet ovShift dstOf ysOf overlay_nil overlay_nil' overlay A.map V.map L.noPtr L.noPtr0 L.noRow L.noRow0 L.peek L.norm L.flat clos_int clos_bool clos_str clos_sl clos_nil clos_any clos_fz L.clos L.isFz L.kd moveL fieldOff eqCells eqCell eqOp oneOf boolOf intOfA tupOf vOf aggOf isPtrLike isSlice lenKind lenL nL elemTI loadV asV binL intBin intDivL shrL boolBin strBin strAdd boundN partCells fillL placesOf setL chunks repL capsOf capL callOf argsOf frzV_int frzV_bool frzV_str frzV_sl frzV_nil frzV_fz frzV_any frzV_own frzV_clo frzV_ref frzV_eptr frzV_ptr frzRow_nil frzRow_ov frzRs_nil frzRs_cons frzCs_nil frzCs_cons frzO_some frzO_none frzN_int frzN_bool frzN_str frzN_sl frzN_nil frzN_any frzN_own List.map_cons List.map_nil List.cons_append List.nil_append List.append_nil List.length_cons List.length_nil List.length_map List.length_append List.headD_cons List.tail_cons List.getElem?_cons_zero List.getElem?_cons_succ List.drop_zero List.drop_succ_cons List.drop_nil List.take_succ_cons List.take_zero List.take_nil List.take_length List.filter_cons List.filter_nil List.elem_cons List.elem_nil List.all_cons List.all_nil Option.bind_some Option.map_some Option.some.injEq bne_self_eq_false beq_self_eq_true if_true if_false Bool.false_eq_true true_and and_true and_self Nat.zero_add Nat.add_zero Nat.zero_le Int.toNat_natCast Int.toNat_zero Option.isSome_some List.getElem?_toArray decide_true decide_false ge_iff_le gt_iff_lt Bool.not_true Bool.not_false Nat.le_refl Bool.and_true Bool.true_and Bool.and_false Bool.false_and eVal eRow eRow1 eRows eInt1 eInts eCol eCols eTbl eTbls eFK eFKs eCon eCons eSch eRel eInst eChg eChgs szOf getD_map_lt wrap_nat wrap_in List.take_of_length_le frz_eVal frz_eRow1 frz_eInt1 frz_eCol frz_eTbl frz_eFK frz_eCon frz_eRel frz_eChg noOwn_nil noOwn_cons noOwn_append L.isOwn noOwn_eVal noOwn_eRow1 noOwn_eInt1 noOwn_eCol noOwn_eTbl noOwn_eFK noOwn_eCon noOwn_eRel noOwn_eChg convK_2 convK_3 convK_5 convK_12 convK_21 convK_57 convK_155 convK_162 convK_166 TT_2 TT_3 TT_4 TT_5 TT_9 TT_12 TT_13 TT_21 TT_22 TT_23 TT_24 TT_25 TT_26 TT_27 TT_28 TT_38 TT_39 TT_40 TT_41 TT_42 TT_45 TT_46 TT_47 TT_48 TT_49 TT_50 TT_51 TT_52 TT_54 TT_55 TT_56 TT_57 TT_65 TT_66 TT_82 TT_83 TT_84 TT_100 TT_101 TT_118 TT_155 TT_162 TT_166 boolTy_4 eqK_46 eqK_50 eqK_52
attribute [local congr] VOps.congr VHead.congr VOp.congr VVal.congr pk.congr assignK.congr appK.congr appStd.congr copyK.congr clearK.congr storeK.congr loadK.congr idxK.congr sliceK.congr indexK.congr binK.congr convKk.congr
set_option maxHeartbeats 16000000 in
theorem relationsWork_sat : Sat Tryd.prog 9 [] (.v (oB true)) := by
  have e1 : upsertR peopleT [] [⟨1, 2, ByteArray.empty⟩, ⟨0, 0, ByteArray.empty⟩] = [[⟨1, 2, ByteArray.empty⟩, ⟨0, 0, ByteArray.empty⟩]] := by kernel_rfl
  have e2 : upsertR peopleT [[⟨1, 2, ByteArray.empty⟩, ⟨0, 0, ByteArray.empty⟩]] [⟨1, 1, ByteArray.empty⟩, ⟨0, 0, ByteArray.empty⟩] = [[⟨1, 1, ByteArray.empty⟩, ⟨0, 0, ByteArray.empty⟩], [⟨1, 2, ByteArray.empty⟩, ⟨0, 0, ByteArray.empty⟩]] := by kernel_rfl
  have e3 : findI peopleT [[⟨1, 1, ByteArray.empty⟩, ⟨0, 0, ByteArray.empty⟩], [⟨1, 2, ByteArray.empty⟩, ⟨0, 0, ByteArray.empty⟩]] [⟨1, 2, ByteArray.empty⟩] = 1 := by kernel_rfl
  have e4 : findB peopleT [[⟨1, 1, ByteArray.empty⟩, ⟨0, 0, ByteArray.empty⟩], [⟨1, 2, ByteArray.empty⟩, ⟨0, 0, ByteArray.empty⟩]] [⟨1, 2, ByteArray.empty⟩] = true := by kernel_rfl
  have s1 := relUpsert_sat peopleT [] [⟨1, 2, ByteArray.empty⟩, ⟨0, 0, ByteArray.empty⟩] (by decide) (by decide) (by decide) (by decide)
  have s2 := relUpsert_sat peopleT [[⟨1, 2, ByteArray.empty⟩, ⟨0, 0, ByteArray.empty⟩]] [⟨1, 1, ByteArray.empty⟩, ⟨0, 0, ByteArray.empty⟩] (by decide) (by decide) (by decide) (by decide)
  have s3 := find_sat peopleT [[⟨1, 1, ByteArray.empty⟩, ⟨0, 0, ByteArray.empty⟩], [⟨1, 2, ByteArray.empty⟩, ⟨0, 0, ByteArray.empty⟩]] [⟨1, 2, ByteArray.empty⟩] (by decide) (by decide) (by decide)
  rw [e1] at s1
  rw [e2] at s2
  rw [e3, e4] at s3
  refine sat_of_body tyOk Tryd.func9 rfl (by kernel_rfl) ⟨Nat.le_of_ble_eq_true rfl, Nat.le_of_ble_eq_true rfl⟩ fun w0 m0 F0 => ?_
  simp only [Tryd.ntmps9, envOf, Nat.reduceAdd]
  repeat' (first
    | ((first
      | with_reducible refine AWP.regionL tyOk fun K hK => ?_
      | ((with_reducible first | refine GOn.isT ?_ ?_ | refine HOn.isT ?_ ?_ | refine pickK.isT ?_ ?_); focus (first | with_reducible rfl | with_reducible assumption | (simp only [NM, LN]; first | done | with_reducible assumption | omega)))
      | ((with_reducible first | refine GOn.isF ?_ ?_ | refine HOn.isF ?_ ?_ | refine pickK.isF ?_ ?_); focus (first | with_reducible rfl | with_reducible assumption | (simp only [NM, LN]; first | done | with_reducible assumption | omega)))
      | ((with_reducible first | refine GOn.split (fun h => ?_) (fun h => ?_) | refine HOn.split (fun h => ?_) (fun h => ?_) | refine pickK.split (fun h => ?_) (fun h => ?_)) <;> (try simp only [NM] at h))
      | with_reducible refine AWP.drawAll tyOk mixed 6 (by kernel_rfl) fun K hK => ?_
      | ((with_reducible refine CallJ.is ?_); (first | refine CallJ.pure (people_sat) ?_ | refine CallJ.pure (integer_sat _) ?_ | refine CallJ.pure (s1) ?_ | refine CallJ.pure (s2) ?_ | refine CallJ.pure (s3) ?_ | ((apply CallJ.frozI [] []); (focus (simp -dsimp (disch := (first | omega | (simp only [LN]; omega))) only [go_sem, ↓reduceIte, seval, RT, St.rest, St.freeze]; rfl)); (focus (first | exact (people_sat) | exact (integer_sat _) | exact (s1) | exact (s2) | exact (s3))))))
      | ((with_reducible refine CallH.is ?_); (first | refine CallH.intro (people_sat) ?_ | refine CallH.intro (integer_sat _) ?_ | refine CallH.intro (s1) ?_ | refine CallH.intro (s2) ?_ | refine CallH.intro (s3) ?_))) <;> simp -dsimp (disch := (first | omega | (simp only [LN]; omega))) only [go_sem, ↓reduceIte, seval, RT, St.rest, St.freeze])
    | ((with_reducible refine hK _ ?_); clear hK K)
    | (with_reducible first | refine AWP.seq ?_ | refine thenQ_normal ?_ | refine AWP.block ?_ | refine AWP.skip ?_ | refine AWP.ret ?_ | refine thenQ_ret ?_ | refine blockQ_ret ?_ | refine AWP.exit ?_ | refine thenQ_exit ?_ | refine blockQ_normal ?_ | refine blockQ_exit ?_)
    | refine blockQ_exit_ne rfl ?_
    | (with_reducible refine And.intro (by (first | with_reducible rfl | with_reducible assumption | omega | (simp only [LN]; first | done | with_reducible rfl | omega) | (simp only [NM, LN]; first | done | with_reducible assumption | omega) | (and_intros <;> first | with_reducible assumption | omega | (simp only [LN]; omega)) | fail)) ?_)
    | ((with_reducible refine AWP.condG (T := TT) (b := ?_) ?_ ?_); rotate_left; exact rfl)
    | (with_reducible first | refine CondG.t ?_ | refine CondG.f ?_ | refine CondG.not ?_)
    | ((with_reducible refine CondG.isT ?_ ?_); focus (first | with_reducible rfl | with_reducible assumption | (simp only [NM, LN]; first | done | with_reducible assumption | omega)))
    | ((with_reducible refine CondG.isF ?_ ?_); focus (first | with_reducible rfl | with_reducible assumption | (simp only [NM, LN]; first | done | with_reducible assumption | omega)))
    | ((with_reducible refine CondG.split (fun h => ?_) (fun h => ?_)) <;> (try simp only [NM] at h)))
  simp -dsimp (disch := (first | omega | (simp only [LN]; omega))) only [retQ, Tryd.results9, resVals, cellRV, resOf, St.rest, St.freeze, RT, go_sem, ↓reduceIte, seval]

theorem keyCell_fits {r : Row} (h : RowFits r) (c : Int) : ValFits (keyCell r c) := by
  have hz : ValFits zV := ⟨by decide, by decide, by decide, by decide, by decide⟩
  unfold keyCell
  split
  · rename_i hc
    rw [List.getD_eq_getElem?_getD]
    cases hg : r[c.toNat]? with
    | none => exact hz
    | some v => exact h.v v (List.mem_of_getElem? hg)
  · exact hz
theorem keyOf_fits {pk : List Int} {r : Row} (h : RowFits r) (hp : pk.length ≤ 1048576) : RowFits (keyOf pk r) := by
  refine ⟨by rw [keyOf_length]; exact hp, fun v hv => ?_⟩
  unfold keyOf at hv
  obtain ⟨c, _, rfl⟩ := List.mem_map.1 hv
  exact keyCell_fits h c
set_option maxHeartbeats 16000000 in
theorem relationUpsertFind_sat (t : Tbl) (rows : List Row) (row other : Row) (h1 : t.pk.length ≤ 1048576) (h2 : rows.length ≤ 1048576) (h3 : ∀ r ∈ rows, r.length ≤ 1048576) (hr : RowFits row) (ho : RowFits other) :
    Sat Tryd.prog 3 [.agg (eTbl t), .one (eRows rows), .one (eRow row), .one (eRow other)] (.v (oB true)) := by
  have b1 := hr.n
  have b2 := ho.n
  have h4 : ∀ r ∈ rows, r.length ≤ 140737488355328 := fun r hr => Nat.le_trans (h3 r hr) (by omega)
  have h5 : ∀ r ∈ rows, r.length ≤ 1099511627776 := fun r hr => Nat.le_trans (h3 r hr) (by omega)
  have hk : (keyOf t.pk row).length ≤ 140737488355328 := by rw [keyOf_length]; omega
  have hko : (keyOf t.pk other).length ≤ 140737488355328 := by rw [keyOf_length]; omega
  cases hs : sortedR t rows with
  | false =>
    refine sat_of_body tyOk Tryd.func3 rfl (by kernel_rfl) ⟨Nat.le_of_ble_eq_true rfl, Nat.le_of_ble_eq_true rfl⟩ fun w0 m0 F0 => ?_
    simp only [Tryd.ntmps3, envOf, Nat.reduceAdd]
    repeat' (first
      | ((first
        | with_reducible refine AWP.regionL tyOk fun K hK => ?_
        | ((with_reducible first | refine GOn.isT ?_ ?_ | refine HOn.isT ?_ ?_ | refine pickK.isT ?_ ?_); focus (first | with_reducible rfl | with_reducible assumption | (simp only [NM, LN]; first | done | with_reducible assumption | omega)))
        | ((with_reducible first | refine GOn.isF ?_ ?_ | refine HOn.isF ?_ ?_ | refine pickK.isF ?_ ?_); focus (first | with_reducible rfl | with_reducible assumption | (simp only [NM, LN]; first | done | with_reducible assumption | omega)))
        | ((with_reducible first | refine GOn.split (fun h => ?_) (fun h => ?_) | refine HOn.split (fun h => ?_) (fun h => ?_) | refine pickK.split (fun h => ?_) (fun h => ?_)) <;> (try simp only [NM] at h))
        | with_reducible refine AWP.drawAll tyOk mixed 6 (by kernel_rfl) fun K hK => ?_
        | ((with_reducible refine CallJ.is ?_); (first | refine CallJ.pure (relationsWork_sat) ?_ | refine CallJ.pure (sorted_sat t rows (by omega) (by omega) h4) ?_ | ((apply CallJ.lentI); (focus (simp -dsimp (disch := (first | omega | (simp only [LN]; omega))) only [go_sem, ↓reduceIte, seval, hs]; rfl)); (focus (first | exact (relationsWork_sat) | exact (sorted_sat t rows (by omega) (by omega) h4))))))
        | ((with_reducible refine CallH.is ?_); (first | refine CallH.intro (relationsWork_sat) ?_ | refine CallH.intro (sorted_sat t rows (by omega) (by omega) h4) ?_))) <;> simp -dsimp (disch := (first | omega | (simp only [LN]; omega))) only [go_sem, ↓reduceIte, seval, hs])
      | ((with_reducible refine hK _ ?_); clear hK K)
      | (with_reducible first | refine AWP.seq ?_ | refine thenQ_normal ?_ | refine AWP.block ?_ | refine AWP.skip ?_ | refine AWP.ret ?_ | refine thenQ_ret ?_ | refine blockQ_ret ?_ | refine AWP.exit ?_ | refine thenQ_exit ?_ | refine blockQ_normal ?_ | refine blockQ_exit ?_)
      | refine blockQ_exit_ne rfl ?_
      | (with_reducible refine And.intro (by (first | with_reducible rfl | with_reducible assumption | omega | (simp only [LN]; first | done | with_reducible rfl | omega) | (simp only [NM, LN]; first | done | with_reducible assumption | omega) | (and_intros <;> first | with_reducible assumption | omega | (simp only [LN]; omega)) | fail)) ?_)
      | ((with_reducible refine AWP.condG (T := TT) (b := ?_) ?_ ?_); rotate_left; exact rfl)
      | (with_reducible first | refine CondG.t ?_ | refine CondG.f ?_ | refine CondG.not ?_)
      | ((with_reducible refine CondG.isT ?_ ?_); focus (first | with_reducible rfl | with_reducible assumption | (simp only [NM, LN]; first | done | with_reducible assumption | omega)))
      | ((with_reducible refine CondG.isF ?_ ?_); focus (first | with_reducible rfl | with_reducible assumption | (simp only [NM, LN]; first | done | with_reducible assumption | omega)))
      | ((with_reducible refine CondG.split (fun h => ?_) (fun h => ?_)) <;> (try simp only [NM] at h)))
    simp -dsimp (disch := (first | omega | (simp only [LN]; omega))) only [retQ, Tryd.results3, resVals, cellRV, resOf, St.rest, St.freeze, RT, go_sem, ↓reduceIte, seval]
  | true =>
    have sr := sortedR_sr.1 hs
    have u1 := upsertR_length t row rows
    have u2 : ∀ r ∈ upsertR t rows row, r.length ≤ 140737488355328 := fun r hr' => (mem_upsertR hr').elim (fun e => e ▸ by omega) (h4 r)
    have e2 : sortedR t (upsertR t rows row) = true := sortedR_sr.2 (upsertR_sr sr)
    obtain ⟨k, f1, f2, f3⟩ := upsertR_findI t row rows
    have f4 := upsertR_findB t row rows
    have f5 : (upsertR t rows row)[k]'f2 = row := by
      have := List.getElem?_eq_getElem f2
      rw [this] at f3
      exact Option.some.inj f3
    have s1 := find_sat t (upsertR t rows row) (keyOf t.pk row) (by omega) (by omega) hk
    rw [f1, f4] at s1
    have s2 := relUpsert_sat t rows row (by omega) (by omega) (by omega) h5
    have s3 := encode_sat row hr
    have s4 := encode_sat (keyOf t.pk row) (keyOf_fits hr h1)
    have s5 := encode_sat (keyOf t.pk other) (keyOf_fits ho h1)
    have s6 := rKeyOf_sat t row (by omega) (by omega)
    have s7 := rKeyOf_sat t other (by omega) (by omega)
    have s8 := sorted_sat t (upsertR t rows row) (by omega) (by omega) u2
    rw [e2] at s8
    have s9 := find_sat t rows (keyOf t.pk other) (by omega) (by omega) hko
    have s10 := find_sat t (upsertR t rows row) (keyOf t.pk other) (by omega) (by omega) hko
    cases he : (encB (keyOf t.pk other)).toList == (encB (keyOf t.pk row)).toList with
    | true =>
      generalize upsertR t rows row = out at *
      refine sat_of_body tyOk Tryd.func3 rfl (by kernel_rfl) ⟨Nat.le_of_ble_eq_true rfl, Nat.le_of_ble_eq_true rfl⟩ fun w0 m0 F0 => ?_
      simp only [Tryd.ntmps3, envOf, Nat.reduceAdd]
      repeat' (first
        | ((first
          | with_reducible refine AWP.regionL tyOk fun K hK => ?_
          | ((with_reducible first | refine GOn.isT ?_ ?_ | refine HOn.isT ?_ ?_ | refine pickK.isT ?_ ?_); focus (first | with_reducible rfl | with_reducible assumption | (simp only [NM, LN]; first | done | with_reducible assumption | omega)))
          | ((with_reducible first | refine GOn.isF ?_ ?_ | refine HOn.isF ?_ ?_ | refine pickK.isF ?_ ?_); focus (first | with_reducible rfl | with_reducible assumption | (simp only [NM, LN]; first | done | with_reducible assumption | omega)))
          | with_reducible refine AWP.drawAll tyOk mixed 8 (by kernel_rfl) fun K hK => ?_
          | ((with_reducible refine CallJ.is ?_); (first | refine CallJ.pure (relationsWork_sat) ?_ | refine CallJ.pure (sorted_sat t rows (by omega) (by omega) h4) ?_ | refine CallJ.pure (s1) ?_ | refine CallJ.pure (s2) ?_ | refine CallJ.pure (s3) ?_ | refine CallJ.pure (s4) ?_ | refine CallJ.pure (s5) ?_ | refine CallJ.pure (s6) ?_ | refine CallJ.pure (s7) ?_ | refine CallJ.pure (s8) ?_ | ((apply CallJ.lentI); (focus (simp -dsimp (disch := (first | omega | (simp only [LN]; omega))) only [go_sem, ↓reduceIte, seval, hs, he, f5, beq_self_eq_true, Option.getD_none]; rfl)); (focus (first | exact (relationsWork_sat) | exact (sorted_sat t rows (by omega) (by omega) h4) | exact (s1) | exact (s2) | exact (s3) | exact (s4) | exact (s5) | exact (s6) | exact (s7) | exact (s8))))))
          | ((with_reducible refine CallH.is ?_); (first | refine CallH.intro (relationsWork_sat) ?_ | refine CallH.intro (sorted_sat t rows (by omega) (by omega) h4) ?_ | refine CallH.intro (s1) ?_ | refine CallH.intro (s2) ?_ | refine CallH.intro (s3) ?_ | refine CallH.intro (s4) ?_ | refine CallH.intro (s5) ?_ | refine CallH.intro (s6) ?_ | refine CallH.intro (s7) ?_ | refine CallH.intro (s8) ?_))) <;> simp -dsimp (disch := (first | omega | (simp only [LN]; omega))) only [go_sem, ↓reduceIte, seval, hs, he, f5, beq_self_eq_true, Option.getD_none])
        | ((with_reducible refine hK _ ?_); clear hK K)
        | (with_reducible first | refine AWP.seq ?_ | refine thenQ_normal ?_ | refine AWP.block ?_ | refine AWP.skip ?_ | refine AWP.ret ?_ | refine thenQ_ret ?_ | refine blockQ_ret ?_ | refine AWP.exit ?_ | refine thenQ_exit ?_ | refine blockQ_normal ?_ | refine blockQ_exit ?_)
        | refine blockQ_exit_ne rfl ?_
        | (with_reducible refine And.intro (by (first | with_reducible rfl | with_reducible assumption | omega | (simp only [LN]; first | done | with_reducible rfl | omega) | (simp only [NM, LN]; first | done | with_reducible assumption | omega) | (and_intros <;> first | with_reducible assumption | omega | (simp only [LN]; omega)) | fail)) ?_)
        | ((with_reducible refine AWP.condG (T := TT) (b := ?_) ?_ ?_); rotate_left; exact rfl)
        | (with_reducible first | refine CondG.t ?_ | refine CondG.f ?_ | refine CondG.not ?_)
        | ((with_reducible refine CondG.isT ?_ ?_); focus (first | with_reducible rfl | with_reducible assumption | (simp only [NM, LN]; first | done | with_reducible assumption | omega)))
        | ((with_reducible refine CondG.isF ?_ ?_); focus (first | with_reducible rfl | with_reducible assumption | (simp only [NM, LN]; first | done | with_reducible assumption | omega))))
      all_goals simp -dsimp (disch := (first | omega | (simp only [LN]; omega))) only [retQ, Tryd.results3, resVals, cellRV, resOf, St.rest, St.freeze, RT, go_sem, ↓reduceIte, seval]
    | false =>
      have hne : keyOf t.pk other ≠ keyOf t.pk row := fun e => by
        rw [e] at he
        simp at he
      rw [upsertR_other hne] at s10
      generalize upsertR t rows row = out at *
      refine sat_of_body tyOk Tryd.func3 rfl (by kernel_rfl) ⟨Nat.le_of_ble_eq_true rfl, Nat.le_of_ble_eq_true rfl⟩ fun w0 m0 F0 => ?_
      simp only [Tryd.ntmps3, envOf, Nat.reduceAdd]
      repeat' (first
        | ((first
          | with_reducible refine AWP.regionL tyOk fun K hK => ?_
          | ((with_reducible first | refine GOn.isT ?_ ?_ | refine HOn.isT ?_ ?_ | refine pickK.isT ?_ ?_); focus (first | with_reducible rfl | with_reducible assumption | (simp only [NM, LN]; first | done | with_reducible assumption | omega)))
          | ((with_reducible first | refine GOn.isF ?_ ?_ | refine HOn.isF ?_ ?_ | refine pickK.isF ?_ ?_); focus (first | with_reducible rfl | with_reducible assumption | (simp only [NM, LN]; first | done | with_reducible assumption | omega)))
          | with_reducible refine AWP.drawAll tyOk mixed 8 (by kernel_rfl) fun K hK => ?_
          | ((with_reducible refine CallJ.is ?_); (first | refine CallJ.pure (relationsWork_sat) ?_ | refine CallJ.pure (sorted_sat t rows (by omega) (by omega) h4) ?_ | refine CallJ.pure (s1) ?_ | refine CallJ.pure (s2) ?_ | refine CallJ.pure (s3) ?_ | refine CallJ.pure (s4) ?_ | refine CallJ.pure (s5) ?_ | refine CallJ.pure (s6) ?_ | refine CallJ.pure (s7) ?_ | refine CallJ.pure (s8) ?_ | refine CallJ.pure (s9) ?_ | refine CallJ.pure (s10) ?_ | ((apply CallJ.lentI); (focus (simp -dsimp (disch := (first | omega | (simp only [LN]; omega))) only [go_sem, ↓reduceIte, seval, hs, he, f5, beq_self_eq_true, Option.getD_none]; rfl)); (focus (first | exact (relationsWork_sat) | exact (sorted_sat t rows (by omega) (by omega) h4) | exact (s1) | exact (s2) | exact (s3) | exact (s4) | exact (s5) | exact (s6) | exact (s7) | exact (s8) | exact (s9) | exact (s10))))))
          | ((with_reducible refine CallH.is ?_); (first | refine CallH.intro (relationsWork_sat) ?_ | refine CallH.intro (sorted_sat t rows (by omega) (by omega) h4) ?_ | refine CallH.intro (s1) ?_ | refine CallH.intro (s2) ?_ | refine CallH.intro (s3) ?_ | refine CallH.intro (s4) ?_ | refine CallH.intro (s5) ?_ | refine CallH.intro (s6) ?_ | refine CallH.intro (s7) ?_ | refine CallH.intro (s8) ?_ | refine CallH.intro (s9) ?_ | refine CallH.intro (s10) ?_))) <;> simp -dsimp (disch := (first | omega | (simp only [LN]; omega))) only [go_sem, ↓reduceIte, seval, hs, he, f5, beq_self_eq_true, Option.getD_none])
        | ((with_reducible refine hK _ ?_); clear hK K)
        | (with_reducible first | refine AWP.seq ?_ | refine thenQ_normal ?_ | refine AWP.block ?_ | refine AWP.skip ?_ | refine AWP.ret ?_ | refine thenQ_ret ?_ | refine blockQ_ret ?_ | refine AWP.exit ?_ | refine thenQ_exit ?_ | refine blockQ_normal ?_ | refine blockQ_exit ?_)
        | refine blockQ_exit_ne rfl ?_
        | (with_reducible refine And.intro (by (first | with_reducible rfl | with_reducible assumption | omega | (simp only [LN]; first | done | with_reducible rfl | omega) | (simp only [NM, LN]; first | done | with_reducible assumption | omega) | (and_intros <;> first | with_reducible assumption | omega | (simp only [LN]; omega)) | fail)) ?_)
        | ((with_reducible refine AWP.condG (T := TT) (b := ?_) ?_ ?_); rotate_left; exact rfl)
        | (with_reducible first | refine CondG.t ?_ | refine CondG.f ?_ | refine CondG.not ?_)
        | ((with_reducible refine CondG.isT ?_ ?_); focus (first | with_reducible rfl | with_reducible assumption | (simp only [NM, LN]; first | done | with_reducible assumption | omega)))
        | ((with_reducible refine CondG.isF ?_ ?_); focus (first | with_reducible rfl | with_reducible assumption | (simp only [NM, LN]; first | done | with_reducible assumption | omega))))
      all_goals simp -dsimp (disch := (first | omega | (simp only [LN]; omega))) only [retQ, Tryd.results3, resVals, cellRV, resOf, St.rest, St.freeze, RT, go_sem, ↓reduceIte, seval]
end Go.Bw

namespace Go.Bw
open Go.RowKit
/-- The memory of a world, all of it read. -/
def memOf (w : World) : Mem := fun x => w.cell? x
def CRd (w : World) (cs : List Value) (ls : List L) : Prop := cs.length = ls.length ∧ ∀ (j : Nat) (l : L), ls[j]? = some l → ∃ v, cs[j]? = some v ∧ Rep (memOf w) v l

theorem CRd.append {w : World} {cs cs' : List Value} {ls ls' : List L} (h : CRd w cs ls) (h' : CRd w cs' ls') : CRd w (cs ++ cs') (ls ++ ls') := by
  refine ⟨by simp [h.1, h'.1], fun j l hj => ?_⟩
  rcases Nat.lt_or_ge j ls.length with hlt | hge
  · rw [List.getElem?_append_left hlt] at hj
    rw [List.getElem?_append_left (by rw [h.1]; exact hlt)]
    exact h.2 j l hj
  · rw [List.getElem?_append_right hge] at hj
    rw [List.getElem?_append_right (by rw [h.1]; exact hge), h.1]
    exact h'.2 _ l hj

/-- What reads at type t reads as e says, of some x that is good. -/
structure Rd (P : Program) (w : World) (t : TypeId) {α : Type} (e : α → List L) (good : α → Prop) : Prop where
  get : ∀ {H : Type} {enc : TypeId × Value → H} {base : Nat} {spare : Nat → Bool} {held : Bool} {n : Nat} {cs : List Value} {x : DataW H × List MemPlace}, DataW.trod enc P w base spare held n t cs = some x →
    (∀ n ∈ x.1.weights P t, n ≤ reachBytes) → ∃ y, good y ∧ CRd w cs (e y)

variable {P : Program} {w : World} {t : TypeId}

theorem CRd.one {v : Value} {l : L} (h : Rep (memOf w) v l) : CRd w [v] [l] := by
  refine ⟨rfl, fun j x hj => ?_⟩
  cases j with
  | zero => simp only [List.getElem?_cons_zero, Option.some.injEq] at hj; subst hj; exact ⟨v, rfl, h⟩
  | succ j => simp at hj

theorem Rd.to {α β : Type} {e : α → List L} {e' : β → List L} {good : α → Prop} {good' : β → Prop} (h : Rd P w t e good) (f : α → β) (he : ∀ x, e' (f x) = e x) (hg : ∀ x, good x → good' (f x)) : Rd P w t e' good' := by
  constructor
  intro H enc base spare held n cs x h1 h2
  obtain ⟨y, h3, h4⟩ := h.get h1 h2
  exact ⟨f y, hg y h3, by rw [he]; exact h4⟩

/-- Each has one: a list of them. -/
theorem choose_list {α : Type} {R : Nat → α → Prop} : ∀ (n : Nat), (∀ i, i < n → ∃ x, R i x) → ∃ l : List α, l.length = n ∧ ∀ i x, l[i]? = some x → R i x
  | 0, _ => ⟨[], rfl, fun i x h => by simp at h⟩
  | n + 1, h => by
    obtain ⟨l, h1, h2⟩ := choose_list n fun i hi => h i (by omega)
    obtain ⟨x, hx⟩ := h n (by omega)
    refine ⟨l ++ [x], by simp [h1], fun i y hy => ?_⟩
    rcases Nat.lt_or_ge i n with hlt | hge
    · rw [List.getElem?_append_left (by omega)] at hy
      exact h2 i y hy
    · rw [List.getElem?_append_right (by omega)] at hy
      have : i = n := by
        have := (List.getElem?_eq_some_iff.1 hy).1
        simp only [List.length_singleton] at this
        omega
      subst this
      simp [h1] at hy
      subst hy
      exact hx

/-- A value that reads so. -/
theorem vrep_agg {cs : Array Value} {ls : List L} {ω : Wh} (h : CRd w cs.toList ls) : VRep (memOf w) ω (.agg cs) (.agg ls) := by
  refine ⟨cs, rfl, by simpa using h.1, fun j l hj => ?_⟩
  obtain ⟨v, h1, h2⟩ := h.2 j l hj
  exact ⟨v, by simpa using h1, h2.erep⟩
theorem vrep_one {v : Value} {l : L} {ω : Wh} (h : CRd w [v] [l]) : VRep (memOf w) ω v (.one l) := by
  obtain ⟨v', h1, h2⟩ := h.2 0 l rfl
  simp only [List.getElem?_cons_zero, Option.some.injEq] at h1
  subst h1
  exact h2.erep

/-- The program has none of the library's variables that the contracts ask for. -/
def NoLib (P : Program) : Bool := (P.globalNamed "internal/strconv.uint64pow10").isNone && (P.globalNamed "strconv.ErrSyntax").isNone && (P.globalNamed "strconv.ErrRange").isNone
theorem var_kept {P : Program} {w w' : World} {F : Nat → Prop} (hF : ∀ k, ¬ F k) (hk : Keeps F w w') {nm : String} {x : Array Value} (h : w.var? P nm = some x) : w'.var? P nm = some x := by
  unfold World.var? at h ⊢
  cases hg : P.globalNamed nm with
  | none => rw [hg] at h; cases h
  | some g =>
    rw [hg] at h
    have hlt : g < w.heap.size := by
      rcases Nat.lt_or_ge g w.heap.size with hc | hc
      · exact hc
      · have e : w.heap[g]? = none := by simp [hc]
        simp only [Option.bind_some, e] at h
        cases h
    simp only [Option.bind_some, hk.block g hlt (hF g)] at h ⊢
    exact h
theorem goodC_none {P : Program} {w : World} {F : Nat → Prop} (hg : NoLib P = true ∨ LaidW P w) (hF : ∀ k, ¬ F k) : GoodC P w F := by
  intro w' hk
  rcases hg with hg | hg
  · simp only [NoLib, Bool.and_eq_true, Option.isNone_iff_eq_none] at hg
    obtain ⟨⟨h1, h2⟩, h3⟩ := hg
    exact ⟨fun h => absurd h (by rw [h1]; decide), fun h => absurd h (by rw [h2]; decide), fun h => absurd h (by rw [h3]; decide)⟩
  · refine ⟨fun h => var_kept hF hk (hg.pow h), fun h => ?_, fun h => ?_⟩
    · obtain ⟨tp, p, e⟩ := hg.syn h
      exact ⟨tp, p, var_kept hF hk e⟩
    · obtain ⟨tp, p, e⟩ := hg.rng h
      exact ⟨tp, p, var_kept hF hk e⟩

/-- A contract of a function with a body, at values that read so in the world: it is called, and below the old heap nothing turns. -/
theorem calls_of_sat {f : FuncId} {fn : Func} {c : Code} {xs : List V} {b : Bool} {vs : List Value} (hf : P.funcs[f]? = some fn) (hb : fn.body = some c) (hn : (fn.name == "runtime.NumGoroutine") = false) (h : Sat P f xs (.v (.one (.bool b))))
    (hA : ∀ ω, ArgsRep (memOf w) ω vs xs) (hg : NoLib P = true ∨ LaidW P w := by exact .inl (by kernel_rfl)) : Calls P f vs.toArray w fun e w' => e = .returned (.bool b) ∧ Below w.heap.size w w' := by
  have ω : Wh := { box := fun _ => 0, row := fun _ => { blk := none, cap := 0, sz := 0 }, f := fun _ _ _ => False }
  have hCI : CI P w (memOf w) (handed [] [] ω) (roots [] []) a0 w (memOf w) ω := by
    refine { size := rfl, defers := rfl, keeps := ⟨rfl, rfl, rfl, Nat.le_refl _, fun _ _ _ => rfl⟩, mle := Mem.le_refl _, mold := fun _ _ _ => rfl, ok := fun _ _ h => h, env := fun _ _ h => (by cases h), box := fun _ _ h => (by cases h), row := fun _ _ h => (by cases h), fresh := fun κ id hl => ?_, apart := fun κ id κ' id' hl => ?_, home := ⟨fun id hid => ?_, fun _ _ h => (by simp [handed, look] at h), fun _ _ h => (by simp [handed, look] at h)⟩, good := goodC_none hg fun k hk => owned_none hk }
    · cases κ <;> exact absurd hl (by simp [St.live, roots, look])
    · cases κ <;> exact absurd hl (by simp [St.live, roots, look])
    · simp [handed, look] at hid
  have h1 := h.call (memOf w) w vs ω hCI (hA ω)
  rcases h1 with ⟨v, w', h2, _⟩ | ⟨_, h2⟩
  · have h3 : (callFunc f vs.toArray).run P w = .ok (.enter f vs.toArray) w := by
      simp only [callFunc, Sem.run_bind, program, Sem.run, Result.andThen_ok, hf]
      rw [hn, hb]
      simp
    rw [h3] at h2
    cases h2
  · refine h2.mono fun e w' ⟨v, he, m', ω', hC, hv⟩ => ?_
    have hv : v = .bool b := by
      have hv : Rep m' v (.bool b) := hv
      cases hv
      rfl
    subst hv
    refine ⟨he, hC.keeps.os, hC.keeps.tape, hC.keeps.output, hC.keeps.size, fun k hk => hC.keeps.block k hk fun ho => ?_⟩
    obtain ⟨κ, id, hl, _⟩ := ho
    cases κ <;> exact absurd hl (by simp [St.live, roots, look])

theorem argsRep_nil {m : Mem} {ω : Wh} : ArgsRep m ω [] [] := ⟨rfl, fun i x h => by simp at h⟩
theorem argsRep_cons {m : Mem} {ω : Wh} {v : Value} {x : V} {vs : List Value} {xs : List V} (h : VRep m ω v x) (hs : ArgsRep m ω vs xs) : ArgsRep m ω (v :: vs) (x :: xs) := by
  refine ⟨by simp [hs.1], fun i y hy => ?_⟩
  cases i with
  | zero => simp only [List.getElem?_cons_zero, Option.some.injEq] at hy; subst hy; exact ⟨v, rfl, h⟩
  | succ i => exact hs.2 i y (by simpa using hy)

section
open Go.ChangeShapes
variable {H : Type} {enc : TypeId × Value → H} {w' : World} {base : Nat} {sp : Nat → Bool} {held : Bool}
theorem trodAll_carry (hs : ∀ p : MemPlace, p.block < w.heap.size → w.sameAt w' p) : ∀ {ts : List TypeId} {vs : List Value} {ds : List (DataW H)} {ps : List MemPlace}, DataW.TrodAll enc P w base sp held ts vs ds ps → (∀ p ∈ ps, p.block < w.heap.size) → DataW.TrodAll enc P w' base sp held ts vs ds ps
  | [], vs, ds, ps, h, _ => by
    obtain ⟨rfl, rfl, rfl⟩ := trodAll_nil h
    exact rfl
  | t :: ts, vs, ds, ps, h, hp => by
    obtain ⟨v, vs1, d, ds1, a, b, rfl, rfl, rfl, ⟨n, h1⟩, h2⟩ := trodAll_cons h
    exact ⟨a, b, ⟨n, DataW.trod_carry n _ _ _ h1 fun p hp' => hs p (hp p (by simp [hp']))⟩, trodAll_carry hs h2 fun p hp' => hp p (by simp [hp']), rfl⟩
theorem trodAll_below (hl : laidOutB P = true) (hb : Below w.heap.size w w') : ∀ {ts : List TypeId} {vs : List Value} {ds : List (DataW H)} {ps : List MemPlace}, (ts.all fun t => P.readableRec t && decide (t < P.types.size)) = true → DataW.TrodAll enc P w 0 (fun _ => true) true ts vs ds ps → (∀ p ∈ ps, p.block < w.heap.size) →
    DataW.TrodAll enc P w' 0 (fun b => decide (b < w.heap.size)) true ts vs ds ps
  | [], vs, ds, ps, _, h, _ => by
    obtain ⟨rfl, rfl, rfl⟩ := trodAll_nil h
    exact rfl
  | t :: ts, vs, ds, ps, hr, h, hp => by
    obtain ⟨v, vs1, d, ds1, a, b, rfl, rfl, rfl, h1, h2⟩ := trodAll_cons h
    simp only [List.all_cons, Bool.and_eq_true, decide_eq_true_eq] at hr
    exact ⟨a, b, Below.trod hl hr.1.1 hr.1.2 h1 hb fun p hp' => hp p (by simp [hp']), trodAll_below hl hb hr.2 h2 fun p hp' => hp p (by simp [hp']), rfl⟩

/-- A law that only reads and says true: what it leaves. -/
theorem post_of_below {f : Func} {s : ChangeSpec} {apart fresh again : Bool} {args : Array Value} {ds gs : List (DataW H)} {before : List MemPlace} {rt : TypeId} (hl : laidOutB P = true) (hrt : f.resultTypes = #[rt]) (hub : P.underlying rt = some .bool)
    (hread : (f.params.toList.all fun t => P.readableRec t && decide (t < P.types.size)) = true) (hvs : s.vars = [])
    (hW : DataW.Whole enc P f.params.toList s.vars apart w args.toList ds gs before) (hb : Below w.heap.size w w')
    (hfn : s.fn H ds = { results := [.lit (.bool true)], args := ds }) : s.post enc P f apart fresh false again w args (.bool true) w' := by
  have hW0 := hW
  have hlt : ∀ p ∈ before, p.block < w.heap.size := fun p hp => by simpa using hW.lt p hp
  obtain ⟨p, q, hA, hV, rfl, hz, hn⟩ := hW
  rw [hvs] at hV
  have hgq : gs = [] ∧ q = [] := by
    cases gs with
    | nil => exact ⟨rfl, hV⟩
    | cons g gs => exact absurd hV (by simp [DataW.TrodVars])
  obtain ⟨rfl, rfl⟩ := hgq
  simp only [List.append_nil] at hlt hz hn ⊢
  have hres : ∀ (b : Nat) (sp : Nat → Bool) (hd : Bool), DataW.TrodAll enc P w' b sp hd f.resultTypes.toList ((Value.bool true).resultList f.resultTypes.size) (s.fn H (ds ++ [])).results [] := by
    intro b sp hd
    rw [hrt, List.append_nil, hfn]
    exact ⟨[], [], ⟨1, by simp [DataW.trod, hub, Value.cells]⟩, rfl, rfl⟩
  have hargs1 := trodAll_below (P := P) hl hb hread hA hlt
  have hargs2 := trodAll_carry (P := P) (w := w) (w' := w') (fun p hp => hb.same hp) hA hlt
  have hvars : ∀ sp, DataW.TrodVars enc P w' sp s.vars (s.fn H (ds ++ [])).vars [] := by
    intro sp
    rw [hvs, List.append_nil, hfn]
    exact rfl
  refine ⟨ds, [], p ++ [], [], p, [], hW0, hres _ _ _, by rw [List.append_nil, hfn]; exact hargs1, hvars _, World.keptBut_mono (fun p hp => ⟨by simpa using hp.1, ?_⟩) (hb.frame fun x => x ∈ p ∧ True), fun _ => ?_⟩
  · simpa using hp.1
  · refine ⟨?_, _, _, ([] ++ p) ++ [], ⟨[] ++ p, [], trodAll_append hargs2 (hres _ _ _), hvars _, rfl, ?_, ?_⟩, ?_⟩
    · exact ok_one hrt rfl (okWide_bool_mk hub true)
    · intro b off hp
      have hp : MemPlace.cell b off ∈ p := by simpa using hp
      rw [hb.frozen (hlt _ hp)]
      exact hz b off hp
    · intro ha
      simpa using hn ha
    · intro p hp _
      simpa using hp
end
end Go.Bw

namespace Go.Bw
open Go.Proofs
variable {w : World}
theorem cells_int : Tryd.prog.cellsOf 3 = 1 := by kernel_rfl
theorem cells_string : Tryd.prog.cellsOf 9 = 1 := by kernel_rfl
theorem cells_bool : Tryd.prog.cellsOf 4 = 1 := by kernel_rfl
theorem cells_Value : Tryd.prog.cellsOf 50 = 3 := by kernel_rfl
theorem cells_s_Column : Tryd.prog.cellsOf 22 = 1 := by kernel_rfl
theorem cells_Column : Tryd.prog.cellsOf 46 = 3 := by kernel_rfl
theorem cells_s_int : Tryd.prog.cellsOf 23 = 1 := by kernel_rfl
theorem cells_Table : Tryd.prog.cellsOf 25 = 3 := by kernel_rfl
end Go.Bw

namespace Go.Bw
open Go.Proofs
theorem laid : laidOutB Tryd.prog = true := by kernel_rfl
theorem ownK : ownKnob Tryd.prog.godebug = none := by kernel_rfl

/-- A value that is no struct: it is its one cell. -/
def oneDesc : TypeDesc → Bool
  | .slice _ => true
  | .string => true
  | .bool => true
  | .int _ => true
  | _ => false
theorem cells_oneC {P : Program} {w : World} {base : Nat} {t : TypeId} {v : Value} {d : TypeDesc} (hu : P.underlying t = some d) (hd : oneDesc d = true) (h : Value.okWide P w .any base t v) : v.cells.toList = [v] := by
  have hne : ∀ cs, v ≠ .agg cs := by
    rintro cs rfl
    cases d <;> simp [oneDesc] at hd <;> simp [Value.okWide, hu, Cell.okWide, Cell.ok] at h
  cases v with
  | agg cs => exact absurd rfl (hne cs)
  | _ => rfl

variable {w : World}
theorem cells_Row : Tryd.prog.cellsOf 28 = 1 := by kernel_rfl
end Go.Bw

namespace Go.Bw
open Go.RowKit Go.Proofs Go.Proofs.YtmmbghbkpjmifaaDoor
theorem bulk_one {H : Type} (d : DataW H) : 1 ≤ Rows.uptoBulk d := by
  cases d with
  | lit l => cases l <;> simp [Rows.uptoBulk]
  | nil => simp [Rows.uptoBulk]
  | ptr d => simp [Rows.uptoBulk]
  | slice elems spare => simp [Rows.uptoBulk]
  | agg parts => simp [Rows.uptoBulk]
  | iface t d => simp [Rows.uptoBulk]
  | map entries => simp [Rows.uptoBulk]
  | held h => simp [Rows.uptoBulk]
theorem bulk_part {H : Type} {d : DataW H} {l : List (DataW H)} (h : d ∈ l) : Rows.uptoBulk d ≤ Rows.uptoBulkAll l := by
  induction l with
  | nil => cases h
  | cons x r ih =>
    simp only [Rows.uptoBulkAll]
    rcases List.mem_cons.1 h with e | e
    · subst e; omega
    · have := ih e; omega
theorem bulk_length {H : Type} (l : List (DataW H)) : l.length ≤ Rows.uptoBulkAll l := by
  induction l with
  | nil => simp [Rows.uptoBulkAll]
  | cons x r ih => have := bulk_one x; simp only [Rows.uptoBulkAll, List.length_cons]; omega

/-- What reads at type t reads as e says, of some x that is good for the bound. -/
structure RdB (P : Program) (w : World) (t : TypeId) {α : Type} (e : α → List L) (good : Nat → α → Prop) : Prop where
  get : ∀ {H : Type} {enc : TypeId × Value → H} {base : Nat} {spare : Nat → Bool} {held : Bool} {n : Nat} {cs : List Value} {x : DataW H × List MemPlace} {N : Nat}, DataW.trod enc P w base spare held n t cs = some x →
    Rows.uptoBulk x.1 ≤ N → ∃ y, good N y ∧ CRd w cs (e y)
section
variable {P : Program} {w : World} {t : TypeId}
theorem rdb_int {k : IntKind} (ht : P.underlying t = some (.int k)) : RdB P w t (fun n => [.int k n]) fun _ _ => True := by
  constructor
  intro H enc base spare held n cs x N h _
  obtain ⟨m, rfl, rfl, hw⟩ := DataW.trod_int ht h
  exact ⟨m, trivial, .one (.int k m)⟩
theorem rdb_bool (ht : P.underlying t = some .bool) : RdB P w t (fun b => [.bool b]) fun _ _ => True := by
  constructor
  intro H enc base spare held n cs x N h _
  obtain ⟨b, rfl, rfl⟩ := DataW.trod_bool ht h
  exact ⟨b, trivial, .one (.bool b)⟩
theorem rdb_string (ht : P.underlying t = some .string) : RdB P w t (fun s => [.str s]) fun _ _ => True := by
  constructor
  intro H enc base spare held n cs x N h hw
  obtain ⟨s, rfl, rfl, _⟩ := DataW.trod_string ht h
  exact ⟨s, trivial, .one (.str s)⟩
theorem RdB.to {α β : Type} {e : α → List L} {e' : β → List L} {good : Nat → α → Prop} {good' : Nat → β → Prop} (h : RdB P w t e good) (f : α → β) (he : ∀ x, e' (f x) = e x) (hg : ∀ N x, good N x → good' N (f x)) : RdB P w t e' good' := by
  constructor
  intro H enc base spare held n cs x N h1 h2
  obtain ⟨y, h3, h4⟩ := h.get h1 h2
  exact ⟨f y, hg N y h3, by rw [he]; exact h4⟩

theorem rdb_slice {e : TypeId} {α : Type} {eβ : α → List L} {good : Nat → α → Prop} {sz : Nat} (ht : P.underlying t = some (.slice e)) (hsz : P.cellsOf e = sz) (hl : ∀ x, (eβ x).length = sz) (h : RdB P w e eβ good) :
    RdB P w t (fun l => [.sl sz (l.map eβ)]) fun N (l : List α) => l.length ≤ N ∧ ∀ x ∈ l, good N x := by
  constructor
  intro H enc base spare held n cs x N h1 h2
  rcases DataW.trod_slice ht h1 with ⟨rfl, rfl⟩ | ⟨a, len, cap, elems, rest, m, rfl, rfl, rfl, k1, k2, k3, k4, k5, k6, k7⟩
  · exact ⟨[], ⟨by simp, by simp⟩, .one (.slNil sz)⟩
  · rw [hsz] at k5
    simp only [Rows.uptoBulk] at h2
    have hw : ∀ d ∈ elems.map (·.1), Rows.uptoBulk d ≤ N := fun d hd => Nat.le_trans (bulk_part hd) (by omega)
    have hbw : len ≤ N := by
      have := bulk_length (elems.map (·.1))
      rw [List.length_map] at this
      omega
    obtain ⟨l, h3, h4⟩ := choose_list (R := fun i (x : α) => good N x ∧ ∃ cs, w.cells? base (a.add (i * sz)) sz = some cs ∧ CRd w cs (eβ x)) len fun i hi => by
      have k8 := k5 i hi
      have hi' : i < elems.length := by omega
      rw [List.getElem?_eq_getElem hi'] at k8
      obtain ⟨cs, h5, h6⟩ := Option.bind_eq_some_iff.1 k8
      obtain ⟨x, h7, h8⟩ := h.get h6 (hw _ (List.mem_map.2 ⟨_, List.getElem_mem hi', rfl⟩))
      exact ⟨x, h7, cs, h5, h8⟩
    refine ⟨l, ⟨by rw [h3]; exact hbw, fun x hx => ?_⟩, .one ?_⟩
    · obtain ⟨i, hi, rfl⟩ := List.mem_iff_getElem.1 hx
      exact (h4 i _ (List.getElem?_eq_getElem hi)).1
    · -- each cell
      have hcell : ∀ i j u, cellOf (l.map eβ) i j = some u → ∃ v, memOf w (a.add (i * sz + j)) = some v ∧ Rep (memOf w) v u := by
        intro i j u hu
        unfold cellOf at hu
        rw [List.getElem?_map] at hu
        cases hli : l[i]? with
        | none => rw [hli] at hu; simp at hu
        | some x =>
          rw [hli] at hu
          simp only [Option.map_some, Option.bind_some] at hu
          obtain ⟨_, cs, h5, h6, h7⟩ := h4 i x hli
          obtain ⟨v, h8, h9⟩ := h7 j u hu
          refine ⟨v, ?_, h9⟩
          have hj : j < sz := by
            have := (List.getElem?_eq_some_iff.1 hu).1
            rw [hl] at this
            exact this
          unfold World.cells? at h5
          split at h5
          · have := mapM_some_get h5 j j (by simp [hj])
            rw [h8, Addr.add_add] at this
            exact this
          · cases h5
      refine .sl a len cap sz (l.map eβ) (fun i j => (memOf w (a.add (i * sz + j))).getD default) (by simp [h3]) k2 (fun y hy => ?_) (fun i j u hu => ?_) (fun i j u hu => ?_)
      · obtain ⟨x, _, rfl⟩ := List.mem_map.1 hy
        exact hl x
      · obtain ⟨v, h5, _⟩ := hcell i j u hu
        rw [h5]; rfl
      · obtain ⟨v, h5, h6⟩ := hcell i j u hu
        rw [h5]; exact h6

structure RdFB (P : Program) (w : World) (fs : List Field) (off : Nat) {α : Type} (e : α → List L) (good : Nat → α → Prop) : Prop where
  get : ∀ {H : Type} {enc : TypeId × Value → H} {base : Nat} {spare : Nat → Bool} {held : Bool} {n : Nat} {cs : List Value} {xs : List (DataW H × List MemPlace)} {N : Nat}, xs.length = fs.length →
    (∀ (i : Nat) (f : Field), fs[i]? = some f → DataW.trod enc P w base spare held n f.type ((cs.drop f.offset).take (P.cellsOf f.type)) = xs[i]?) →
    Rows.uptoBulkAll (xs.map (·.1)) ≤ N → off + (fs.map fun f => P.cellsOf f.type).sum = cs.length → ∃ y, good N y ∧ CRd w (cs.drop off) (e y)

theorem rdFb_nil {off : Nat} : RdFB P w [] off (fun _ : Unit => []) fun _ _ => True := by
  constructor
  intro H enc base spare held n cs xs N _ _ _ hl
  refine ⟨(), trivial, ?_⟩
  have : cs.drop off = [] := List.drop_eq_nil_of_le (by simp at hl; omega)
  rw [this]
  exact ⟨rfl, fun j l hj => by simp at hj⟩
theorem rdFb_cons {f : Field} {fs : List Field} {off sz : Nat} {α β : Type} {e0 : α → List L} {e1 : β → List L} {g0 : Nat → α → Prop} {g1 : Nat → β → Prop} (hf : f.offset = off) (hsz : P.cellsOf f.type = sz) (h0 : RdB P w f.type e0 g0) (h1 : RdFB P w fs (off + sz) e1 g1) :
    RdFB P w (f :: fs) off (fun p : α × β => e0 p.1 ++ e1 p.2) fun N p => g0 N p.1 ∧ g1 N p.2 := by
  constructor
  intro H enc base spare held n cs xs N hx ht hw hl
  cases xs with
  | nil => simp at hx
  | cons x xs =>
    simp only [List.map_cons, Rows.uptoBulkAll] at hw
    have k0 := ht 0 f rfl
    simp only [List.getElem?_cons_zero] at k0
    obtain ⟨y, h2, h3⟩ := h0.get k0 (N := N) (by omega)
    obtain ⟨z, h4, h5⟩ := h1.get (cs := cs) (N := N) (by simpa using hx) (fun i f' hi => by have := ht (i + 1) f' (by simpa using hi); simpa using this) (by omega) (by simp only [List.map_cons, List.sum_cons, hsz] at hl; omega)
    refine ⟨(y, z), ⟨h2, h4⟩, ?_⟩
    have e : cs.drop off = (cs.drop f.offset).take (P.cellsOf f.type) ++ cs.drop (off + sz) := by
      rw [hf, hsz, ← List.drop_drop, List.take_append_drop]
    rw [e]
    exact h3.append h5
theorem rdb_struct {fs : Array Field} {α : Type} {e : α → List L} {good : Nat → α → Prop} (ht : P.underlying t = some (.struct fs)) (hc : P.cellsOf t = (fs.toList.map fun f => P.cellsOf f.type).sum) (h : RdFB P w fs.toList 0 e good) : RdB P w t e good := by
  constructor
  intro H enc base spare held n cs x N h1 h2
  obtain ⟨xs, m, rfl, rfl, k1, k2, k3⟩ := DataW.trod_struct ht h1
  obtain ⟨y, h3, h4⟩ := h.get (cs := cs) (by simpa using k2) (fun i f hi => k3 i f (by simpa using hi)) (N := N) (by simp only [Rows.uptoBulk] at h2; omega) (by rw [k1, hc]; simp)
  exact ⟨y, h3, by simpa using h4⟩

theorem rdb_struct3 {f0 f1 f2 : Field} {z0 z1 z2 : Nat} {α β γ : Type} {e0 : α → List L} {e1 : β → List L} {e2 : γ → List L} {g0 : Nat → α → Prop} {g1 : Nat → β → Prop} {g2 : Nat → γ → Prop} (ht : P.underlying t = some (.struct #[f0, f1, f2])) (ho : f0.offset = 0 ∧ f1.offset = 0 + z0 ∧ f2.offset = 0 + z0 + z1) (hz : P.cellsOf f0.type = z0 ∧ P.cellsOf f1.type = z1 ∧ P.cellsOf f2.type = z2) (hc : P.cellsOf t = 0 + z0 + z1 + z2) (h0 : RdB P w f0.type e0 g0) (h1 : RdB P w f1.type e1 g1) (h2 : RdB P w f2.type e2 g2) : RdB P w t (fun p : α × β × γ × Unit => e0 p.1 ++ (e1 p.2.1 ++ (e2 p.2.2.1 ++ []))) (fun N p => g0 N p.1 ∧ g1 N p.2.1 ∧ g2 N p.2.2.1 ∧ True) :=
  rdb_struct ht (by rw [hc]; simp [hz.1, hz.2.1, hz.2.2]; try omega) (rdFb_cons ho.1 hz.1 h0 (rdFb_cons ho.2.1 hz.2.1 h1 (rdFb_cons ho.2.2 hz.2.2 h2 (rdFb_nil))))
end
variable {w : World}
theorem rdb_I : RdB Tryd.prog w 3 (fun n => [.int .i64 n]) fun _ _ => True := rdb_int Tryd.underlying3
theorem rdb_S : RdB Tryd.prog w 9 (fun s => [.str s]) fun _ _ => True := rdb_string Tryd.underlying9
theorem rdb_val : RdB Tryd.prog w 50 eVal fun _ _ => True :=
  (rdb_struct3 Tryd.underlying50 ⟨rfl, rfl, rfl⟩ ⟨cells_int, cells_int, cells_string⟩ cells_Value rdb_I rdb_I rdb_S).to (fun p => ⟨p.1, p.2.1, p.2.2.1⟩) (fun _ => by simp [eVal]) fun _ _ _ => trivial
theorem rdb_col : RdB Tryd.prog w 46 eCol fun _ _ => True :=
  (rdb_struct3 Tryd.underlying46 ⟨rfl, rfl, rfl⟩ ⟨cells_string, cells_int, cells_bool⟩ cells_Column rdb_S rdb_I (rdb_bool Tryd.underlying4)).to (fun p => ⟨p.1, p.2.1, p.2.2.1⟩) (fun _ => by simp [eCol]) fun _ _ _ => trivial
theorem rdb_cols : RdB Tryd.prog w 22 (fun l => [eCols l]) fun N l => l.length ≤ N ∧ ∀ c ∈ l, True :=
  rdb_slice Tryd.underlying22 cells_Column (fun _ => rfl) rdb_col
theorem rdb_ints : RdB Tryd.prog w 23 (fun l => [eInts l]) fun N l => l.length ≤ N ∧ ∀ c ∈ l, True :=
  rdb_slice Tryd.underlying23 cells_int (fun _ => rfl) (eβ := eInt1) rdb_I
theorem rdb_tbl : RdB Tryd.prog w 25 eTbl fun N t => t.cols.length ≤ N ∧ t.pk.length ≤ N :=
  (rdb_struct3 Tryd.underlying25 ⟨rfl, rfl, rfl⟩ ⟨cells_string, cells_s_Column, cells_s_int⟩ cells_Table rdb_S rdb_cols rdb_ints).to (fun p => ⟨p.1, p.2.1, p.2.2.1⟩) (fun _ => by simp [eTbl]) fun _ _ h => ⟨h.2.1.1, h.2.2.1.1⟩
theorem rdb_row : RdB Tryd.prog w 28 (fun l => [eRow l]) fun N l => l.length ≤ N ∧ ∀ v ∈ l, True :=
  rdb_slice Tryd.underlying28 cells_Value (fun _ => rfl) rdb_val
theorem rdb_rows : RdB Tryd.prog w 26 (fun l => [eRows l]) fun N l => l.length ≤ N ∧ ∀ r ∈ l, r.length ≤ N ∧ ∀ v ∈ r, True :=
  rdb_slice Tryd.underlying26 cells_Row (fun _ => rfl) (eβ := eRow1) rdb_row
end Go.Bw

namespace Go.Bw
open Go.Proofs
attribute [local go_sem ↓] VOps_nil VOps_cons VOp_callJ VVal_callH VOps_guard GOn_tt GOn_ff GOn_tf GOn_ft GOn_not GOn_none HOn_none HOn_tt HOn_ff HOn_tf HOn_ft HOn_not VHead_nil VHead_cons VHead_guard VVal_move VVal_assign VVal_pickE pickK_true pickK_false VVal_not VVal_neg negK_int VVal_load loadK_fz loadK_ptr loadK_eptr VVal_fieldAddr VVal_field VVal_indexAddr idxK_sl idxK_ref VVal_index indexK_str VVal_extract VVal_binOp binK_one binK_agg VVal_build VVal_buildSlice VVal_makeFunc VVal_slice sliceK_str sliceK_sl sliceK_nil sliceK_ref VVal_slice3 VVal_nilCheck VVal_convert convKk_int convKk_str VVal_len VVal_max VVal_min VOp_assign assignK_int assignK_bool assignK_str assignK_clo assignK_sl assignK_nil assignK_ref assignK_agg assignK_fz assignK_ptr assignK_eptr assignK_any VOp_box VOp_alloc VOp_store storeK_ptr storeK_eptr VOp_buildSlice VOp_append appK_rr appK_rs appK_rn appK_ri appK_nr appK_ns appK_nn appK_ni appStd_eq VOp_copy copyK_ref VOp_clear clearK_ref VOp_cap VOp_eqNil VOp_move VOp_pick VOp_not VOp_neg VOp_load VOp_fieldAddr VOp_field VOp_indexAddr VOp_index VOp_extract VOp_binTmp VOp_binInt VOp_binStr VOp_build VOp_makeFunc VOp_slice VOp_nilCheck VOp_convert VOp_len VOp_max VOp_min mO_some mT_some pk_some pk_none look_cons del_cons
attribute [local go_sem] guardB gOf int_bne beq_true beq_false Bool.not_not gSlot pickK_true pickK_false negK_int loadK_fz loadK_ptr loadK_eptr idxK_sl idxK_ref indexK_str binK_one binK_agg sliceK_str sliceK_sl sliceK_nil sliceK_ref convKk_int convKk_str maxL minL assignK_int assignK_bool assignK_str assignK_clo assignK_sl assignK_nil assignK_ref assignK_agg assignK_fz assignK_ptr assignK_eptr assignK_any nilRow_eq takeRow_eq appended_eq storeK_ptr storeK_eptr store_mk appIn_eq appMk_eq marked_eq ovOut_nil ovOut_cons ovIn_nil ovIn_cons padRow_eq ysC capK_nil capK_ref ioSt_mk outB_nil outR_nil outB outR inB_nil inB_cons inR_nil inR_cons L.kl L.kl0 L.ids L.ids0 Option.getD_some evalO constA mO_some mT_some put_mk putO_some putO_none okD_some okD_none pk_some pk_none look_nil del_nil sput noBox_mk noRow_mk newBox_eq newRow0_eq St.killRow RowC.kill rowMap_mk rowOf ovAll ovAdd ovDel ovGet ovShift dstOf ysOf overlay_nil overlay_nil' overlay A.map V.map L.noPtr L.noPtr0 L.noRow L.noRow0 L.peek L.norm L.flat clos_int clos_bool clos_str clos_sl clos_nil clos_any clos_fz L.clos L.isFz L.kd moveL fieldOff eqCells eqCell eqOp oneOf boolOf intOfA tupOf vOf aggOf isPtrLike isSlice lenKind lenL nL elemTI loadV asV binL intBin intDivL shrL boolBin strBin strAdd boundN partCells fillL placesOf setL chunks repL capsOf capL callOf argsOf frzV_int frzV_bool frzV_str frzV_sl frzV_nil frzV_fz frzV_any frzV_own frzV_clo frzV_ref frzV_eptr frzV_ptr frzRow_nil frzRow_ov frzRs_nil frzRs_cons frzCs_nil frzCs_cons frzO_some frzO_none frzN_int frzN_bool frzN_str frzN_sl frzN_nil frzN_any frzN_own List.map_cons List.map_nil List.cons_append List.nil_append List.append_nil List.length_cons List.length_nil List.length_map List.length_append List.headD_cons List.tail_cons List.getElem?_cons_zero List.getElem?_cons_succ List.drop_zero List.drop_succ_cons List.drop_nil List.take_succ_cons List.take_zero List.take_nil List.take_length List.filter_cons List.filter_nil List.elem_cons List.elem_nil List.all_cons List.all_nil Option.bind_some Option.map_some Option.some.injEq bne_self_eq_false beq_self_eq_true if_true if_false Bool.false_eq_true true_and and_true and_self Nat.zero_add Nat.add_zero Nat.zero_le Int.toNat_natCast Int.toNat_zero Option.isSome_some List.getElem?_toArray decide_true decide_false ge_iff_le gt_iff_lt Bool.not_true Bool.not_false Nat.le_refl Bool.and_true Bool.true_and Bool.and_false Bool.false_and eVal eRow eRow1 eRows eInt1 eInts eCol eCols eTbl eTbls eFK eFKs eCon eCons eSch eRel eInst eChg eChgs szOf getD_map_lt wrap_nat wrap_in List.take_of_length_le frz_eVal frz_eRow1 frz_eInt1 frz_eCol frz_eTbl frz_eFK frz_eCon frz_eRel frz_eChg noOwn_nil noOwn_cons noOwn_append L.isOwn noOwn_eVal noOwn_eRow1 noOwn_eInt1 noOwn_eCol noOwn_eTbl noOwn_eFK noOwn_eCon noOwn_eRel noOwn_eChg convK_2 convK_3 convK_5 convK_12 convK_21 convK_57 convK_155 convK_162 convK_166 TT_2 TT_3 TT_4 TT_5 TT_9 TT_12 TT_13 TT_21 TT_22 TT_23 TT_24 TT_25 TT_26 TT_27 TT_28 TT_38 TT_39 TT_40 TT_41 TT_42 TT_45 TT_46 TT_47 TT_48 TT_49 TT_50 TT_51 TT_52 TT_54 TT_55 TT_56 TT_57 TT_65 TT_66 TT_82 TT_83 TT_84 TT_100 TT_101 TT_118 TT_155 TT_162 TT_166 boolTy_4 eqK_46 eqK_50 eqK_52
attribute [local congr] VOps.congr VHead.congr VOp.congr VVal.congr pk.congr assignK.congr appK.congr appStd.congr copyK.congr clearK.congr storeK.congr loadK.congr idxK.congr sliceK.congr indexK.congr binK.congr convKk.congr
open Go.Proofs.YtmmbghbkpjmifaaDoor

variable {w : World}
theorem rdb_intF {P : Program} {t : TypeId} {k : IntKind} (ht : P.underlying t = some (.int k)) : RdB P w t (fun n => [.int k n]) fun _ n => (Lit.int k n).wf = true := by
  constructor
  intro H enc base spare held n cs x N h _
  obtain ⟨m, rfl, rfl, hw⟩ := DataW.trod_int ht h
  exact ⟨m, hw, .one (.int k m)⟩
theorem rdb_stringF {P : Program} {t : TypeId} (ht : P.underlying t = some .string) : RdB P w t (fun s => [.str s]) fun N s => s.size ≤ N := by
  constructor
  intro H enc base spare held n cs x N h hw
  obtain ⟨s, rfl, rfl, _⟩ := DataW.trod_string ht h
  refine ⟨s, ?_, .one (.str s)⟩
  simp only [Rows.uptoBulk] at hw
  have e : s.data.toList.length = s.size := Array.length_toList
  omega
theorem intOk_bounds {n : Int} (h : (Lit.int .i64 n).wf = true) : -9223372036854775808 ≤ n ∧ n ≤ 9223372036854775807 := by
  simpa [Lit.wf, IntKind.min, IntKind.max, IntKind.signed, IntKind.bits] using h
theorem rdb_valF : RdB Tryd.prog w 50 eVal fun N v => (Lit.int .i64 v.kind).wf = true ∧ (Lit.int .i64 v.int).wf = true ∧ v.text.size ≤ N :=
  (rdb_struct3 Tryd.underlying50 ⟨rfl, rfl, rfl⟩ ⟨cells_int, cells_int, cells_string⟩ cells_Value (rdb_intF Tryd.underlying3) (rdb_intF Tryd.underlying3) (rdb_stringF Tryd.underlying9)).to (fun p => ⟨p.1, p.2.1, p.2.2.1⟩) (fun _ => by simp [eVal]) fun _ _ h => ⟨h.1, h.2.1, h.2.2.1⟩
theorem rdb_rowF : RdB Tryd.prog w 28 (fun l => [eRow l]) fun N l => l.length ≤ N ∧ ∀ v ∈ l, (Lit.int .i64 v.kind).wf = true ∧ (Lit.int .i64 v.int).wf = true ∧ v.text.size ≤ N :=
  rdb_slice Tryd.underlying28 cells_Value (fun _ => rfl) rdb_valF
theorem rowFits_of {l : Row} (h : l.length ≤ 1048576 ∧ ∀ v ∈ l, (Lit.int .i64 v.kind).wf = true ∧ (Lit.int .i64 v.int).wf = true ∧ v.text.size ≤ 1048576) : RowFits l :=
  ⟨h.1, fun v hv => ⟨(intOk_bounds (h.2 v hv).1).1, (intOk_bounds (h.2 v hv).1).2, (intOk_bounds (h.2 v hv).2.1).1, (intOk_bounds (h.2 v hv).2.1).2, (h.2 v hv).2.2⟩⟩
end Go.Bw

namespace Go.Bw
open Go.Proofs
attribute [local go_sem ↓] VOps_nil VOps_cons VOp_callJ VVal_callH VOps_guard GOn_tt GOn_ff GOn_tf GOn_ft GOn_not GOn_none HOn_none HOn_tt HOn_ff HOn_tf HOn_ft HOn_not VHead_nil VHead_cons VHead_guard VVal_move VVal_assign VVal_pickE pickK_true pickK_false VVal_not VVal_neg negK_int VVal_load loadK_fz loadK_ptr loadK_eptr VVal_fieldAddr VVal_field VVal_indexAddr idxK_sl idxK_ref VVal_index indexK_str VVal_extract VVal_binOp binK_one binK_agg VVal_build VVal_buildSlice VVal_makeFunc VVal_slice sliceK_str sliceK_sl sliceK_nil sliceK_ref VVal_slice3 VVal_nilCheck VVal_convert convKk_int convKk_str VVal_len VVal_max VVal_min VOp_assign assignK_int assignK_bool assignK_str assignK_clo assignK_sl assignK_nil assignK_ref assignK_agg assignK_fz assignK_ptr assignK_eptr assignK_any VOp_box VOp_alloc VOp_store storeK_ptr storeK_eptr VOp_buildSlice VOp_append appK_rr appK_rs appK_rn appK_ri appK_nr appK_ns appK_nn appK_ni appStd_eq VOp_copy copyK_ref VOp_clear clearK_ref VOp_cap VOp_eqNil VOp_move VOp_pick VOp_not VOp_neg VOp_load VOp_fieldAddr VOp_field VOp_indexAddr VOp_index VOp_extract VOp_binTmp VOp_binInt VOp_binStr VOp_build VOp_makeFunc VOp_slice VOp_nilCheck VOp_convert VOp_len VOp_max VOp_min mO_some mT_some pk_some pk_none look_cons del_cons
attribute [local go_sem] guardB gOf int_bne beq_true beq_false Bool.not_not gSlot pickK_true pickK_false negK_int loadK_fz loadK_ptr loadK_eptr idxK_sl idxK_ref indexK_str binK_one binK_agg sliceK_str sliceK_sl sliceK_nil sliceK_ref convKk_int convKk_str maxL minL assignK_int assignK_bool assignK_str assignK_clo assignK_sl assignK_nil assignK_ref assignK_agg assignK_fz assignK_ptr assignK_eptr assignK_any nilRow_eq takeRow_eq appended_eq storeK_ptr storeK_eptr store_mk appIn_eq appMk_eq marked_eq ovOut_nil ovOut_cons ovIn_nil ovIn_cons padRow_eq ysC capK_nil capK_ref ioSt_mk outB_nil outR_nil outB outR inB_nil inB_cons inR_nil inR_cons L.kl L.kl0 L.ids L.ids0 Option.getD_some evalO constA mO_some mT_some put_mk putO_some putO_none okD_some okD_none pk_some pk_none look_nil del_nil sput noBox_mk noRow_mk newBox_eq newRow0_eq St.killRow RowC.kill rowMap_mk rowOf ovAll ovAdd ovDel ovGet ovShift dstOf ysOf overlay_nil overlay_nil' overlay A.map V.map L.noPtr L.noPtr0 L.noRow L.noRow0 L.peek L.norm L.flat clos_int clos_bool clos_str clos_sl clos_nil clos_any clos_fz L.clos L.isFz L.kd moveL fieldOff eqCells eqCell eqOp oneOf boolOf intOfA tupOf vOf aggOf isPtrLike isSlice lenKind lenL nL elemTI loadV asV binL intBin intDivL shrL boolBin strBin strAdd boundN partCells fillL placesOf setL chunks repL capsOf capL callOf argsOf frzV_int frzV_bool frzV_str frzV_sl frzV_nil frzV_fz frzV_any frzV_own frzV_clo frzV_ref frzV_eptr frzV_ptr frzRow_nil frzRow_ov frzRs_nil frzRs_cons frzCs_nil frzCs_cons frzO_some frzO_none frzN_int frzN_bool frzN_str frzN_sl frzN_nil frzN_any frzN_own List.map_cons List.map_nil List.cons_append List.nil_append List.append_nil List.length_cons List.length_nil List.length_map List.length_append List.headD_cons List.tail_cons List.getElem?_cons_zero List.getElem?_cons_succ List.drop_zero List.drop_succ_cons List.drop_nil List.take_succ_cons List.take_zero List.take_nil List.take_length List.filter_cons List.filter_nil List.elem_cons List.elem_nil List.all_cons List.all_nil Option.bind_some Option.map_some Option.some.injEq bne_self_eq_false beq_self_eq_true if_true if_false Bool.false_eq_true true_and and_true and_self Nat.zero_add Nat.add_zero Nat.zero_le Int.toNat_natCast Int.toNat_zero Option.isSome_some List.getElem?_toArray decide_true decide_false ge_iff_le gt_iff_lt Bool.not_true Bool.not_false Nat.le_refl Bool.and_true Bool.true_and Bool.and_false Bool.false_and eVal eRow eRow1 eRows eInt1 eInts eCol eCols eTbl eTbls eFK eFKs eCon eCons eSch eRel eInst eChg eChgs szOf getD_map_lt wrap_nat wrap_in List.take_of_length_le frz_eVal frz_eRow1 frz_eInt1 frz_eCol frz_eTbl frz_eFK frz_eCon frz_eRel frz_eChg noOwn_nil noOwn_cons noOwn_append L.isOwn noOwn_eVal noOwn_eRow1 noOwn_eInt1 noOwn_eCol noOwn_eTbl noOwn_eFK noOwn_eCon noOwn_eRel noOwn_eChg convK_2 convK_3 convK_5 convK_12 convK_21 convK_57 convK_155 convK_162 convK_166 TT_2 TT_3 TT_4 TT_5 TT_9 TT_12 TT_13 TT_21 TT_22 TT_23 TT_24 TT_25 TT_26 TT_27 TT_28 TT_38 TT_39 TT_40 TT_41 TT_42 TT_45 TT_46 TT_47 TT_48 TT_49 TT_50 TT_51 TT_52 TT_54 TT_55 TT_56 TT_57 TT_65 TT_66 TT_82 TT_83 TT_84 TT_100 TT_101 TT_118 TT_155 TT_162 TT_166 boolTy_4 eqK_46 eqK_50 eqK_52
attribute [local congr] VOps.congr VHead.congr VOp.congr VVal.congr pk.congr assignK.congr appK.congr appStd.congr copyK.congr clearK.congr storeK.congr loadK.congr idxK.congr sliceK.congr indexK.congr binK.congr convKk.congr
open Go.ChangeShapes Go.RowKit Go.Proofs.YtmmbghbkpjmifaaDoor Go.Proofs

theorem gPow : Tryd.prog.globalNamed "internal/strconv.uint64pow10" = some 1 := by kernel_rfl
theorem tPow : (Tryd.prog.globals[1]?).map (·.type) = some 165 := by kernel_rfl
theorem gSyn : Tryd.prog.globalNamed "strconv.ErrSyntax" = none := by kernel_rfl
theorem gRng : Tryd.prog.globalNamed "strconv.ErrRange" = none := by kernel_rfl
theorem laidW_rel {W : World} (h : laidMet Tryd.prog Rows.relationUpsertFindUptoRow.laid W) : LaidW Tryd.prog W where
  pow := fun _ => Lib.tabIs_of_head (k := .u64) (zs := (List.range 20).map fun i => ((10 ^ i : Nat) : Int)) gPow tPow Tryd.underlying165 Tryd.underlying155 (by kernel_rfl) (by kernel_rfl) h.tail.tail
  rng := fun q => by rw [gRng] at q; cases q
  syn := fun q => by rw [gSyn] at q; cases q
end Go.Bw
