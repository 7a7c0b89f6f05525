/-
  WHAT IS PROVED HERE, of this translation: chunks_one, validName_sat.
  A theorem that ends in sat says what the function it names returns, whatever the state it is called in; the bounds on its arguments stand ahead of it.
-/
import Derived.Test.YtinlgpgdinnefaaT7
set_option linter.unusedSimpArgs false
set_option linter.unusedVariables false
namespace Go.Bw
open Go.Proofs
attribute [local go_sem ↓] VOps_nil VOps_cons VOp_callJ VVal_callH VOps_guard GOn_tt GOn_ff GOn_tf GOn_ft GOn_not GOn_none HOn_none HOn_tt HOn_ff HOn_tf HOn_ft HOn_not VHead_nil VHead_cons VHead_guard VVal_move VVal_assign VVal_pickE pickK_true pickK_false VVal_not VVal_load loadK_fz loadK_ptr loadK_eptr VVal_fieldAddr VVal_field VVal_indexAddr idxK_sl idxK_ref VVal_index indexK_str VVal_extract VVal_binOp binK_one binK_agg VVal_build VVal_buildSlice VVal_makeFunc VVal_slice sliceK_str sliceK_sl sliceK_ref VVal_slice3 VVal_nilCheck VVal_convert convKk_int convKk_str VVal_len VVal_max VVal_min VOp_assign assignK_int assignK_bool assignK_str assignK_clo assignK_sl assignK_nil assignK_ref assignK_agg assignK_fz assignK_ptr assignK_eptr assignK_any VOp_box VOp_alloc VOp_store storeK_ptr storeK_eptr VOp_buildSlice VOp_append VOp_eqNil VOp_move VOp_pick VOp_not VOp_load VOp_fieldAddr VOp_field VOp_indexAddr VOp_index VOp_extract VOp_binTmp VOp_binInt VOp_binStr VOp_build VOp_makeFunc VOp_slice VOp_nilCheck VOp_convert VOp_len VOp_max VOp_min mO_some mT_some pk_some pk_none look_cons del_cons
attribute [local go_sem] guardB gOf int_bne beq_true beq_false Bool.not_not gSlot pickK_true pickK_false loadK_fz loadK_ptr loadK_eptr idxK_sl idxK_ref indexK_str binK_one binK_agg sliceK_str sliceK_sl sliceK_ref convKk_int convKk_str maxL minL assignK_int assignK_bool assignK_str assignK_clo assignK_sl assignK_nil assignK_ref assignK_agg assignK_fz assignK_ptr assignK_eptr assignK_any nilRow_eq takeRow_eq appended_eq storeK_ptr storeK_eptr store_mk evalO constA mO_some mT_some put_mk putO_some putO_none okD_some okD_none pk_some pk_none look_nil del_nil sput noBox_mk noRow_mk newBox_eq newRow0_eq St.killRow RowC.kill rowMap_mk rowOf ovAll ovAdd ovDel ovGet ovShift dstOf ysOf overlay_nil overlay_nil' overlay A.map V.map L.noPtr L.noPtr0 L.noRow L.noRow0 L.peek L.norm L.flat clos_int clos_bool clos_str clos_sl clos_nil clos_any clos_fz L.clos L.isFz L.kd moveL fieldOff eqCells eqCell eqOp oneOf boolOf intOfA tupOf vOf aggOf isPtrLike isSlice lenKind lenL nL elemTI loadV asV binL intBin intDivL shrL boolBin strBin boundN partCells fillL placesOf setL chunks repL capsOf capL callOf argsOf frzV_int frzV_bool frzV_str frzV_sl frzV_nil frzV_fz frzV_any frzV_own frzV_clo frzV_ref frzV_eptr frzV_ptr frzRow_nil frzN_int frzN_bool frzN_str frzN_sl frzN_nil frzN_any frzN_own List.map_cons List.map_nil List.cons_append List.nil_append List.append_nil List.length_cons List.length_nil List.length_map List.length_append List.headD_cons List.tail_cons List.getElem?_cons_zero List.getElem?_cons_succ List.drop_zero List.drop_succ_cons List.drop_nil List.take_succ_cons List.take_zero List.take_nil List.take_length List.filter_cons List.filter_nil List.elem_cons List.elem_nil List.all_cons List.all_nil Option.bind_some Option.map_some Option.some.injEq bne_self_eq_false beq_self_eq_true if_true if_false Bool.false_eq_true true_and and_true and_self Nat.zero_add Nat.add_zero Nat.zero_le Int.toNat_natCast Int.toNat_zero Option.isSome_some List.getElem?_toArray decide_true decide_false ge_iff_le gt_iff_lt Bool.not_true Bool.not_false Nat.le_refl Bool.and_true Bool.true_and Bool.and_false Bool.false_and eVal eRow eRow1 eRows eInt1 eInts eCol eCols eTbl eTbls eFK eFKs eCon eCons eSch eRel eInst eChg eChgs szOf getD_map_lt wrap_nat wrap_in List.take_of_length_le frz_eVal frz_eRow1 frz_eInt1 frz_eCol frz_eTbl frz_eFK frz_eCon frz_eRel frz_eChg noOwn_nil noOwn_cons noOwn_append L.isOwn noOwn_eVal noOwn_eRow1 noOwn_eInt1 noOwn_eCol noOwn_eTbl noOwn_eFK noOwn_eCon noOwn_eRel noOwn_eChg convK_2 convK_3 convK_5 convK_12 convK_21 convK_28 convK_156 convK_164 TT_2 TT_3 TT_4 TT_5 TT_9 TT_12 TT_13 TT_21 TT_22 TT_23 TT_24 TT_25 TT_26 TT_28 TT_30 TT_31 TT_32 TT_33 TT_37 TT_38 TT_41 TT_42 TT_43 TT_54 TT_55 TT_58 TT_59 TT_60 TT_61 TT_65 TT_66 TT_70 TT_71 TT_78 TT_82 TT_83 TT_102 TT_126 TT_130 TT_156 TT_164 boolTy_4 eqK_38 eqK_59 eqK_61
attribute [local congr] VOps.congr VHead.congr VOp.congr VVal.congr pk.congr assignK.congr storeK.congr loadK.congr idxK.congr sliceK.congr indexK.congr binK.congr convKk.congr

def okByte (b : UInt8) : Bool := !((decide ((b.toNat : Int) < 97) || decide (122 < (b.toNat : Int))) && (decide ((b.toNat : Int) < 48) || decide (57 < (b.toNat : Int))))
def digit (b : UInt8) : Bool := decide (48 ≤ (b.toNat : Int)) && decide ((b.toNat : Int) ≤ 57)
def validName (s : ByteArray) : Bool := !(decide (s.size < 1) || decide (12 < s.size) || digit (s.data.toList.getD 0 0)) && s.data.toList.all okByte

theorem chunks_one {α : Type} (f : α → L) : ∀ (l : List α), chunks 1 l.length (l.map f) = l.map fun x => [f x]
  | [] => rfl
  | x :: l => by
    simp only [List.length_cons, List.map_cons, chunks]
    rw [List.drop_succ_cons, List.drop_zero, chunks_one f l]
    rfl

set_option maxHeartbeats 4000000 in
theorem validName_sat (s : ByteArray) : Sat Try.prog 16 [oS s] (.v (oB (validName s))) := by
  obtain ⟨⟨bs⟩⟩ := s
  have hsz : (ByteArray.mk (Array.mk bs)).size = bs.length := rfl
  have hdt : (ByteArray.mk (Array.mk bs)).data.toList = bs := rfl
  have e1 : chunks 1 bs.length (bs.map fun b => L.int .u8 (b.toNat : Int)) = bs.map fun b => [L.int .u8 (b.toNat : Int)] := chunks_one _ bs
  unfold validName
  rw [hsz, hdt]
  refine sat_of_body tyOk Try.func16 rfl (by kernel_rfl) ⟨Nat.le_of_ble_eq_true rfl, Nat.le_of_ble_eq_true rfl⟩ fun w0 m0 F0 => ?_
  simp only [Try.ntmps16, envOf, Nat.reduceAdd]
  repeat' (first
    | ((first
      | with_reducible refine AWP.regionL tyOk fun K hK => ?_
      | ((first | with_reducible refine GOn.isT ?_ ?_ | with_reducible refine HOn.isT ?_ ?_ | with_reducible refine pickK.isT ?_ ?_); focus (first | with_reducible rfl | with_reducible assumption | (simp only [decide_eq_true_eq, decide_eq_false_iff_not, beq_iff_eq, beq_eq_false_iff_ne, Bool.not_eq_true', Bool.not_eq_false', Bool.and_eq_true, Bool.or_eq_true, Bool.and_eq_false_imp, Bool.or_eq_false_iff, Bool.not_eq_true, Bool.not_eq_false, Int.not_lt, Int.not_le, ne_eq, List.length_map, List.length_append, List.length_cons, List.length_nil, List.length_take, List.length_drop, List.length_set, Int.natCast_add, Int.toNat_natCast, Nat.zero_add]; first | done | with_reducible assumption | omega)))
      | ((first | with_reducible refine GOn.isF ?_ ?_ | with_reducible refine HOn.isF ?_ ?_ | with_reducible refine pickK.isF ?_ ?_); focus (first | with_reducible rfl | with_reducible assumption | (simp only [decide_eq_true_eq, decide_eq_false_iff_not, beq_iff_eq, beq_eq_false_iff_ne, Bool.not_eq_true', Bool.not_eq_false', Bool.and_eq_true, Bool.or_eq_true, Bool.and_eq_false_imp, Bool.or_eq_false_iff, Bool.not_eq_true, Bool.not_eq_false, Int.not_lt, Int.not_le, ne_eq, List.length_map, List.length_append, List.length_cons, List.length_nil, List.length_take, List.length_drop, List.length_set, Int.natCast_add, Int.toNat_natCast, Nat.zero_add]; first | done | with_reducible assumption | omega)))
      | ((first | with_reducible refine GOn.split (fun h => ?_) (fun h => ?_) | with_reducible refine HOn.split (fun h => ?_) (fun h => ?_) | with_reducible refine pickK.split (fun h => ?_) (fun h => ?_)) <;> (try simp only [decide_eq_true_eq, decide_eq_false_iff_not, beq_iff_eq, beq_eq_false_iff_ne, Bool.not_eq_true', Bool.not_eq_false', Bool.and_eq_true, Bool.or_eq_true, Bool.and_eq_false_imp, Bool.or_eq_false_iff, Bool.not_eq_true, Bool.not_eq_false, Int.not_lt, Int.not_le, ne_eq] at h))
      | with_reducible refine AWP.drawAll tyOk mixed 6 (by kernel_rfl) fun K hK => ?_) <;> simp -dsimp (disch := (first | omega | (simp only [List.length_map, List.length_append, List.length_cons, List.length_nil, List.length_take, List.length_drop, List.length_set, Int.natCast_add, Int.toNat_natCast, Nat.zero_add]; omega))) only [go_sem, ↓reduceIte, Nat.reduceLT, Nat.reduceLeDiff, Nat.reduceEqDiff, Nat.reduceAdd, Nat.reduceMul, Nat.reduceSub, Nat.reduceBEq, Nat.reduceBNe, Int.reduceBEq, Int.reduceLT, Int.reduceLE, reduceCtorEq, Int.reduceToNat, hsz, hdt, e1])
    | ((with_reducible refine hK _ ?_); clear hK K)
    | with_reducible refine AWP.seq ?_
    | with_reducible refine thenQ_normal ?_
    | with_reducible refine AWP.block ?_
    | with_reducible refine AWP.skip ?_
    | with_reducible refine AWP.ret ?_
    | with_reducible refine thenQ_ret ?_
    | with_reducible refine blockQ_ret ?_
    | with_reducible refine AWP.exit ?_
    | with_reducible refine thenQ_exit ?_
    | with_reducible refine blockQ_normal ?_
    | with_reducible refine blockQ_exit ?_
    | refine blockQ_exit_ne rfl ?_
    | (with_reducible refine And.intro (by (first | with_reducible rfl | with_reducible assumption | omega | (simp only [List.length_map, List.length_append, List.length_cons, List.length_nil, List.length_take, List.length_drop, List.length_set, Int.natCast_add, Int.toNat_natCast, Nat.zero_add]; first | done | with_reducible rfl | omega) | (simp only [decide_eq_true_eq, decide_eq_false_iff_not, beq_iff_eq, beq_eq_false_iff_ne, Bool.not_eq_true', Bool.not_eq_false', Bool.and_eq_true, Bool.or_eq_true, Bool.and_eq_false_imp, Bool.or_eq_false_iff, Bool.not_eq_true, Bool.not_eq_false, Int.not_lt, Int.not_le, ne_eq, List.length_map, List.length_append, List.length_cons, List.length_nil, List.length_take, List.length_drop, List.length_set, Int.natCast_add, Int.toNat_natCast, Nat.zero_add]; first | done | with_reducible assumption | omega))) ?_)
    | ((with_reducible refine AWP.condG (T := TT) (b := ?_) ?_ ?_); rotate_left; exact rfl)
    | with_reducible refine CondG.t ?_
    | with_reducible refine CondG.f ?_
    | with_reducible refine CondG.not ?_
    | ((first | with_reducible refine CondG.isT ?_ ?_); focus (first | with_reducible rfl | with_reducible assumption | (simp only [decide_eq_true_eq, decide_eq_false_iff_not, beq_iff_eq, beq_eq_false_iff_ne, Bool.not_eq_true', Bool.not_eq_false', Bool.and_eq_true, Bool.or_eq_true, Bool.and_eq_false_imp, Bool.or_eq_false_iff, Bool.not_eq_true, Bool.not_eq_false, Int.not_lt, Int.not_le, ne_eq, List.length_map, List.length_append, List.length_cons, List.length_nil, List.length_take, List.length_drop, List.length_set, Int.natCast_add, Int.toNat_natCast, Nat.zero_add]; first | done | with_reducible assumption | omega)))
    | ((first | with_reducible refine CondG.isF ?_ ?_); focus (first | with_reducible rfl | with_reducible assumption | (simp only [decide_eq_true_eq, decide_eq_false_iff_not, beq_iff_eq, beq_eq_false_iff_ne, Bool.not_eq_true', Bool.not_eq_false', Bool.and_eq_true, Bool.or_eq_true, Bool.and_eq_false_imp, Bool.or_eq_false_iff, Bool.not_eq_true, Bool.not_eq_false, Int.not_lt, Int.not_le, ne_eq, List.length_map, List.length_append, List.length_cons, List.length_nil, List.length_take, List.length_drop, List.length_set, Int.natCast_add, Int.toNat_natCast, Nat.zero_add]; first | done | with_reducible assumption | omega)))
    | ((with_reducible refine CondG.split (fun h => ?_) (fun h => ?_)) <;> (try simp only [decide_eq_true_eq, decide_eq_false_iff_not, beq_iff_eq, beq_eq_false_iff_ne, Bool.not_eq_true', Bool.not_eq_false', Bool.and_eq_true, Bool.or_eq_true, Bool.and_eq_false_imp, Bool.or_eq_false_iff, Bool.not_eq_true, Bool.not_eq_false, Int.not_lt, Int.not_le, ne_eq] at h)))
  all_goals first
    | (
       simp -dsimp (disch := (first | omega | (simp only [List.length_map, List.length_append, List.length_cons, List.length_nil, List.length_take, List.length_drop, List.length_set, Int.natCast_add, Int.toNat_natCast, Nat.zero_add]; omega))) only [retQ, Try.results16, resVals, cellRV, resOf, St.rest, St.freeze, keepL_nil, keepL_nil', keepL_cons, dropL_nil, dropL_nil', dropL_cons, topL_int, topL_bool, topL_str, topL_sl, topL_nil, topL_own, topL_fz, topL_any, topL_ref, topL_ptr, topL_eptr, allIn_nil, allIn_cons, go_sem, ↓reduceIte, Nat.reduceLT, Nat.reduceLeDiff, Nat.reduceEqDiff, Nat.reduceAdd, Nat.reduceMul, Nat.reduceSub, Nat.reduceBEq, Nat.reduceBNe, Int.reduceBEq, Int.reduceLT, Int.reduceLE, reduceCtorEq, Int.reduceToNat]
       simp only [digit]
       first
         | (have : bs.length < 1 := by omega
            simp [this]
            done)
         | (have : 12 < bs.length := by omega
            simp [this]
            done)
         | (have h1 : (48 : Int) ≤ ((bs.getD 0 0).toNat : Int) := by omega
            have h2 : ((bs.getD 0 0).toNat : Int) ≤ 57 := by omega
            simp only [h1, h2, decide_true, Bool.and_true, Bool.or_true, Bool.not_true, Bool.false_and]
            done))
    | (have hd : digit (bs.getD 0 0) = false := by
         simp only [digit, Bool.and_eq_false_imp, decide_eq_true_eq, decide_eq_false_iff_not]
         omega
       have hb : ¬ bs.length < 1 := by omega
       have h12 : ¬ 12 < bs.length := by omega
       refine AWP.loop (ι := {k : Nat // k ≤ bs.length ∧ (bs.drop k).all okByte = bs.all okByte}) (fun k => ⟨45, [(24, .v (.one (.sl 1 (bs.map fun b => [L.int .u8 (b.toNat : Int)])))), (25, .v (oI bs.length)), (26, .v (oI k.1))], [], []⟩) (fun k => bs.length - k.1) ⟨0, Nat.zero_le _, rfl⟩ ?_ fun ⟨k, hkl, hi⟩ => ?_
       · exact St.le_mk (by simp only [allIn_cons, allIn_nil, look_cons, look_nil, Nat.reduceEqDiff, reduceIte, and_self, and_true, true_and, Option.some.injEq, Nat.reduceSub, List.take_zero, List.map_nil, List.map_cons, List.map_append, Int.natCast_zero, Int.natCast_add, Int.natCast_one, eVal, eRow, eRow1, eRows, eInt1, eInts, eCol, eCols, eTbl, eTbls, eFK, eFKs, eCon, eCons, eSch, eRel, eInst, eChg, eChgs]) (by simp only [allIn_cons, allIn_nil, look_cons, look_nil, Nat.reduceEqDiff, reduceIte, and_self, and_true, true_and, Option.some.injEq, List.take_zero, List.map_nil, List.map_cons, List.map_append, Int.natCast_add, Int.natCast_one, eVal, eRow, eRow1, eRows, eInt1, eInts, eCol, eCols, eTbl, eTbls, eFK, eFKs, eCon, eCons, eSch, eRel, eInst, eChg, eChgs]) (by simp only [allIn_cons, allIn_nil, look_cons, look_nil, Nat.reduceEqDiff, reduceIte, and_self, and_true, true_and, Option.some.injEq, RowC.mk.injEq, List.take_zero, List.map_nil, List.map_cons, List.map_append, Int.natCast_add, Int.natCast_one, eVal, eRow, eRow1, eRows, eInt1, eInts, eCol, eCols, eTbl, eTbls, eFK, eFKs, eCon, eCons, eSch, eRel, eInst, eChg, eChgs])
       repeat' (first
         | ((first
           | with_reducible refine AWP.regionL tyOk fun K hK => ?_
           | ((first | with_reducible refine GOn.isT ?_ ?_ | with_reducible refine HOn.isT ?_ ?_ | with_reducible refine pickK.isT ?_ ?_); focus (first | with_reducible rfl | with_reducible assumption | (simp only [decide_eq_true_eq, decide_eq_false_iff_not, beq_iff_eq, beq_eq_false_iff_ne, Bool.not_eq_true', Bool.not_eq_false', Bool.and_eq_true, Bool.or_eq_true, Bool.and_eq_false_imp, Bool.or_eq_false_iff, Bool.not_eq_true, Bool.not_eq_false, Int.not_lt, Int.not_le, ne_eq, List.length_map, List.length_append, List.length_cons, List.length_nil, List.length_take, List.length_drop, List.length_set, Int.natCast_add, Int.toNat_natCast, Nat.zero_add]; first | done | with_reducible assumption | omega)))
           | ((first | with_reducible refine GOn.isF ?_ ?_ | with_reducible refine HOn.isF ?_ ?_ | with_reducible refine pickK.isF ?_ ?_); focus (first | with_reducible rfl | with_reducible assumption | (simp only [decide_eq_true_eq, decide_eq_false_iff_not, beq_iff_eq, beq_eq_false_iff_ne, Bool.not_eq_true', Bool.not_eq_false', Bool.and_eq_true, Bool.or_eq_true, Bool.and_eq_false_imp, Bool.or_eq_false_iff, Bool.not_eq_true, Bool.not_eq_false, Int.not_lt, Int.not_le, ne_eq, List.length_map, List.length_append, List.length_cons, List.length_nil, List.length_take, List.length_drop, List.length_set, Int.natCast_add, Int.toNat_natCast, Nat.zero_add]; first | done | with_reducible assumption | omega)))
           | ((first | with_reducible refine GOn.split (fun h => ?_) (fun h => ?_) | with_reducible refine HOn.split (fun h => ?_) (fun h => ?_) | with_reducible refine pickK.split (fun h => ?_) (fun h => ?_)) <;> (try simp only [decide_eq_true_eq, decide_eq_false_iff_not, beq_iff_eq, beq_eq_false_iff_ne, Bool.not_eq_true', Bool.not_eq_false', Bool.and_eq_true, Bool.or_eq_true, Bool.and_eq_false_imp, Bool.or_eq_false_iff, Bool.not_eq_true, Bool.not_eq_false, Int.not_lt, Int.not_le, ne_eq] at h))
           | with_reducible refine AWP.drawAll tyOk mixed 6 (by kernel_rfl) fun K hK => ?_) <;> simp -dsimp (disch := (first | omega | (simp only [List.length_map, List.length_append, List.length_cons, List.length_nil, List.length_take, List.length_drop, List.length_set, Int.natCast_add, Int.toNat_natCast, Nat.zero_add]; omega))) only [go_sem, ↓reduceIte, Nat.reduceLT, Nat.reduceLeDiff, Nat.reduceEqDiff, Nat.reduceAdd, Nat.reduceMul, Nat.reduceSub, Nat.reduceBEq, Nat.reduceBNe, Int.reduceBEq, Int.reduceLT, Int.reduceLE, reduceCtorEq, Int.reduceToNat])
         | ((with_reducible refine hK _ ?_); clear hK K)
         | with_reducible refine AWP.seq ?_
         | with_reducible refine thenQ_normal ?_
         | with_reducible refine AWP.block ?_
         | with_reducible refine AWP.skip ?_
         | with_reducible refine AWP.ret ?_
         | with_reducible refine thenQ_ret ?_
         | with_reducible refine blockQ_ret ?_
         | with_reducible refine AWP.exit ?_
         | with_reducible refine thenQ_exit ?_
         | with_reducible refine blockQ_normal ?_
         | with_reducible refine blockQ_exit ?_
         | refine blockQ_exit_ne rfl ?_
         | (with_reducible refine And.intro (by (first | with_reducible rfl | with_reducible assumption | omega | (simp only [List.length_map, List.length_append, List.length_cons, List.length_nil, List.length_take, List.length_drop, List.length_set, Int.natCast_add, Int.toNat_natCast, Nat.zero_add]; first | done | with_reducible rfl | omega) | (simp only [decide_eq_true_eq, decide_eq_false_iff_not, beq_iff_eq, beq_eq_false_iff_ne, Bool.not_eq_true', Bool.not_eq_false', Bool.and_eq_true, Bool.or_eq_true, Bool.and_eq_false_imp, Bool.or_eq_false_iff, Bool.not_eq_true, Bool.not_eq_false, Int.not_lt, Int.not_le, ne_eq, List.length_map, List.length_append, List.length_cons, List.length_nil, List.length_take, List.length_drop, List.length_set, Int.natCast_add, Int.toNat_natCast, Nat.zero_add]; first | done | with_reducible assumption | omega))) ?_)
         | ((with_reducible refine AWP.condG (T := TT) (b := ?_) ?_ ?_); rotate_left; exact rfl)
         | with_reducible refine CondG.t ?_
         | with_reducible refine CondG.f ?_
         | with_reducible refine CondG.not ?_
         | ((first | with_reducible refine CondG.isT ?_ ?_); focus (first | with_reducible rfl | with_reducible assumption | (simp only [decide_eq_true_eq, decide_eq_false_iff_not, beq_iff_eq, beq_eq_false_iff_ne, Bool.not_eq_true', Bool.not_eq_false', Bool.and_eq_true, Bool.or_eq_true, Bool.and_eq_false_imp, Bool.or_eq_false_iff, Bool.not_eq_true, Bool.not_eq_false, Int.not_lt, Int.not_le, ne_eq, List.length_map, List.length_append, List.length_cons, List.length_nil, List.length_take, List.length_drop, List.length_set, Int.natCast_add, Int.toNat_natCast, Nat.zero_add]; first | done | with_reducible assumption | omega)))
         | ((first | with_reducible refine CondG.isF ?_ ?_); focus (first | with_reducible rfl | with_reducible assumption | (simp only [decide_eq_true_eq, decide_eq_false_iff_not, beq_iff_eq, beq_eq_false_iff_ne, Bool.not_eq_true', Bool.not_eq_false', Bool.and_eq_true, Bool.or_eq_true, Bool.and_eq_false_imp, Bool.or_eq_false_iff, Bool.not_eq_true, Bool.not_eq_false, Int.not_lt, Int.not_le, ne_eq, List.length_map, List.length_append, List.length_cons, List.length_nil, List.length_take, List.length_drop, List.length_set, Int.natCast_add, Int.toNat_natCast, Nat.zero_add]; first | done | with_reducible assumption | omega)))
         | ((with_reducible refine CondG.split (fun h => ?_) (fun h => ?_)) <;> (try simp only [decide_eq_true_eq, decide_eq_false_iff_not, beq_iff_eq, beq_eq_false_iff_ne, Bool.not_eq_true', Bool.not_eq_false', Bool.and_eq_true, Bool.or_eq_true, Bool.and_eq_false_imp, Bool.or_eq_false_iff, Bool.not_eq_true, Bool.not_eq_false, Int.not_lt, Int.not_le, ne_eq] at h)))
       all_goals first
         | (have hk : ¬ k < bs.length := by omega
            simp -dsimp (disch := (first | omega | (simp only [List.length_map, List.length_append, List.length_cons, List.length_nil, List.length_take, List.length_drop, List.length_set, Int.natCast_add, Int.toNat_natCast, Nat.zero_add]; omega))) only [retQ, Try.results16, resVals, cellRV, resOf, St.rest, St.freeze, keepL_nil, keepL_nil', keepL_cons, dropL_nil, dropL_nil', dropL_cons, topL_int, topL_bool, topL_str, topL_sl, topL_nil, topL_own, topL_fz, topL_any, topL_ref, topL_ptr, topL_eptr, allIn_nil, allIn_cons, go_sem, ↓reduceIte, Nat.reduceLT, Nat.reduceLeDiff, Nat.reduceEqDiff, Nat.reduceAdd, Nat.reduceMul, Nat.reduceSub, Nat.reduceBEq, Nat.reduceBNe, Int.reduceBEq, Int.reduceLT, Int.reduceLE, reduceCtorEq, Int.reduceToNat]
            rw [← hi, List.drop_of_length_le (by omega), hd]
            simp [hb, h12]
            done)
         | (have hk : k < bs.length := by omega
            have hstep : (bs.drop k).all okByte = (okByte bs[k] && (bs.drop (k + 1)).all okByte) := by rw [List.drop_eq_getElem_cons hk, List.all_cons]
            first
              | (have hok : okByte bs[k] = true := by
                   simp only [okByte, Bool.not_eq_true', Bool.and_eq_false_imp, Bool.or_eq_true, Bool.or_eq_false_iff, decide_eq_true_eq, decide_eq_false_iff_not]
                   omega
                 refine ⟨⟨k + 1, by omega, by rw [← hi, hstep, hok]; rfl⟩, by simp only; omega, ?_⟩
                 exact St.le_mk (by simp only [allIn_cons, allIn_nil, look_cons, look_nil, Nat.reduceEqDiff, reduceIte, and_self, and_true, true_and, Option.some.injEq, Nat.reduceSub, List.take_zero, List.map_nil, List.map_cons, List.map_append, Int.natCast_zero, Int.natCast_add, Int.natCast_one, eVal, eRow, eRow1, eRows, eInt1, eInts, eCol, eCols, eTbl, eTbls, eFK, eFKs, eCon, eCons, eSch, eRel, eInst, eChg, eChgs]) (by simp only [allIn_cons, allIn_nil, look_cons, look_nil, Nat.reduceEqDiff, reduceIte, and_self, and_true, true_and, Option.some.injEq, List.take_zero, List.map_nil, List.map_cons, List.map_append, Int.natCast_add, Int.natCast_one, eVal, eRow, eRow1, eRows, eInt1, eInts, eCol, eCols, eTbl, eTbls, eFK, eFKs, eCon, eCons, eSch, eRel, eInst, eChg, eChgs]) (by simp only [allIn_cons, allIn_nil, look_cons, look_nil, Nat.reduceEqDiff, reduceIte, and_self, and_true, true_and, Option.some.injEq, RowC.mk.injEq, List.take_zero, List.map_nil, List.map_cons, List.map_append, Int.natCast_add, Int.natCast_one, eVal, eRow, eRow1, eRows, eInt1, eInts, eCol, eCols, eTbl, eTbls, eFK, eFKs, eCon, eCons, eSch, eRel, eInst, eChg, eChgs])
                 done)
              | (have hok : okByte bs[k] = false := by
                   simp only [okByte, Bool.not_eq_false', Bool.and_eq_true, Bool.or_eq_true, decide_eq_true_eq]
                   omega
                 simp -dsimp (disch := (first | omega | (simp only [List.length_map, List.length_append, List.length_cons, List.length_nil, List.length_take, List.length_drop, List.length_set, Int.natCast_add, Int.toNat_natCast, Nat.zero_add]; omega))) only [retQ, Try.results16, resVals, cellRV, resOf, St.rest, St.freeze, keepL_nil, keepL_nil', keepL_cons, dropL_nil, dropL_nil', dropL_cons, topL_int, topL_bool, topL_str, topL_sl, topL_nil, topL_own, topL_fz, topL_any, topL_ref, topL_ptr, topL_eptr, allIn_nil, allIn_cons, go_sem, ↓reduceIte, Nat.reduceLT, Nat.reduceLeDiff, Nat.reduceEqDiff, Nat.reduceAdd, Nat.reduceMul, Nat.reduceSub, Nat.reduceBEq, Nat.reduceBNe, Int.reduceBEq, Int.reduceLT, Int.reduceLE, reduceCtorEq, Int.reduceToNat]
                 rw [← hi, hstep, hok]
                 simp)))
end Go.Bw
