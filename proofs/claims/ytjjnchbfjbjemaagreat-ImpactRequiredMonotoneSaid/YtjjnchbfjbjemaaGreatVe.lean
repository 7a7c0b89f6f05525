/-
  WHAT IS PROVED HERE, of this translation: compareInts_sat, getD_lt, compare_sat, idx_step, idx_hit, idx_end, indexFuncTbl_sat, indexFuncCol_sat, indexFuncFK_sat, findTable1_sat, findColumn1_sat, findTable_sat, .., take_no, splitFK_cols, splitCon_cols, split_lens, split_rc, dropFK1_sat, part1_sat, partFK_snoc, partCon_snoc, partFK_len, partCon_len.
  A theorem that ends in sat says what the function it names returns, whatever the state it is called in; the bounds on its arguments stand ahead of it.
-/
import Derived.Test.YtjjnchbfjbjemaaGreatVd
set_option linter.unusedSimpArgs false
set_option linter.unusedVariables false
namespace Go.Bw
open Go.Proofs
attribute [local go_sem ↓] VOps_nil VOps_cons VOp_callJ VVal_callH VOps_guard GOn_tt GOn_ff GOn_tf GOn_ft GOn_not GOn_none HOn_none HOn_tt HOn_ff HOn_tf HOn_ft HOn_not VHead_nil VHead_cons VHead_guard VVal_move VVal_assign VVal_pickE pickK_true pickK_false VVal_not VVal_neg negK_int VVal_load loadK_fz loadK_ptr loadK_eptr VVal_fieldAddr VVal_field VVal_indexAddr idxK_sl idxK_ref VVal_index indexK_str VVal_extract VVal_binOp binK_one binK_agg VVal_build VVal_buildSlice VVal_makeFunc VVal_slice sliceK_str sliceK_sl sliceK_nil sliceK_ref VVal_slice3 VVal_nilCheck VVal_convert convKk_int convKk_str VVal_len VVal_max VVal_min VOp_assign assignK_int assignK_bool assignK_str assignK_clo assignK_sl assignK_nil assignK_ref assignK_agg assignK_fz assignK_ptr assignK_eptr assignK_any VOp_box VOp_alloc VOp_store storeK_ptr storeK_eptr VOp_buildSlice VOp_append appK_rr appK_rs appK_rn appK_ri appK_nr appK_ns appK_nn appK_ni appStd_eq VOp_copy copyK_ref VOp_clear clearK_ref VOp_cap VOp_eqNil VOp_move VOp_pick VOp_not VOp_neg VOp_load VOp_fieldAddr VOp_field VOp_indexAddr VOp_index VOp_extract VOp_binTmp VOp_binInt VOp_binStr VOp_binPtr VOp_build VOp_makeFunc VOp_slice VOp_nilCheck VOp_convert VOp_len VOp_max VOp_min mO_some mT_some pk_some pk_none look_cons del_cons
attribute [local go_sem] guardB gOf int_bne beq_true beq_false Bool.not_not gSlot pickK_true pickK_false negK_int loadK_fz loadK_ptr loadK_eptr idxK_sl idxK_ref indexK_str binK_one binK_agg sliceK_str sliceK_sl sliceK_nil sliceK_ref convKk_int convKk_str maxL minL assignK_int assignK_bool assignK_str assignK_clo assignK_sl assignK_nil assignK_ref assignK_agg assignK_fz assignK_ptr assignK_eptr assignK_any nilRow_eq takeRow_eq appended_eq storeK_ptr storeK_eptr store_mk appIn_eq appMk_eq marked_eq ovOut_nil ovOut_cons ovIn_nil ovIn_cons padRow_eq ysC capK_nil capK_ref ioSt_mk outB_nil outR_nil outB outR inB_nil inB_cons inR_nil inR_cons L.kl L.kl0 L.ids L.ids0 Option.getD_some evalO constA mO_some mT_some put_mk putO_some putO_none okD_some okD_none pk_some pk_none look_nil del_nil sput noBox_mk noRow_mk newBox_eq newRow0_eq St.killRow RowC.kill rowMap_mk rowOf ovAll ovAdd ovDel ovGet ovShift dstOf ysOf overlay_nil overlay_nil' overlay A.map V.map L.noPtr L.noPtr0 L.noRow L.noRow0 L.peek L.norm L.flat clos_int clos_bool clos_str clos_sl clos_nil clos_any clos_fz L.clos L.isFz L.kd moveL fieldOff eqCells eqCell eqOp oneOf boolOf intOfA tupOf vOf aggOf isPtrLike isSlice lenKind lenL nL elemTI loadV asV binL intBin intDivL shrL boolBin strBin strAdd ptrNil boundN partCells fillL placesOf setL chunks repL capsOf capL callOf argsOf frzV_int frzV_bool frzV_str frzV_sl frzV_nil frzV_fz frzV_any frzV_own frzV_clo frzV_ref frzV_eptr frzV_ptr frzRow_nil frzRow_ov frzRs_nil frzRs_cons frzCs_nil frzCs_cons frzO_some frzO_none frzN_int frzN_bool frzN_str frzN_sl frzN_nil frzN_any frzN_own List.map_cons List.map_nil List.cons_append List.nil_append List.append_nil List.length_cons List.length_nil List.length_map List.length_append List.headD_cons List.tail_cons List.getElem?_cons_zero List.getElem?_cons_succ List.drop_zero List.drop_succ_cons List.drop_nil List.take_succ_cons List.take_zero List.take_nil List.take_length List.filter_cons List.filter_nil List.elem_cons List.elem_nil List.all_cons List.all_nil Option.bind_some Option.map_some Option.some.injEq bne_self_eq_false beq_self_eq_true if_true if_false Bool.false_eq_true true_and and_true and_self Nat.zero_add Nat.add_zero Nat.zero_le Int.toNat_natCast Int.toNat_zero Option.isSome_some List.getElem?_toArray decide_true decide_false ge_iff_le gt_iff_lt Bool.not_true Bool.not_false Nat.le_refl Bool.and_true Bool.true_and Bool.and_false Bool.false_and eVal eRow eRow1 eRows eInt1 eInts eCol eCols eTbl eTbls eFK eFKs eCon eCons eSch eRel eInst eChg eChgs szOf getD_map_lt wrap_nat wrap_in List.take_of_length_le frz_eVal frz_eRow1 frz_eInt1 frz_eCol frz_eTbl frz_eFK frz_eCon frz_eRel frz_eChg noOwn_nil noOwn_cons noOwn_append L.isOwn noOwn_eVal noOwn_eRow1 noOwn_eInt1 noOwn_eCol noOwn_eTbl noOwn_eFK noOwn_eCon noOwn_eRel noOwn_eChg convK_2 convK_3 convK_5 convK_12 convK_21 convK_32 convK_95 convK_119 convK_122 convK_152 convK_169 TT_2 TT_3 TT_4 TT_5 TT_9 TT_12 TT_13 TT_21 TT_22 TT_23 TT_24 TT_25 TT_26 TT_27 TT_28 TT_29 TT_31 TT_32 TT_36 TT_37 TT_42 TT_43 TT_44 TT_48 TT_49 TT_56 TT_61 TT_72 TT_73 TT_74 TT_85 TT_86 TT_89 TT_90 TT_91 TT_92 TT_95 TT_98 TT_113 TT_114 TT_116 TT_117 TT_119 TT_122 TT_145 TT_152 TT_169 boolTy_4 eqK_37 eqK_90 eqK_92 eqK_114
attribute [local congr] VOps.congr VHead.congr VOp.congr VVal.congr pk.congr assignK.congr appK.congr appStd.congr copyK.congr clearK.congr storeK.congr loadK.congr idxK.congr sliceK.congr indexK.congr binK.congr convKk.congr
theorem compareInts_sat (a b:Int):Sat Tryz.prog 107 [oI a,oI b] (.v (oI (cmpInts a b))):=by
 refine sS tyOk Tryz.func107 fun w0 m0 F0=>?_
 simp only [Tryz.ntmps107,envOf,Nat.reduceAdd]
 repeat' (first|((with_reducible refine qV tyOk fun K hK=>?_)<;>simp -dsimp (disch:=first|exact D|fail) only [go_sem,↓reduceIte,seval])|((with_reducible refine hK _ ?_);clear hK K)|refine Q1 ?_|((with_reducible refine qW (T:=TT) (b:=?_) ?_ ?_);rotate_left;exact rfl)|((with_reducible refine yS ?_ ?_)<;>(intro h;try simp only [NM] at h))|fail)
 all_goals simp -dsimp (disch:=first|exact D|fail) only [retQ,Tryz.results107,resVals,cellRV,resOf,St.rest,St.freeze,RT,go_sem,↓reduceIte,seval]
 all_goals simp [cmpInts, *]
 all_goals omega
def keyCell (r:Row) (c:Int):Val:=if 0≤c∧c<r.length then r.getD c.toNat zV else zV
def keyOf (pk:List Int) (r:Row):Row:=pk.map (keyCell r)
theorem getD_lt {α:Type} {l:List α} {i:Nat} (d:α) (h:i<l.length):l.getD i d=l[i]:=by simp [List.getD,h]
def satV (a:Val) (op:ByteArray) (b:Val):Bool :=
 if !opOk op then false else if a.kind==0||b.kind==0 then true else
 cmpV a b==0&&!sEq op opLt||decide (cmpV a b<0)&&!sEq op opEq
set_option maxHeartbeats 4000000 in
set_option maxRecDepth 4000 in
theorem compare_sat (a b:Val):Sat Tryz.prog 81 [.agg (eVal a),.agg (eVal b)] (.v (oI (cmpV a b))):=by
 refine sS tyOk Tryz.func81 fun w0 m0 F0=>?_
 simp only [Tryz.ntmps81,envOf,Nat.reduceAdd]
 repeat' (first|((first|with_reducible refine qV tyOk fun K hK=>?_|((with_reducible refine CallJ.is ?_);(first|refine CallJ.pure (compareInts_sat _ _) ?_|refine CallJ.pure (stringsCompare_sat _ _) ?_)))<;>simp -dsimp (disch:=first|exact D|fail) only [go_sem,↓reduceIte,seval])|((with_reducible refine hK _ ?_);clear hK K)|refine Q1 ?_|((with_reducible refine qW (T:=TT) (b:=?_) ?_ ?_);rotate_left;exact rfl)|((with_reducible refine yS ?_ ?_)<;>(intro h;try simp only [NM] at h))|fail)
 all_goals simp -dsimp (disch:=first|exact D|fail) only [retQ,Tryz.results81,resVals,cellRV,resOf,St.rest,St.freeze,RT,go_sem,↓reduceIte,seval]
 all_goals simp_all [cmpV]
theorem idx_step {α:Type} {p:α→Bool} {l:List α} {k:Nat} (hk:k<l.length) (h:p l[k]=false):idx p (l.drop (k+1)) (k+1)=idx p (l.drop k) k:=by
 rw [List.drop_eq_getElem_cons hk,idx,h]
 simp
theorem idx_hit {α:Type} {p:α→Bool} {l:List α} {k:Nat} (hk:k<l.length) (h:p l[k]=true):idx p (l.drop k) k=k:=by
 rw [List.drop_eq_getElem_cons hk,idx,h]
 simp
theorem idx_end {α:Type} {p:α→Bool} {l:List α} {k:Nat} (hk:¬ k<l.length):idx p (l.drop k) k=-1:=by
 rw [List.drop_of_length_le (by omega),idx]
set_option maxHeartbeats 4000000 in
theorem indexFuncTbl_sat (l : List Tbl) (f : Nat) (cs : List L) (p : Tbl → Bool) (hlen : l.length ≤ 140737488355328) (hp : ∀ t ∈ l, Sat Tryz.prog f (.agg (eTbl t) :: cs.map .one) (.v (oB (p t)))) :
    Sat Tryz.prog 79 [.one (eTbls l), .one (.clo f cs)] (.v (oI (idx p l 0))) := by
  refine sS tyOk Tryz.func79 fun w0 m0 F0 => ?_
  simp only [Tryz.ntmps79, envOf, Nat.reduceAdd]
  repeat' (first | ((with_reducible refine qV tyOk fun K hK => ?_) <;> simp -dsimp (disch := first | exact D | fail) only [go_sem, ↓reduceIte, seval]) | ((with_reducible refine hK _ ?_); clear hK K) | refine Q1 ?_ | fail)
  refine AWP.loop (ι := {k : Nat // k ≤ l.length ∧ idx p (l.drop k) k = idx p l 0}) (fun k => ⟨19, [(0, .v (.one (eTbls l))), (1, .v (.one (.clo f cs))), (7, .v (oI l.length)), (8, .v (oI k.1))], [], []⟩) (fun k => l.length - k.1) ⟨0, Nat.zero_le _, rfl⟩ ?_ fun ⟨k, hkl, hi⟩ => ?_
  · refine St.le_mk ?_ ?_ ?_ <;> simp only [LE, EN, Nat.reduceEqDiff, reduceIte, Nat.reduceSub]
  repeat' (first | ((first | with_reducible refine qV tyOk fun K hK => ?_ | ((with_reducible refine CallJ.is ?_); (refine CallJ.pure (hp _ (List.getElem_mem (by omega))) ?_))) <;> simp -dsimp (disch := first | exact D | fail) only [go_sem, ↓reduceIte, seval]) | ((with_reducible refine hK _ ?_); clear hK K) | refine Q1 ?_ | ((with_reducible refine qW (T := TT) (b := ?_) ?_ ?_); rotate_left; exact rfl) | ((with_reducible refine yS ?_ ?_) <;> (intro h; try simp only [NM] at h)) | fail)
  all_goals first 
    | (have hk : ¬ k < l.length := by omega
       simp -dsimp (disch := first | exact D | fail) only [retQ, Tryz.results79, resVals, cellRV, resOf, St.rest, St.freeze, RT, go_sem, ↓reduceIte, seval]
       rw [← hi, idx_end hk]
       done)
    | (
       simp -dsimp (disch := first | exact D | fail) only [retQ, Tryz.results79, resVals, cellRV, resOf, St.rest, St.freeze, RT, go_sem, ↓reduceIte, seval]
       rw [← hi, idx_hit _ ‹_›])
    | (refine ⟨⟨k + 1, by omega, by rw [idx_step _ ‹_›, hi]⟩, by simp only; omega, ?_⟩
       refine St.le_mk ?_ ?_ ?_ <;> simp only [LE, EN, Nat.reduceEqDiff, reduceIte, Nat.reduceSub]
       )

set_option maxHeartbeats 4000000 in
theorem indexFuncCol_sat (l : List Col) (f : Nat) (cs : List L) (p : Col → Bool) (hlen : l.length ≤ 140737488355328) (hp : ∀ t ∈ l, Sat Tryz.prog f (.agg (eCol t) :: cs.map .one) (.v (oB (p t)))) :
    Sat Tryz.prog 77 [.one (eCols l), .one (.clo f cs)] (.v (oI (idx p l 0))) := by
  refine sS tyOk Tryz.func77 fun w0 m0 F0 => ?_
  simp only [Tryz.ntmps77, envOf, Nat.reduceAdd]
  repeat' (first | ((with_reducible refine qV tyOk fun K hK => ?_) <;> simp -dsimp (disch := first | exact D | fail) only [go_sem, ↓reduceIte, seval]) | ((with_reducible refine hK _ ?_); clear hK K) | refine Q1 ?_ | fail)
  refine AWP.loop (ι := {k : Nat // k ≤ l.length ∧ idx p (l.drop k) k = idx p l 0}) (fun k => ⟨19, [(0, .v (.one (eCols l))), (1, .v (.one (.clo f cs))), (7, .v (oI l.length)), (8, .v (oI k.1))], [], []⟩) (fun k => l.length - k.1) ⟨0, Nat.zero_le _, rfl⟩ ?_ fun ⟨k, hkl, hi⟩ => ?_
  · refine St.le_mk ?_ ?_ ?_ <;> simp only [LE, EN, Nat.reduceEqDiff, reduceIte, Nat.reduceSub]
  repeat' (first | ((first | with_reducible refine qV tyOk fun K hK => ?_ | ((with_reducible refine CallJ.is ?_); (refine CallJ.pure (hp _ (List.getElem_mem (by omega))) ?_))) <;> simp -dsimp (disch := first | exact D | fail) only [go_sem, ↓reduceIte, seval]) | ((with_reducible refine hK _ ?_); clear hK K) | refine Q1 ?_ | ((with_reducible refine qW (T := TT) (b := ?_) ?_ ?_); rotate_left; exact rfl) | ((with_reducible refine yS ?_ ?_) <;> (intro h; try simp only [NM] at h)) | fail)
  all_goals first 
    | (have hk : ¬ k < l.length := by omega
       simp -dsimp (disch := first | exact D | fail) only [retQ, Tryz.results77, resVals, cellRV, resOf, St.rest, St.freeze, RT, go_sem, ↓reduceIte, seval]
       rw [← hi, idx_end hk]
       done)
    | (
       simp -dsimp (disch := first | exact D | fail) only [retQ, Tryz.results77, resVals, cellRV, resOf, St.rest, St.freeze, RT, go_sem, ↓reduceIte, seval]
       rw [← hi, idx_hit _ ‹_›])
    | (refine ⟨⟨k + 1, by omega, by rw [idx_step _ ‹_›, hi]⟩, by simp only; omega, ?_⟩
       refine St.le_mk ?_ ?_ ?_ <;> simp only [LE, EN, Nat.reduceEqDiff, reduceIte, Nat.reduceSub]
       )

set_option maxHeartbeats 4000000 in
theorem indexFuncFK_sat (l : List FK) (f : Nat) (cs : List L) (p : FK → Bool) (hlen : l.length ≤ 140737488355328) (hp : ∀ t ∈ l, Sat Tryz.prog f (.agg (eFK t) :: cs.map .one) (.v (oB (p t)))) :
    Sat Tryz.prog 68 [.one (eFKs l), .one (.clo f cs)] (.v (oI (idx p l 0))) := by
  refine sS tyOk Tryz.func68 fun w0 m0 F0 => ?_
  simp only [Tryz.ntmps68, envOf, Nat.reduceAdd]
  repeat' (first | ((with_reducible refine qV tyOk fun K hK => ?_) <;> simp -dsimp (disch := first | exact D | fail) only [go_sem, ↓reduceIte, seval]) | ((with_reducible refine hK _ ?_); clear hK K) | refine Q1 ?_ | fail)
  refine AWP.loop (ι := {k : Nat // k ≤ l.length ∧ idx p (l.drop k) k = idx p l 0}) (fun k => ⟨19, [(0, .v (.one (eFKs l))), (1, .v (.one (.clo f cs))), (7, .v (oI l.length)), (8, .v (oI k.1))], [], []⟩) (fun k => l.length - k.1) ⟨0, Nat.zero_le _, rfl⟩ ?_ fun ⟨k, hkl, hi⟩ => ?_
  · refine St.le_mk ?_ ?_ ?_ <;> simp only [LE, EN, Nat.reduceEqDiff, reduceIte, Nat.reduceSub]
  repeat' (first | ((first | with_reducible refine qV tyOk fun K hK => ?_ | ((with_reducible refine CallJ.is ?_); (refine CallJ.pure (hp _ (List.getElem_mem (by omega))) ?_))) <;> simp -dsimp (disch := first | exact D | fail) only [go_sem, ↓reduceIte, seval]) | ((with_reducible refine hK _ ?_); clear hK K) | refine Q1 ?_ | ((with_reducible refine qW (T := TT) (b := ?_) ?_ ?_); rotate_left; exact rfl) | ((with_reducible refine yS ?_ ?_) <;> (intro h; try simp only [NM] at h)) | fail)
  all_goals first 
    | (have hk : ¬ k < l.length := by omega
       simp -dsimp (disch := first | exact D | fail) only [retQ, Tryz.results68, resVals, cellRV, resOf, St.rest, St.freeze, RT, go_sem, ↓reduceIte, seval]
       rw [← hi, idx_end hk]
       done)
    | (
       simp -dsimp (disch := first | exact D | fail) only [retQ, Tryz.results68, resVals, cellRV, resOf, St.rest, St.freeze, RT, go_sem, ↓reduceIte, seval]
       rw [← hi, idx_hit _ ‹_›])
    | (refine ⟨⟨k + 1, by omega, by rw [idx_step _ ‹_›, hi]⟩, by simp only; omega, ?_⟩
       refine St.le_mk ?_ ?_ ?_ <;> simp only [LE, EN, Nat.reduceEqDiff, reduceIte, Nat.reduceSub]
       )

theorem findTable1_sat (t:Tbl) (name:ByteArray):Sat Tryz.prog 80 [.agg (eTbl t),.one (.fz [.str name])] (.v (oB (sEq t.name name))):=by
 refine sS tyOk Tryz.func80 fun w0 m0 F0=>?_
 simp only [Tryz.ntmps80,envOf,Nat.reduceAdd]
 repeat' (first|((with_reducible refine qV tyOk fun K hK=>?_)<;>simp -dsimp (disch:=first|exact D|fail) only [go_sem,↓reduceIte,seval])|((with_reducible refine hK _ ?_);clear hK K)|refine Q1 ?_|fail)
 simp -dsimp (disch:=first|exact D|fail) only [retQ,Tryz.results80,resVals,cellRV,resOf,St.rest,St.freeze,RT,go_sem,↓reduceIte,seval]
 rfl
theorem findColumn1_sat (t:Col) (name:ByteArray):Sat Tryz.prog 78 [.agg (eCol t),.one (.fz [.str name])] (.v (oB (sEq t.name name))):=by
 refine sS tyOk Tryz.func78 fun w0 m0 F0=>?_
 simp only [Tryz.ntmps78,envOf,Nat.reduceAdd]
 repeat' (first|((with_reducible refine qV tyOk fun K hK=>?_)<;>simp -dsimp (disch:=first|exact D|fail) only [go_sem,↓reduceIte,seval])|((with_reducible refine hK _ ?_);clear hK K)|refine Q1 ?_|fail)
 simp -dsimp (disch:=first|exact D|fail) only [retQ,Tryz.results78,resVals,cellRV,resOf,St.rest,St.freeze,RT,go_sem,↓reduceIte,seval]
 rfl
theorem findTable_sat (s:Sch) (name:ByteArray) (hlen:s.tables.length≤140737488355328):Sat Tryz.prog 67 [.agg (eSch s),oS name] (.tup [oI (mx0 (tblAt s.tables name)),oB (decide (0≤tblAt s.tables name))]):=by
 refine sS tyOk Tryz.func67 fun w0 m0 F0=>?_
 simp only [Tryz.ntmps67,envOf,Nat.reduceAdd]
 repeat' (first|((first|with_reducible refine qV tyOk fun K hK=>?_|((with_reducible refine CallJ.is ?_);(((apply CallJ.lentI);(focus (simp -dsimp (disch:=first|exact D|fail) only [go_sem,↓reduceIte,seval];rfl));(focus (first|exact (indexFuncTbl_sat s.tables _ [.fz [.str name]] _ hlen fun t _=>findTable1_sat t name)))))))<;>simp -dsimp (disch:=first|exact D|fail) only [go_sem,↓reduceIte,seval])|((with_reducible refine hK _ ?_);clear hK K)|refine Q1 ?_|fail)
 simp -dsimp (disch:=first|exact D|fail) only [retQ,Tryz.results67,resVals,cellRV,resOf,St.rest,St.freeze,RT,go_sem,↓reduceIte,seval]
 rfl
theorem findColumn_sat (s:Tbl) (name:ByteArray) (hlen:s.cols.length≤140737488355328):Sat Tryz.prog 66 [.agg (eTbl s),oS name] (.tup [oI (mx0 (colAt s.cols name)),oB (decide (0≤colAt s.cols name))]):=by
 refine sS tyOk Tryz.func66 fun w0 m0 F0=>?_
 simp only [Tryz.ntmps66,envOf,Nat.reduceAdd]
 repeat' (first|((first|with_reducible refine qV tyOk fun K hK=>?_|((with_reducible refine CallJ.is ?_);(((apply CallJ.lentI);(focus (simp -dsimp (disch:=first|exact D|fail) only [go_sem,↓reduceIte,seval];rfl));(focus (first|exact (indexFuncCol_sat s.cols _ [.fz [.str name]] _ hlen fun t _=>findColumn1_sat t name)))))))<;>simp -dsimp (disch:=first|exact D|fail) only [go_sem,↓reduceIte,seval])|((with_reducible refine hK _ ?_);clear hK K)|refine Q1 ?_|fail)
 simp -dsimp (disch:=first|exact D|fail) only [retQ,Tryz.results66,resVals,cellRV,resOf,St.rest,St.freeze,RT,go_sem,↓reduceIte,seval]
 rfl
theorem scan_step {α:Type} {f:Nat→α→Option Int} {l:List α} {k:Nat} (hk:k<l.length) (h:f k l[k]=none):scan f (l.drop (k+1)) (k+1)=scan f (l.drop k) k:=by
 rw [List.drop_eq_getElem_cons hk,scan,h]
theorem scan_hit {α:Type} {f:Nat→α→Option Int} {l:List α} {k:Nat} {e:Int} (hk:k<l.length) (h:f k l[k]=some e):scan f (l.drop k) k=some e:=by
 rw [List.drop_eq_getElem_cons hk,scan,h]
theorem scan_end {α:Type} {f:Nat→α→Option Int} {l:List α} {k:Nat} (hk:¬ k<l.length):scan f (l.drop k) k=none:=by
 rw [List.drop_of_length_le (by omega),scan]
theorem scan_leaf {α:Type} {f:Nat→α→Option Int} {l:List α} {k:Nat} {e:Int} (hk:k<l.length) (h:f k l[k]=some e) (hi:scan f (l.drop k) k=scan f l 0):scan f l 0=some e:=by
 rw [←hi,scan_hit hk h]
theorem take_next {α:Type} {a b:List α} {k:Nat} (h1:k<a.length) (h2:k<b.length) (h:a.take k=b.take k) (he:a[k]=b[k]):a.take (k+1)=b.take (k+1):=by
 rw [take_snoc a k h1,take_snoc b k h2,h,he]
theorem eq_of_take {α:Type} {a b:List α} {k:Nat} (h1:a.length≤k) (h2:b.length≤k) (h:a.take k=b.take k):a=b:=by
 rwa [List.take_of_length_le h1,List.take_of_length_le h2] at h
theorem ne_of_get {α:Type} {a b:List α} {k:Nat} (h1:k<a.length) (h2:k<b.length) (h:¬ a[k]=b[k]):¬ a=b:=fun e=>h (by subst e;rfl)
theorem ne_of_len {α:Type} {a b:List α} (h:¬ (a.length:Int)=b.length):¬ a=b:=fun e=>h (by rw [e])
set_option maxHeartbeats 4000000 in
theorem equalInts_sat (a b:List Int) (hl:a.length≤140737488355328):Sat Tryz.prog 56 [.one (eInts a),.one (eInts b)] (.v (oB (decide (a=b)))):=by
 refine sS tyOk Tryz.func56 fun w0 m0 F0=>?_
 simp only [Tryz.ntmps56,envOf,Nat.reduceAdd]
 repeat' (first|((with_reducible refine qV tyOk fun K hK=>?_)<;>simp -dsimp (disch:=first|exact D|fail) only [go_sem,↓reduceIte,seval])|((with_reducible refine hK _ ?_);clear hK K)|refine Q1 ?_|((with_reducible refine qW (T:=TT) (b:=?_) ?_ ?_);rotate_left;exact rfl)|((with_reducible refine yS ?_ ?_)<;>(intro h;try simp only [NM] at h))|fail)
 rotate_left
 ·simp -dsimp (disch:=first|exact D|fail) only [retQ,Tryz.results56,resVals,cellRV,resOf,St.rest,St.freeze,RT,go_sem,↓reduceIte,seval]
  simp [ne_of_len ‹_›]
 refine AWP.loop (ι:={k:Nat // k≤a.length∧a.take k=b.take k}) (fun k=>⟨26,[(0,.v (.one (eInts a))),(1,.v (.one (eInts b))),(12,.v (oI a.length)),(13,.v (oI k.1))],[],[]⟩) (fun k=>a.length - k.1) ⟨0,Nat.zero_le _,rfl⟩ ?_ fun ⟨k,hkl,hi⟩=>?_
 ·refine St.le_mk ?_ ?_ ?_<;>simp only [LE,EN,Nat.reduceEqDiff,reduceIte,Nat.reduceSub]
 repeat' (first|((first|with_reducible refine qV tyOk fun K hK=>?_|with_reducible refine yD tyOk mixed 6 (by kernel_rfl) fun K hK=>?_)<;>simp -dsimp (disch:=first|exact D|fail) only [go_sem,↓reduceIte,seval])|((with_reducible refine hK _ ?_);clear hK K)|refine Q1 ?_|((with_reducible refine qW (T:=TT) (b:=?_) ?_ ?_);rotate_left;exact rfl)|((with_reducible refine yS ?_ ?_)<;>(intro h;try simp only [NM] at h))|fail)
 ·have ha:k<a.length:=by omega
  have hb:k<b.length:=by omega
  rename_i h1 h2 h
  refine ⟨⟨k+1,by omega,take_next ha hb hi h⟩,by simp only;omega,?_⟩
  refine St.le_mk ?_ ?_ ?_<;>simp only [LE,EN,Nat.reduceEqDiff,reduceIte,Nat.reduceSub]
 ·have ha:k<a.length:=by omega
  have hb:k<b.length:=by omega
  simp -dsimp (disch:=first|exact D|fail) only [retQ,Tryz.results56,resVals,cellRV,resOf,St.rest,St.freeze,RT,go_sem,↓reduceIte,seval]
  rename_i h1 h
  simp [ne_of_get ha hb h]
 ·have ha:a.length≤k:=by omega
  have hb:b.length≤k:=by omega
  simp -dsimp (disch:=first|exact D|fail) only [retQ,Tryz.results56,resVals,cellRV,resOf,St.rest,St.freeze,RT,go_sem,↓reduceIte,seval]
  simp [eq_of_take ha hb hi]
set_option maxHeartbeats 4000000 in
theorem equalFKs_sat (a b:FK) (hl:a.cols.length≤140737488355328):Sat Tryz.prog 38 [.agg (eFK a),.agg (eFK b)] (.v (oB (fkEq a b))):=by
 refine sS tyOk Tryz.func38 fun w0 m0 F0=>?_
 simp only [Tryz.ntmps38,envOf,Nat.reduceAdd]
 repeat' (first|((first|with_reducible refine qV tyOk fun K hK=>?_|refine Q2 ?_|((with_reducible refine qS ?_ ?_)<;>(intro h;try simp only [NM] at h))|((with_reducible refine CallJ.is ?_);(refine CallJ.pure (equalInts_sat _ _ hl) ?_)))<;>simp -dsimp (disch:=first|exact D|fail) only [go_sem,↓reduceIte,seval])|((with_reducible refine hK _ ?_);clear hK K)|refine Q1 ?_|fail)
 all_goals simp -dsimp (disch:=first|exact D|fail) only [retQ,Tryz.results38,resVals,cellRV,resOf,St.rest,St.freeze,RT,go_sem,↓reduceIte,seval]
 all_goals simp_all [fkEq,sEq]
theorem containsFK_sat (l:List FK) (f:Nat) (cs:List L) (p:FK→Bool) (hlen:l.length≤140737488355328) (hp:∀t∈l,Sat Tryz.prog f (.agg (eFK t)::cs.map .one) (.v (oB (p t)))) :
  Sat Tryz.prog 48 [.one (eFKs l),.one (.clo f cs)] (.v (oB (decide (0≤idx p l 0)))):=by
 refine sS tyOk Tryz.func48 fun w0 m0 F0=>?_
 simp only [Tryz.ntmps48,envOf,Nat.reduceAdd]
 repeat' (first|((first|with_reducible refine qV tyOk fun K hK=>?_|((with_reducible refine CallJ.is ?_);(refine CallJ.pure (indexFuncFK_sat l _ _ _ hlen hp) ?_)))<;>simp -dsimp (disch:=first|exact D|fail) only [go_sem,↓reduceIte,seval])|((with_reducible refine hK _ ?_);clear hK K)|refine Q1 ?_|fail)
 simp -dsimp (disch:=first|exact D|fail) only [retQ,Tryz.results48,resVals,cellRV,resOf,St.rest,St.freeze,RT,go_sem,↓reduceIte,seval]
set_option maxHeartbeats 4000000 in
theorem satisfies_sat (a b:Val) (op:ByteArray):Sat Tryz.prog 69 [.agg (eVal a),oS op,.agg (eVal b)] (.tup [oB (satV a op b),oI (satE op)]):=by
 refine sS tyOk Tryz.func69 fun w0 m0 F0=>?_
 simp only [Tryz.ntmps69,envOf,Nat.reduceAdd]
 repeat' (first|((first|with_reducible refine qV tyOk fun K hK=>?_|refine Q2 ?_|((with_reducible refine qS ?_ ?_)<;>(intro h;try simp only [NM] at h))|((with_reducible refine CallJ.is ?_);(refine CallJ.pure (compare_sat _ _) ?_)))<;>simp -dsimp (disch:=first|exact D|fail) only [go_sem,↓reduceIte,seval])|((with_reducible refine hK _ ?_);clear hK K)|refine Q1 ?_|((with_reducible refine qW (T:=TT) (b:=?_) ?_ ?_);rotate_left;exact rfl)|((with_reducible refine yS ?_ ?_)<;>(intro h;try simp only [NM] at h))|fail)
 all_goals try simp -dsimp (disch:=first|exact D|fail) only [retQ,Tryz.results69,resVals,cellRV,resOf,St.rest,St.freeze,RT,go_sem,↓reduceIte,seval]
 all_goals try simp_all [satV,satE,sEq,opOk,opEq,opLt,opLe]
set_option maxHeartbeats 4000000 in
theorem validate_sat (v:Val):Sat Tryz.prog 70 [.agg (eVal v)] (.v (oI (valE v))):=by
 refine sS tyOk Tryz.func70 fun w0 m0 F0=>?_
 simp only [Tryz.ntmps70,envOf,Nat.reduceAdd]
 repeat' (first|((first|with_reducible refine qV tyOk fun K hK=>?_|refine Q2 ?_|((with_reducible refine qS ?_ ?_)<;>(intro h;try simp only [NM] at h)))<;>simp -dsimp (disch:=first|exact D|fail) only [go_sem,↓reduceIte,seval])|((with_reducible refine hK _ ?_);clear hK K)|refine Q1 ?_|((with_reducible refine qW (T:=TT) (b:=?_) ?_ ?_);rotate_left;exact rfl)|((with_reducible refine yS ?_ ?_)<;>(intro h;try simp only [NM] at h))|fail)
 all_goals simp -dsimp (disch:=first|exact D|fail) only [retQ,Tryz.results70,resVals,cellRV,resOf,St.rest,St.freeze,RT,go_sem,↓reduceIte,seval]
 all_goals simp_all [valE,sEq]
 all_goals omega
def cellE (t:Tbl) (k:Nat) (v:Val):Option Int :=
 if valE v≠0 then some (valE v) else if v.kind=0∧(t.cols.getD k zCol).nullable=false then some 8 else if v.kind≠0∧v.kind≠(t.cols.getD k zCol).kind then some 7 else none
def rowE (t:Tbl) (r:Row):Int :=
 if r.length≠t.cols.length then 3 else match scan (cellE t) r 0 with
  | some e=>e
  | none=>0
set_option maxHeartbeats 8000000 in
theorem cloneCols_own (r:List Col) (h1:r.length≤1099511627776):SatM Tryz.prog 72 [.one (eCols r)] [] [] (.v (.one (.ref 2 0 r.length))) [] [(2,⟨3,r.map eCol,[]⟩)]:=by
 refine sM tyOk [] [2] Tryz.func72 fun w0 m0 F0=>?_
 simp only [Tryz.ntmps72,envOf,Nat.reduceAdd]
 repeat' (first|((with_reducible refine qV tyOk fun K hK=>?_)<;>simp -dsimp (disch:=first|exact D|fail) only [go_sem,↓reduceIte,seval])|((with_reducible refine hK _ ?_);clear hK K)|refine Q1 ?_|fail)
 intro b hb
 refine hK _ ?_
 clear hK K
 repeat' (first|((with_reducible refine qV tyOk fun K hK=>?_)<;>simp -dsimp (disch:=first|exact D|fail) only [go_sem,↓reduceIte,seval])|((with_reducible refine hK _ ?_);clear hK K)|refine Q1 ?_|((with_reducible refine qW (T:=TT) (b:=?_) ?_ ?_);rotate_left;exact rfl)|((with_reducible refine yS ?_ ?_)<;>(intro h;try simp only [NM] at h))|fail)
 all_goals simp -dsimp (disch:=first|exact D|fail) only [retQ,Tryz.results72,resVals,cellRV,resOf,St.rest,St.freeze,RT,go_sem,↓reduceIte,seval]
 have h2:r=[]:=by
  cases r with
  | nil=>rfl
  | cons x r=>exact absurd ((hb _ rfl (by simp)).symm.trans ‹b=true›) (by decide)
 subst h2
 exact ⟨rfl,rfl⟩
theorem cloneCols_sat (r:List Col) (h1:r.length≤1099511627776):Sat Tryz.prog 72 [.one (eCols r)] (.v (.one (eCols r))) :=
 (cloneCols_own r h1).frz (by
  simp -dsimp (disch:=first|exact D|fail) only [go_sem,↓reduceIte,seval,topL_ref,St.rest,roots,dropL_nil,eCols]
  )
set_option maxHeartbeats 8000000 in
theorem cloneInts_own (r:List Int) (h1:r.length≤1099511627776):SatM Tryz.prog 54 [.one (eInts r)] [] [] (.v (.one (.ref 2 0 r.length))) [] [(2,⟨1,r.map eInt1,[]⟩)]:=by
 refine sM tyOk [] [2] Tryz.func54 fun w0 m0 F0=>?_
 simp only [Tryz.ntmps54,envOf,Nat.reduceAdd]
 repeat' (first|((with_reducible refine qV tyOk fun K hK=>?_)<;>simp -dsimp (disch:=first|exact D|fail) only [go_sem,↓reduceIte,seval])|((with_reducible refine hK _ ?_);clear hK K)|refine Q1 ?_|fail)
 intro b hb
 refine hK _ ?_
 clear hK K
 repeat' (first|((with_reducible refine qV tyOk fun K hK=>?_)<;>simp -dsimp (disch:=first|exact D|fail) only [go_sem,↓reduceIte,seval])|((with_reducible refine hK _ ?_);clear hK K)|refine Q1 ?_|((with_reducible refine qW (T:=TT) (b:=?_) ?_ ?_);rotate_left;exact rfl)|((with_reducible refine yS ?_ ?_)<;>(intro h;try simp only [NM] at h))|fail)
 all_goals simp -dsimp (disch:=first|exact D|fail) only [retQ,Tryz.results54,resVals,cellRV,resOf,St.rest,St.freeze,RT,go_sem,↓reduceIte,seval]
 have h2:r=[]:=by
  cases r with
  | nil=>rfl
  | cons x r=>exact absurd ((hb _ rfl (by simp)).symm.trans ‹b=true›) (by decide)
 subst h2
 exact ⟨rfl,rfl⟩
theorem cloneInts_sat (r:List Int) (h1:r.length≤1099511627776):Sat Tryz.prog 54 [.one (eInts r)] (.v (.one (eInts r))) :=
 (cloneInts_own r h1).frz (by
  simp -dsimp (disch:=first|exact D|fail) only [go_sem,↓reduceIte,seval,topL_ref,St.rest,roots,dropL_nil,eInts]
  )
set_option maxHeartbeats 8000000 in
theorem cloneTable_sat (t:Tbl) (h1:t.cols.length≤1099511627776) (h2:t.pk.length≤1099511627776):Sat Tryz.prog 53 [.agg (eTbl t)] (.v (.agg (eTbl t))):=by
 refine sS tyOk Tryz.func53 fun w0 m0 F0=>?_
 simp only [Tryz.ntmps53,envOf,Nat.reduceAdd]
 repeat' (first|((with_reducible refine qV tyOk fun K hK=>?_)<;>simp -dsimp (disch:=first|exact D|fail) only [go_sem,↓reduceIte,seval])|((with_reducible refine hK _ ?_);clear hK K)|refine Q1 ?_|fail)
 refine AWP.drawT tyOk mixed 9 8 (by kernel_rfl) rfl rfl fun K hK=>?_
 simp -dsimp (disch:=first|exact D|fail) only [go_sem,↓reduceIte,seval]
 repeat' (first|((((with_reducible refine CallH.is ?_);(first|refine CallH.intro (cloneCols_sat t.cols h1) ?_|refine CallH.intro (cloneInts_sat t.pk h2) ?_)))<;>simp -dsimp (disch:=first|exact D|fail) only [go_sem,↓reduceIte,seval])|((with_reducible refine hK _ ?_);clear hK K)|fail)
 intro K hK
 simp -dsimp (disch:=first|exact D|fail) only [go_sem,↓reduceIte,seval]
 repeat' (first|((with_reducible refine hK _ ?_);clear hK K)|refine Q1 ?_|fail)
 all_goals simp -dsimp (disch:=first|exact D|fail) only [retQ,Tryz.results53,resVals,cellRV,resOf,St.rest,St.freeze,RT,go_sem,↓reduceIte,seval]
theorem bl_cons (x y:UInt8) (a b:List UInt8):Op.bytesLess (x::a) (y::b)=true↔x.toNat<y.toNat∨(x=y∧Op.bytesLess a b=true):=by
 simp [Op.bytesLess,UInt8.lt_iff_toNat_lt]
theorem bl_trans:∀{a b c:List UInt8},Op.bytesLess a b=true→Op.bytesLess b c=true→Op.bytesLess a c=true
 | [],[],_,h,_=>by simp [Op.bytesLess] at h
 | _::_,[],_,h,_=>by simp [Op.bytesLess] at h
 | _,_::_,[],_,h=>by simp [Op.bytesLess] at h
 | [],_::_,_::_,_,_=>by simp [Op.bytesLess]
 | x::a,y::b,z::c,h1,h2=>by
  rw [bl_cons] at h1 h2 ⊢
  rcases h1 with h1|⟨rfl,h1⟩
  ·rcases h2 with h2|⟨rfl,h2⟩
   ·exact .inl (by omega)
   ·exact .inl h1
  ·rcases h2 with h2|⟨rfl,h2⟩
   ·exact .inl h2
   ·exact .inr ⟨rfl,bl_trans h1 h2⟩
theorem bl_total:∀{a b:List UInt8},Op.bytesLess a b=false→a≠b→Op.bytesLess b a=true
 | [],[],_,h=>absurd rfl h
 | [],_::_,h,_=>by simp [Op.bytesLess] at h
 | _::_,[],_,_=>by simp [Op.bytesLess]
 | x::a,y::b,h,hne=>by
  have h':¬ (x.toNat<y.toNat∨(x=y∧Op.bytesLess a b=true)):=fun e=>by rw [←bl_cons,h] at e;cases e
  rw [bl_cons]
  by_cases hxy:x=y
  ·subst hxy
   refine .inr ⟨rfl,bl_total ?_ (fun e=>hne (by rw [e]))⟩
   cases hb:Op.bytesLess a b with
   | false=>rfl
   | true=>exact absurd (.inr ⟨rfl,hb⟩) h'
  ·refine .inl ?_
   have:x.toNat≠y.toNat:=fun e=>hxy (UInt8.toNat_inj.1 e)
   have:¬ x.toNat<y.toNat:=fun e=>h' (.inl e)
   omega
theorem chain_lt {ns:List (List UInt8)} (h:∀k,∀h:k+1<ns.length,Op.bytesLess ns[k] ns[k+1]=true):∀d i,∀h:i+d+1<ns.length,Op.bytesLess ns[i] ns[i+d+1]=true
 | 0,i,hi=>h i hi
 | d+1,i,hi=>bl_trans (chain_lt h d i (by omega)) (h (i+d+1) hi)
structure OkSch (s:Sch):Prop where
 tbl:∀t∈s.tables,OkTbl t
 lt:∀i j,∀h:i<j,∀hj:j<s.tables.length,Op.bytesLess s.tables[i].name.toList s.tables[j].name.toList=true
 n6:s.tables.length≤6
 n8:s.fks.length≤8
 m8:s.cons.length≤8
theorem okSch_of {s:Sch} (h:schE s=0):OkSch s:=by
 unfold schE at h
 split at h
 ·cases h
 rename_i h0
 cases hs:scan (tblsE s.tables) s.tables 0 with
 | some e =>
  rw [hs] at h
  simp only at h
  subst h
  exfalso
  have:∀(l:List Tbl) (k:Nat) (e:Int),scan (tblsE s.tables) l k=some e→e≠0:=by
   intro l
   induction l with
   | nil=>intro k e he;cases he
   | cons x l ih =>
    intro k e he
    unfold scan at he
    split at he
    ·rename_i e' he'
     injection he with he
     subst he
     unfold tblsE at he'
     split at he'
     ·rename_i hne
      injection he' with he'
      rw [←he']
      exact hne
     ·split at he'
      ·injection he' with he';omega
      ·cases he'
    ·exact ih _ _ he
  exact this _ _ _ hs rfl
 | none =>
  have hk:∀k,∀h:k<s.tables.length,tblE s.tables[k]=0∧(0<k→¬ (Op.bytesLess s.tables[k].name.toList s.tables[k - 1].name.toList=true∨s.tables[k].name.toList=s.tables[k - 1].name.toList)):=by
   intro k hk
   have h1:=scan_none hs k hk
   rw [Nat.zero_add,tblsE] at h1
   split at h1
   ·cases h1
   rename_i h2
   split at h1
   ·cases h1
   rename_i h3
   refine ⟨by simpa using h2,fun h0 h4=>h3 ⟨by omega,?_⟩⟩
   rw [show ((k:Int) - 1).toNat=k - 1 by omega,List.getD_eq_getElem?_getD,List.getElem?_eq_getElem (by omega)]
   exact h4
  have hstep:∀k,∀h:k+1<s.tables.length,Op.bytesLess s.tables[k].name.toList s.tables[k+1].name.toList=true:=by
   intro k h1
   have h2:=(hk (k+1) h1).2 (by omega)
   simp only [not_or,Bool.not_eq_true,Nat.add_sub_cancel] at h2
   exact bl_total h2.1 h2.2
  refine ⟨fun t ht=>?_,fun i j hij hj=>?_,by omega,by omega,by omega⟩
  ·obtain ⟨j,hj,rfl⟩:=List.mem_iff_getElem.1 ht
   exact okTbl_of (hk j hj).1
  ·have h1:=chain_lt (ns:=s.tables.map fun t=>t.name.toList) (fun k h=>by simpa using hstep k (by simpa using h)) (j - i - 1) i (by simp;omega)
   simp only [List.getElem_map] at h1
   have e:i+(j - i - 1)+1=j:=by omega
   simpa only [e] using h1
theorem scan_ne {α:Type} {f:Nat→α→Option Int} (h:∀k x e,f k x=some e→e≠0):∀{l:List α} {k:Nat} {e:Int},scan f l k=some e→e≠0
 | [],k,e,he=>by cases he
 | x::l,k,e,he=>by
  unfold scan at he
  split at he
  ·rename_i e' he'
   injection he with he
   subst he
   exact h _ _ _ he'
  ·exact scan_ne h he
theorem scan_all {α:Type} {f:Nat→α→Option Int}:∀{l:List α} {k:Nat},(∀j,∀h:j<l.length,f (k+j) l[j]=none)→scan f l k=none
 | [],_,_=>rfl
 | x::l,k,h=>by
  have h0:=h 0 (by simp)
  simp only [Nat.add_zero,List.getElem_cons_zero] at h0
  rw [scan,h0]
  exact scan_all fun j hj=>by
   have:=h (j+1) (by simpa using hj)
   rw [show k+1+j=k+(j+1) by omega]
   simpa using this
theorem scan_eq_none {α:Type} {f:Nat→α→Option Int} {l:List α}:scan f l 0=none↔∀j,∀h:j<l.length,f j l[j]=none :=
 ⟨fun h j hj=>by have:=scan_none h j hj;rwa [Nat.zero_add] at this,fun h=>scan_all fun j hj=>by rw [Nat.zero_add];exact h j hj⟩
def orE (x:Option Int) (y:Int):Int:=match x with|some e=>e|none=>y
theorem scan_zero {α:Type} {f:Nat→α→Option Int} {l:List α} {k:Nat} {y:Int} (h:∀k x e,f k x=some e→e≠0):orE (scan f l k) y=0↔scan f l k=none∧y=0:=by
 cases hs:scan f l k with
 | none=>simp [orE]
 | some e=>simp [orE,scan_ne h hs]
theorem tblsE_ne (ts:List Tbl):∀k x e,tblsE ts k x=some e→e≠0:=by
 intro k x e h
 unfold tblsE at h
 split at h
 ·rename_i hne;injection h with h;rw [←h];exact hne
 ·split at h
  ·injection h with h;omega
  ·cases h
theorem fksE_ne (s:Sch):∀k x e,fksE s k x=some e→e≠0:=by
 intro k x e h
 unfold fksE at h
 split at h
 ·rename_i hne;injection h with h;rw [←h];exact hne
 ·split at h
  ·injection h with h;omega
  ·cases h
theorem consE_ne (s:Sch):∀k x e,consE s k x=some e→e≠0:=by
 intro k x e h
 unfold consE at h
 split at h
 ·rename_i hne;injection h with h;rw [←h];exact hne
 ·split at h
  ·injection h with h;omega
  ·cases h
theorem schE_zero (s:Sch):schE s=0↔(s.tables.length≤6∧s.fks.length≤8∧s.cons.length≤8)∧(∀j,∀h:j<s.tables.length,tblsE s.tables j s.tables[j]=none) ∧
  (∀j,∀h:j<s.fks.length,fksE s j s.fks[j]=none)∧∀j,∀h:j<s.cons.length,consE s j s.cons[j]=none:=by
 unfold schE
 split
 ·simp only [false_iff,not_and,reduceCtorEq,show (2:Int)≠0 by decide]
  omega
 ·change orE (scan (tblsE s.tables) s.tables 0) (orE (scan (fksE s) s.fks 0) (orE (scan (consE s) s.cons 0) 0))=0↔_
  rw [scan_zero (tblsE_ne _),scan_zero (fksE_ne s),scan_zero (consE_ne s),scan_eq_none,scan_eq_none,scan_eq_none]
  constructor
  ·rintro ⟨h1,h2,h3,_⟩;exact ⟨by omega,h1,h2,h3⟩
  ·rintro ⟨_,h1,h2,h3⟩;exact ⟨h1,h2,h3,rfl⟩
theorem OkTbl.pk_ge {t:Tbl} (h:OkTbl t):∀k,∀hk:k<t.pk.length,(k:Int)≤t.pk[k]
 | 0,hk=>(h.key 0 hk).1
 | k+1,hk=>by
  have h1:=pk_ge h k (by omega)
  have h2:=(h.key (k+1) hk).2.2.2 (by omega)
  simp only [Nat.add_sub_cancel] at h2
  omega
theorem OkTbl.pk6 {t:Tbl} (h:OkTbl t):t.pk.length≤t.cols.length:=by
 rcases Nat.eq_zero_or_pos t.pk.length with h0|h0
 ·omega
 ·have h1:=h.pk_ge (t.pk.length - 1) (by omega)
  have h2:=(h.key (t.pk.length - 1) (by omega)).2.1
  omega
theorem fkE_zero {s:Sch} {f:FK} (h:fkE s f=0):∃i q,∃hi:i<s.tables.length,∃hq:q<s.tables.length,tblAt s.tables f.table=(i:Int)∧tblAt s.tables f.ref=(q:Int)∧f.cols.length=s.tables[q].pk.length ∧
  ∀j,∀hj:j<f.cols.length,0≤f.cols[j]∧f.cols[j]<s.tables[i].cols.length:=by
 unfold fkE at h
 split at h
 ·cases h
 rename_i h0
 rcases idx_cases (fun t=>sEq t.name f.table) s.tables 0 with ⟨e1,_⟩|⟨i,hi,e1,_⟩
 ·have e1:tblAt s.tables f.table=-1:=e1
  omega
 rcases idx_cases (fun t=>sEq t.name f.ref) s.tables 0 with ⟨e2,_⟩|⟨q,hq,e2,_⟩
 ·have e2:tblAt s.tables f.ref=-1:=e2
  omega
 have e1:tblAt s.tables f.table=(i:Int):=by unfold tblAt;simpa using e1
 have e2:tblAt s.tables f.ref=(q:Int):=by unfold tblAt;simpa using e2
 simp only [e1,e2,Int.toNat_natCast,getD_lt _ hi,getD_lt _ hq,fkTE] at h
 split at h
 ·cases h
 rename_i h1
 change orE (scan (fkColE s.tables[i] s.tables[q]) f.cols 0) 0=0 at h
 rw [scan_zero (fun k x e he=>by
  unfold fkColE at he
  split at he
  ·injection he with he;omega
  ·split at he
   ·injection he with he;omega
   ·cases he),scan_eq_none] at h
 refine ⟨i,q,hi,hq,e1,e2,by omega,fun j hj=>?_⟩
 have:=h.1 j hj
 unfold fkColE at this
 split at this
 ·cases this
 ·omega
structure Small (s:Sch):Prop where
 tables:s.tables.length≤6
 table:∀t∈s.tables,t.cols.length≤6∧t.pk.length≤6
 fks:s.fks.length≤8
 fk:∀f∈s.fks,f.cols.length≤6
 cons:s.cons.length≤8
theorem small_of {s:Sch} (h:schE s=0):Small s:=by
 have ok:=okSch_of h
 obtain ⟨h1,h2,h3,h4⟩:=(schE_zero s).1 h
 refine ⟨h1.1,fun t ht=>?_,h1.2.1,fun f hf=>?_,h1.2.2⟩
 ·have o:=ok.tbl t ht
  have:=o.pk6
  have:=o.cols6
  omega
 ·obtain ⟨j,hj,rfl⟩:=List.mem_iff_getElem.1 hf
  have h5:=h3 j hj
  unfold fksE at h5
  split at h5
  ·cases h5
  rename_i h6
  obtain ⟨i,q,hi,hq,_,_,h7,_⟩:=fkE_zero (s:=s) (f:=s.fks[j]) (by simpa using h6)
  have o:=ok.tbl _ (List.getElem_mem hq)
  have:=o.pk6
  have:=o.cols6
  omega
structure OkRel (t:Tbl) (rows:List Row):Prop where
 n24:rows.length≤24
 row:∀j,∀h:j<rows.length,rowE t rows[j]=0
 ord:∀j,∀h:j+1<rows.length,cmpRows (keyOf t.pk rows[j]) (keyOf t.pk rows[j+1])<0
theorem setL_all:∀(vs ls:List L),vs.length=ls.length→setL 0 vs ls=vs
 | [],[],_=>rfl
 | v::vs,l::ls,h=>by rw [setL,setL_all vs ls (by simpa using h)]
 | [],_::_,h=>by simp at h
 | _::_,[],h=>by simp at h
set_option maxHeartbeats 4000000 in
theorem indexInt_sat (l : List Int) (n : Int) (hlen : l.length ≤ 140737488355328) :
    Sat Tryz.prog 41 [.one (eInts l), oI n] (.v (oI (idx (fun x => x == n) l 0))) := by
  refine sS tyOk Tryz.func41 fun w0 m0 F0 => ?_
  simp only [Tryz.ntmps41, envOf, Nat.reduceAdd]
  repeat' (first | ((with_reducible refine qV tyOk fun K hK => ?_) <;> simp -dsimp (disch := first | exact D | fail) only [go_sem, ↓reduceIte, seval]) | ((with_reducible refine hK _ ?_); clear hK K) | refine Q1 ?_ | fail)
  refine AWP.loop (ι := {k : Nat // k ≤ l.length ∧ idx (fun x => x == n) (l.drop k) k = idx (fun x => x == n) l 0}) (fun k => ⟨19, [(0, .v (.one (eInts l))), (1, .v (oI n)), (6, .v (.one (eInts l))), (7, .v (oI l.length)), (8, .v (oI k.1))], [], []⟩) (fun k => l.length - k.1) ⟨0, Nat.zero_le _, rfl⟩ ?_ fun ⟨k, hkl, hi⟩ => ?_
  · refine St.le_mk ?_ ?_ ?_ <;> simp only [LE, EN, Nat.reduceEqDiff, reduceIte, Nat.reduceSub]
  repeat' (first | ((with_reducible refine qV tyOk fun K hK => ?_) <;> simp -dsimp (disch := first | exact D | fail) only [go_sem, ↓reduceIte, seval]) | ((with_reducible refine hK _ ?_); clear hK K) | refine Q1 ?_ | ((with_reducible refine qW (T := TT) (b := ?_) ?_ ?_); rotate_left; exact rfl) | ((with_reducible refine yS ?_ ?_) <;> (intro h; try simp only [NM] at h)) | fail)
  all_goals first
    | (have hk : ¬ k < l.length := by omega
       simp -dsimp (disch := first | exact D | fail) only [retQ, Tryz.results41, resVals, cellRV, resOf, St.rest, St.freeze, RT, go_sem, ↓reduceIte, seval]
       rw [← hi, idx_end hk]
       done)
    | (have hk : k < l.length := by omega
       have he : (l[k] == n) = true := by simp_all
       simp -dsimp (disch := first | exact D | fail) only [retQ, Tryz.results41, resVals, cellRV, resOf, St.rest, St.freeze, RT, go_sem, ↓reduceIte, seval]
       rw [← hi, idx_hit hk he]
       done)
    | (have hk : k < l.length := by omega
       have he : (l[k] == n) = false := by
         rw [Bool.eq_false_iff]
         intro q
         simp_all
       refine ⟨⟨k + 1, by omega, by rw [idx_step hk he, hi]⟩, by simp only; omega, ?_⟩
       refine St.le_mk ?_ ?_ ?_ <;> simp only [LE, EN, Nat.reduceEqDiff, reduceIte, Nat.reduceSub]
       )
theorem idx_elem (n:Int):∀(l:List Int) (k:Nat),decide (0≤idx (fun x=>x==n) l k)=l.elem n
 | [],k=>by simp [idx]
 | x::l,k=>by
  rw [idx,List.elem_cons]
  cases hx:x==n with
  | true =>
   have:(n==x)=true:=by simp_all
   rw [this];simp
  | false =>
   have:(n==x)=false:=by
    rw [Bool.eq_false_iff]
    intro q
    simp_all
   rw [this]
   exact idx_elem n l (k+1)
theorem containsInt_sat (l:List Int) (n:Int) (hlen:l.length≤140737488355328):Sat Tryz.prog 23 [.one (eInts l),oI n] (.v (oB (l.elem n))):=by
 rw [←idx_elem n l 0]
 refine sS tyOk Tryz.func23 fun w0 m0 F0=>?_
 simp only [Tryz.ntmps23,envOf,Nat.reduceAdd]
 repeat' (first|((first|with_reducible refine qV tyOk fun K hK=>?_|((with_reducible refine CallJ.is ?_);(refine CallJ.pure (indexInt_sat l n hlen) ?_)))<;>simp -dsimp (disch:=first|exact D|fail) only [go_sem,↓reduceIte,seval])|((with_reducible refine hK _ ?_);clear hK K)|refine Q1 ?_|fail)
 simp -dsimp (disch:=first|exact D|fail) only [retQ,Tryz.results23,resVals,cellRV,resOf,St.rest,St.freeze,RT,go_sem,↓reduceIte,seval]
theorem idx_anyB {α:Type} (p:α→Bool):∀(l:List α) (k:Nat),decide (0≤idx p l k)=l.any p
 | [],k=>by simp [idx]
 | x::l,k=>by
  rw [idx,List.any_cons]
  cases hx:p x with
  | true=>simp
  | false=>simpa using idx_anyB p l (k+1)
theorem containsFFK_sat (l:List FK) (f:Nat) (cs:List L) (p:FK→Bool) (hlen:l.length≤140737488355328) (hp:∀t∈l,Sat Tryz.prog f (.agg (eFK t)::cs.map .one) (.v (oB (p t)))) :
  Sat Tryz.prog 48 [.one (eFKs l),.one (.clo f cs)] (.v (oB (l.any p))):=by
 rw [←idx_anyB p l 0]
 exact containsFK_sat l f cs p hlen hp
theorem seqI_len (n:Nat):(seqI n).length=n:=by simp [seqI]
theorem seqI_succ (n:Nat):seqI (n+1)=seqI n++[(n:Int)]:=by simp [seqI,List.range_succ]
set_option maxHeartbeats 8000000 in
theorem sequence_own (n:Nat) (h:n≤1048576):SatM Tryz.prog 124 [oI n] [] [] (.v (.one (.ref 2 0 n))) [] [(2,⟨1,(seqI n).map eInt1,[]⟩)]:=by
 refine sM tyOk [] [2] Tryz.func124 fun w0 m0 F0=>?_
 simp only [Tryz.ntmps124,envOf,Nat.reduceAdd]
 repeat' (first|((with_reducible refine qV tyOk fun K hK=>?_)<;>simp -dsimp (disch:=first|exact D|fail) only [go_sem,↓reduceIte,seval])|((with_reducible refine hK _ ?_);clear hK K)|refine Q1 ?_|fail)
 refine AWP.loop (ι:={k:Nat // k≤n}) (fun k=>⟨15,[(3,.v (.one (.ref 3 0 k.1))),(5,.v (oI n)),(6,.v (oI k.1))],[],[(3,⟨1,(seqI k.1).map eInt1,[]⟩)]⟩) (fun k=>n - k.1) ⟨0,Nat.zero_le _⟩ ?_ fun ⟨k,hkl⟩=>?_
 ·refine St.le_mk ?_ ?_ ?_<;>simp only [LE,EN,Nat.reduceEqDiff,reduceIte,Nat.reduceSub,seqI,List.range_zero,List.map_nil]
 simp only at hkl ⊢
 have sl:=seqI_len k
 have ss:=seqI_succ k
 rcases Nat.lt_or_ge k n with hc|hc
 ·repeat' (first|((with_reducible refine qV tyOk fun K hK=>?_)<;>simp -dsimp (disch:=first|exact D|fail) only [go_sem,↓reduceIte,seval,sl])|((with_reducible refine hK _ ?_);clear hK K)|refine Q1 ?_|((with_reducible refine qW (T:=TT) (b:=?_) ?_ ?_);rotate_left;exact rfl)|fail)
  refine ⟨⟨k+1,by omega⟩,by simp only;omega,?_⟩
  refine St.le_mk ?_ ?_ ?_<;>simp only [LE,EN,Nat.reduceEqDiff,reduceIte,Nat.reduceSub,ss,eInt1,List.map_append,List.map_cons,List.map_nil]
 ·have hk:k=n:=by omega
  subst hk
  repeat' (first|((with_reducible refine qV tyOk fun K hK=>?_)<;>simp -dsimp (disch:=first|exact D|fail) only [go_sem,↓reduceIte,seval])|((with_reducible refine hK _ ?_);clear hK K)|refine Q1 ?_|((with_reducible refine qW (T:=TT) (b:=?_) ?_ ?_);rotate_left;exact rfl)|fail)
  simp -dsimp (disch:=first|exact D|fail) only [retQ,Tryz.results124,resVals,cellRV,resOf,St.rest,St.freeze,RT,go_sem,↓reduceIte,seval]
theorem sequence_sat (n:Nat) (h:n≤1048576):Sat Tryz.prog 124 [oI n] (.v (.one (eInts (seqI n)))) :=
 (sequence_own n h).frz (by
  have sl:=seqI_len n
  simp -dsimp (disch:=first|exact D|fail) only [go_sem,↓reduceIte,seval,topL_ref,St.rest,roots,dropL_nil,eInts,sl]
  )
theorem conCols_sat (c:Con):Sat Tryz.prog 123 [.agg (eCon c)] (.v (.one (eInts (conCols c)))):=by
 refine sS tyOk Tryz.func123 fun w0 m0 F0=>?_
 simp only [Tryz.ntmps123,envOf,Nat.reduceAdd]
 repeat' (first|((with_reducible refine qV tyOk fun K hK=>?_)<;>simp -dsimp (disch:=first|exact D|fail) only [go_sem,↓reduceIte,seval])|((with_reducible refine hK _ ?_);clear hK K)|refine Q1 ?_|((with_reducible refine qW (T:=TT) (b:=?_) ?_ ?_);rotate_left;exact rfl)|((with_reducible refine yS ?_ ?_)<;>(intro h;try simp only [NM] at h))|fail)
 all_goals simp -dsimp (disch:=first|exact D|fail) only [retQ,Tryz.results123,resVals,cellRV,resOf,St.rest,St.freeze,RT,go_sem,↓reduceIte,seval]
 all_goals first
  | (rw [conCols,if_pos (by omega)];rfl)
  | (rw [conCols,if_neg (by omega)];rfl)
theorem filter_snoc {α:Type} (p:α→Bool) (l:List α) (k:Nat) (h:k<l.length):((l.take (k+1)).filter p).length=((l.take k).filter p).length+(if p l[k] then 1 else 0):=by
 rw [take_snoc l k h,List.filter_append,List.length_append]
 cases hp:p l[k]<;>simp [hp]
set_option maxHeartbeats 8000000 in
theorem overlap_sat (cols set:List Int) (h1:cols.length≤140737488355328) (h2:set.length≤140737488355328):Sat Tryz.prog 122 [.one (eInts cols),.one (eInts set)] (.v (oI (overlapI cols set))):=by
 refine sS tyOk Tryz.func122 fun w0 m0 F0=>?_
 simp only [Tryz.ntmps122,envOf,Nat.reduceAdd]
 repeat' (first|((with_reducible refine qV tyOk fun K hK=>?_)<;>simp -dsimp (disch:=first|exact D|fail) only [go_sem,↓reduceIte,seval])|((with_reducible refine hK _ ?_);clear hK K)|refine Q1 ?_|fail)
 refine AWP.loop (ι:={k:Nat // k≤cols.length}) (fun k=>⟨27,[(0,.v (.one (eInts cols))),(1,.v (.one (eInts set))),(5,.v (oI ((cols.take k.1).filter fun c=>set.elem c).length)),(8,.v (.one (eInts cols))),(9,.v (oI cols.length)),(10,.v (oI k.1))],[],[]⟩) (fun k=>cols.length - k.1) ⟨0,Nat.zero_le _⟩ ?_ fun ⟨k,hkl⟩=>?_
 ·refine St.le_mk ?_ ?_ ?_<;>simp only [LE,EN,Nat.reduceEqDiff,reduceIte,Nat.reduceSub,List.take_zero,List.filter_nil,List.length_nil,Int.natCast_zero]
 simp only at hkl ⊢
 have hfl:((cols.take k).filter fun c=>set.elem c).length≤cols.length:=Nat.le_trans (List.length_filter_le _ _) (by simp;omega)
 rcases Nat.lt_or_ge k cols.length with hc|hc
 ·have cc:=containsInt_sat set cols[k] h2
  have fs:=filter_snoc (fun c=>set.elem c) cols k hc
  cases he:set.elem cols[k] with
  | true =>
   rw [he] at cc fs
   simp only [if_true] at fs
   repeat' (first|((first|with_reducible refine qV tyOk fun K hK=>?_|((with_reducible refine CallJ.is ?_);(refine CallJ.pure (cc) ?_)))<;>simp -dsimp (disch:=first|exact D|fail) only [go_sem,↓reduceIte,seval])|((with_reducible refine hK _ ?_);clear hK K)|refine Q1 ?_|((with_reducible refine qW (T:=TT) (b:=?_) ?_ ?_);rotate_left;exact rfl)|fail)
   refine ⟨⟨k+1,by omega⟩,by simp only;omega,?_⟩
   refine St.le_mk ?_ ?_ ?_<;>simp only [LE,EN,Nat.reduceEqDiff,reduceIte,Nat.reduceSub,fs,Int.natCast_add,Int.natCast_one]
  | false =>
   rw [he] at cc fs
   simp only [Bool.false_eq_true,if_false,Nat.add_zero] at fs
   repeat' (first|((first|with_reducible refine qV tyOk fun K hK=>?_|((with_reducible refine CallJ.is ?_);(refine CallJ.pure (cc) ?_)))<;>simp -dsimp (disch:=first|exact D|fail) only [go_sem,↓reduceIte,seval])|((with_reducible refine hK _ ?_);clear hK K)|refine Q1 ?_|((with_reducible refine qW (T:=TT) (b:=?_) ?_ ?_);rotate_left;exact rfl)|fail)
   refine ⟨⟨k+1,by omega⟩,by simp only;omega,?_⟩
   refine St.le_mk ?_ ?_ ?_<;>simp only [LE,EN,Nat.reduceEqDiff,reduceIte,Nat.reduceSub,fs]
 ·rw [List.take_of_length_le hc]
  unfold overlapI
  obtain ⟨n,hn⟩:∃n,(cols.filter fun c=>set.elem c).length=n:=⟨_,rfl⟩
  rw [hn]
  repeat' (first|((with_reducible refine qV tyOk fun K hK=>?_)<;>simp -dsimp (disch:=first|exact D|fail) only [go_sem,↓reduceIte,seval])|((with_reducible refine hK _ ?_);clear hK K)|refine Q1 ?_|((with_reducible refine qW (T:=TT) (b:=?_) ?_ ?_);rotate_left;exact rfl)|((with_reducible refine yS ?_ ?_)<;>(intro h;try simp only [NM] at h))|fail)
  all_goals simp -dsimp (disch:=first|exact D|fail) only [retQ,Tryz.results122,resVals,cellRV,resOf,St.rest,St.freeze,RT,go_sem,↓reduceIte,seval]
  all_goals first
   | (rw [if_pos (by omega)];done)
   | (rw [if_neg (by omega),if_pos (by omega)];done)
   | (rw [if_neg (by omega),if_neg (by omega)];done)
def rowTb (cs:List Tbl):Rows:=[(1000,⟨3,cs.map eTbl,[]⟩)]
theorem gswap_row (ds:List Tbl) (i j:Nat) (hi:i<ds.length) (hj:j<ds.length) :
  ((ds.map eTbl).set i (eTbl ds[j])).set j (setL 0 (eTbl ds[i]) (((ds.map eTbl).set i (eTbl ds[j])).getD j []))=(gswp ds i j).map eTbl:=by
 rw [setL_all _ _ ?_,gswp_eq hi hj,List.map_set,List.map_set]
 rw [List.getD_eq_getElem?_getD,←List.map_set,List.getElem?_map,List.getElem?_eq_getElem (by simpa using hj)]
 rfl
set_option maxHeartbeats 16000000 in
theorem insertionSortT_satM (cs:List Tbl) (f:FuncId) (hc:∀x∈cs,∀y∈cs,Sat Tryz.prog f [.agg (eTbl x),.agg (eTbl y)] (.v (oI (cmpT x y)))) (a b:Nat) (hb:b≤cs.length) (ha:a≤cs.length) (hl:cs.length≤140737488355328) :
  SatM Tryz.prog 152 [.one (.ref 1000 0 cs.length),oI a,oI b,.one (.clo f [])] [] (rowTb cs) (.tup []) [] (rowTb (ginsS cmpT a b cs)):=by
 unfold rowTb
 refine sM tyOk [] [1000] Tryz.func152 fun w0 m0 F0=>?_
 simp only [Tryz.ntmps152,envOf,Nat.reduceAdd]
 repeat' (first|((with_reducible refine qV tyOk fun K hK=>?_)<;>simp -dsimp (disch:=first|exact D|fail) only [go_sem,↓reduceIte,seval])|((with_reducible refine hK _ ?_);clear hK K)|refine Q1 ?_|fail)
 refine AWP.loop (ι:={p:Nat×List Tbl // a+1≤p.1∧p.1≤cs.length+1∧p.2.Perm cs∧ginsR cmpT a (b - p.1) p.1 p.2=ginsS cmpT a b cs}) (fun p=>⟨53,[(0,.v (.one (.ref 1000 0 cs.length))),(1,.v (oI a)),(2,.v (oI b)),(3,.v (.one (.clo f []))),(8,.v (oI p.1.1))],[],[(1000,⟨3,p.1.2.map eTbl,[]⟩)]⟩) (fun p=>cs.length+2 - p.1.1) ⟨(a+1,cs),Nat.le_refl _,by omega,List.Perm.refl _,rfl⟩ ?_ fun ⟨(i,ds),hi1,hi2,hp,hI⟩=>?_
 ·refine St.le_mk ?_ ?_ ?_<;>simp only [LE,EN,Nat.reduceEqDiff,reduceIte,Nat.reduceSub,Int.natCast_add]
 have hd:ds.length=cs.length:=hp.length_eq
 simp only at hi1 hi2 hp hI ⊢
 rcases Nat.lt_or_ge i b with hc1|hc1
 ·have eI:b - i=(b - (i+1))+1:=by omega
  rw [eI,ginsR] at hI
  repeat' (first|((with_reducible refine qV tyOk fun K hK=>?_)<;>simp -dsimp (disch:=first|exact D|fail) only [go_sem,↓reduceIte,seval])|((with_reducible refine hK _ ?_);clear hK K)|refine Q1 ?_|((with_reducible refine qW (T:=TT) (b:=?_) ?_ ?_);rotate_left;exact rfl)|fail)
  refine AWP.loop (ι:={p:Nat×List Tbl // a≤p.1∧p.1≤i∧p.2.Perm cs∧gdown cmpT a p.1 p.2=gdown cmpT a i ds}) (fun p=>⟨53,[(0,.v (.one (.ref 1000 0 cs.length))),(1,.v (oI a)),(2,.v (oI b)),(3,.v (.one (.clo f []))),(8,.v (oI i)),(9,.v (oI p.1.1))],[],[(1000,⟨3,p.1.2.map eTbl,[]⟩)]⟩) (fun p=>p.1.1) ⟨(i,ds),by omega,Nat.le_refl _,hp,rfl⟩ ?_ fun ⟨(j,es),hj1,hj2,hq,hJ⟩=>?_
  ·refine St.le_mk ?_ ?_ ?_<;>simp only [LE,EN,Nat.reduceEqDiff,reduceIte,Nat.reduceSub,hd]
  have he:es.length=cs.length:=hq.length_eq
  simp only at hj1 hj2 hq hJ ⊢
  rcases Nat.lt_or_ge a j with hc2|hc2
  ·have h1:j<es.length:=by omega
   have h2:j - 1<es.length:=by omega
   have e1:((j:Int) - 1).toNat=j - 1:=by omega
   have ej:((j - 1:Nat):Int)=(j:Int) - 1:=by omega
   have cc:=hc es[j] (hq.subset (List.getElem_mem _)) es[j - 1] (hq.subset (List.getElem_mem _))
   have lj:=glessAt_eq cmpT h1 h2
   repeat' (first|refine Q1 ?_|fail)
   refine dX tyOk mixed [(0,14)] [(14,[(15,2)],[])] [14] 8 fun K hK=>?_
   simp only [SG,segs] at hK ⊢
   simp -dsimp (disch:=first|exact D|fail) only [go_sem,↓reduceIte,seval,he,e1,Option.getD_none]
   repeat' (first|((first|((fail_if_success (refine AWP.isRegion 6 ?_));(with_reducible refine qV tyOk fun K hK=>?_))|refine Q2 ?_|((with_reducible refine CallJ.is ?_);(refine CallJ.pure (cc) ?_))|(with_reducible first|refine VCy.some fun K hK=>?_|refine VCy.step fun K hK=>?_))<;>simp -dsimp (disch:=first|exact D|fail) only [go_sem,↓reduceIte,seval,he,e1,Option.getD_none])|((with_reducible refine hK _ ?_);clear hK K)|(with_reducible refine VCy.intro fun K0 hK0=>?_)|((with_reducible refine VCy.fin ?_);(refine hK0 _ ?_);clear hK0 K0)|(with_reducible refine VCy.quiet ?_)|refine Q1 ?_|((with_reducible refine qW (T:=TT) (b:=?_) ?_ ?_);rotate_left;exact rfl)|((with_reducible refine yS ?_ ?_)<;>(intro h;try simp only [NM] at h))|fail)
   ·refine dX tyOk mixed [(0,15)] [(15,[(16,1)],[(2,3)]),(17,[],[])] [15,17] 8 fun K hK=>?_
    simp only [SG,segs] at hK ⊢
    simp -dsimp (disch:=first|exact D|fail) only [go_sem,↓reduceIte,seval,he,e1,Option.getD_none]
    repeat' (first|((first|with_reducible refine qV tyOk fun K hK=>?_|(with_reducible first|refine VCy.some fun K hK=>?_|refine VCy.step fun K hK=>?_))<;>simp -dsimp (disch:=first|exact D|fail) only [go_sem,↓reduceIte,seval,he,e1,Option.getD_none])|((with_reducible refine hK _ ?_);clear hK K)|(with_reducible refine VCy.intro fun K0 hK0=>?_)|((with_reducible refine VCy.fin ?_);(refine hK0 _ ?_);clear hK0 K0)|(with_reducible first|refine VCy.quiet ?_|refine VCy.none ?_)|((with_reducible refine VCy.keep ?_ ?_);focus ((simp -dsimp (disch:=first|exact D|fail) only [go_sem,↓reduceIte,seval,Stable_cons,Stable_nil,sameA_some,sameA_none,he,e1,Option.getD_none]);first|done|exact E|fail))|refine Q1 ?_|fail)
    have lt:glessAt cmpT es j (j - 1)=true:=by rw [lj];exact decide_eq_true (by assumption)
    refine ⟨⟨(j - 1,gswp es j (j - 1)),by simp only;omega,by simp only;omega,(gswp_perm es _ _).trans hq,by rw [←hJ,gdown_step cmpT a j es hc2 lt]⟩,by simp only;omega,?_⟩
    refine St.le_mk ?_ trivial ⟨congrArg (fun x:List (List L)=>some (⟨3,x,[]⟩:RowC)) (gswap_row es j (j - 1) h1 h2),trivial⟩
    simp only [allIn_cons,allIn_nil,look_cons,look_nil,reduceIte,Nat.reduceEqDiff]
    exact ⟨trivial,trivial,trivial,trivial,trivial,by rw [ej],trivial⟩
   ·have lf:glessAt cmpT es j (j - 1)=false:=by rw [lj];exact decide_eq_false (by omega)
    rw [gdown_stop cmpT a j es (.inr lf)] at hJ
    refine ⟨⟨(i+1,es),by simp only;omega,by simp only;omega,hq,by rw [hJ,hI]⟩,by simp only;omega,?_⟩
    refine St.le_mk ?_ ?_ ?_<;>simp only [LE,EN,Nat.reduceEqDiff,reduceIte,Nat.reduceSub,he,Int.natCast_add]
  ·rw [gdown_stop cmpT a j es (.inl hc2)] at hJ
   repeat' (first|refine Q1 ?_|fail)
   refine dX tyOk mixed [(0,14)] [(14,[(15,2)],[])] [14] 8 fun K hK=>?_
   simp only [SG,segs] at hK ⊢
   simp -dsimp (disch:=first|exact D|fail) only [go_sem,↓reduceIte,seval,he,Option.getD_none]
   repeat' (first|((first|with_reducible refine qV tyOk fun K hK=>?_|refine Q2 ?_|(with_reducible first|refine VCy.some fun K hK=>?_|refine VCy.step fun K hK=>?_))<;>simp -dsimp (disch:=first|exact D|fail) only [go_sem,↓reduceIte,seval,he,Option.getD_none])|((with_reducible refine hK _ ?_);clear hK K)|(with_reducible refine VCy.intro fun K0 hK0=>?_)|((with_reducible refine VCy.fin ?_);(refine hK0 _ ?_);clear hK0 K0)|(with_reducible refine VCy.quiet ?_)|refine Q1 ?_|((with_reducible refine qW (T:=TT) (b:=?_) ?_ ?_);rotate_left;exact rfl)|fail)
   refine ⟨⟨(i+1,es),by simp only;omega,by simp only;omega,hq,by rw [hJ,hI]⟩,by simp only;omega,?_⟩
   refine St.le_mk ?_ ?_ ?_<;>simp only [LE,EN,Nat.reduceEqDiff,reduceIte,Nat.reduceSub,he,Int.natCast_add]
 ·have e0:b - i=0:=by omega
  rw [e0] at hI
  have hI:ds=ginsS cmpT a b cs:=hI
  repeat' (first|((with_reducible refine qV tyOk fun K hK=>?_)<;>simp -dsimp (disch:=first|exact D|fail) only [go_sem,↓reduceIte,seval])|((with_reducible refine hK _ ?_);clear hK K)|refine Q1 ?_|((with_reducible refine qW (T:=TT) (b:=?_) ?_ ?_);rotate_left;exact rfl)|fail)
  simp -dsimp (disch:=first|exact D|fail) only [retQ,Tryz.results152,resVals,cellRV,resOf,St.rest,St.freeze,RT,go_sem,↓reduceIte,seval]
  rw [hI]
theorem cmpT_sat (a b:Tbl):Sat Tryz.prog 138 [.agg (eTbl a),.agg (eTbl b)] (.v (oI (cmpT a b))):=by
 refine sS tyOk Tryz.func138 fun w0 m0 F0=>?_
 simp only [Tryz.ntmps138,envOf,Nat.reduceAdd]
 repeat' (first|((first|with_reducible refine qV tyOk fun K hK=>?_|((with_reducible refine CallJ.is ?_);(refine CallJ.pure (stringsCompare_sat _ _) ?_)))<;>simp -dsimp (disch:=first|exact D|fail) only [go_sem,↓reduceIte,seval])|((with_reducible refine hK _ ?_);clear hK K)|refine Q1 ?_|fail)
 simp -dsimp (disch:=first|exact D|fail) only [retQ,Tryz.results138,resVals,cellRV,resOf,St.rest,St.freeze,RT,go_sem,↓reduceIte,seval]
 rfl
set_option maxHeartbeats 16000000 in
theorem stableT_satM (cs:List Tbl) (hl:cs.length<20) :
  SatM Tryz.prog 150 [.one (.ref 1000 0 cs.length),oI cs.length,.one (.clo 138 [])] [] (rowTb cs) (.tup []) [] (rowTb (ginsS cmpT 0 cs.length cs)):=by
 have st:=insertionSortT_satM cs 138 (fun x _ y _=>cmpT_sat x y) 0 cs.length (Nat.le_refl _) (Nat.zero_le _) (by omega)
 rw [Int.natCast_zero] at st
 unfold rowTb at st ⊢
 refine sM tyOk [] [1000] Tryz.func150 fun w0 m0 F0=>?_
 simp only [Tryz.ntmps150,envOf,Nat.reduceAdd]
 repeat' (first|((with_reducible refine qV tyOk fun K hK=>?_)<;>simp -dsimp (disch:=first|exact D|fail) only [go_sem,↓reduceIte,seval])|((with_reducible refine hK _ ?_);clear hK K)|refine Q1 ?_|fail)
 refine AWP.loop (ι:=Unit) (fun _=>⟨63,[(0,.v (.one (.ref 1000 0 cs.length))),(1,.v (oI cs.length)),(2,.v (.one (.clo 138 []))),(6,.v (oI 20)),(7,.v (oI 0)),(8,.v (oI 20))],[],[(1000,⟨3,cs.map eTbl,[]⟩)]⟩) (fun _=>0) () ?_ fun _=>?_
 ·refine St.le_mk ?_ ?_ ?_<;>simp only [LE,EN,Nat.reduceEqDiff,reduceIte,Nat.reduceSub]
 repeat' (first|((first|with_reducible refine qV tyOk fun K hK=>?_|((with_reducible refine CallJ.is ?_);refine CallJ.io [] [(1000,1000)] [] [(1000,1000)] [] [] [] [1000,1000] (st) rfl ⟨rfl,rfl,rfl,rfl⟩ ?_ ?_ ?_))<;>simp -dsimp (disch:=first|exact D|fail) only [go_sem,↓reduceIte,seval,dropL_nil,dropL_nil',dropL_cons])|((with_reducible refine hK _ ?_);clear hK K)|refine Q1 ?_|((with_reducible refine qW (T:=TT) (b:=?_) ?_ ?_);rotate_left;exact rfl)|fail)
 all_goals first|(exfalso;omega)|skip
 refine AWP.loop (ι:=Unit) (fun _=>⟨63,[(1,.v (oI cs.length)),(6,.v (oI 20))],[],[(1000,⟨3,(ginsS cmpT 0 cs.length cs).map eTbl,[]⟩)]⟩) (fun _=>0) () ?_ fun _=>?_
 ·refine St.le_mk ?_ ?_ ?_<;>simp only [LE,EN,Nat.reduceEqDiff,reduceIte,Nat.reduceSub]
 repeat' (first|((with_reducible refine qV tyOk fun K hK=>?_)<;>simp -dsimp (disch:=first|exact D|fail) only [go_sem,↓reduceIte,seval])|((with_reducible refine hK _ ?_);clear hK K)|refine Q1 ?_|((with_reducible refine qW (T:=TT) (b:=?_) ?_ ?_);rotate_left;exact rfl)|fail)
 all_goals first|(exfalso;omega)|skip
 simp -dsimp (disch:=first|exact D|fail) only [retQ,Tryz.results150,resVals,cellRV,resOf,St.rest,St.freeze,RT,go_sem,↓reduceIte,seval]
set_option maxHeartbeats 16000000 in
theorem sortT_satM (cs:List Tbl) (hl:cs.length<20) :
  SatM Tryz.prog 137 [.one (.ref 1000 0 cs.length),.one (.clo 138 [])] [] (rowTb cs) (.tup []) [] (rowTb (ginsS cmpT 0 cs.length cs)):=by
 have st:=stableT_satM cs hl
 unfold rowTb at st ⊢
 refine sM tyOk [] [1000] Tryz.func137 fun w0 m0 F0=>?_
 simp only [Tryz.ntmps137,envOf,Nat.reduceAdd]
 repeat' (first|((first|with_reducible refine qV tyOk fun K hK=>?_|((with_reducible refine CallJ.is ?_);refine CallJ.io [] [(1000,1000)] [] [(1000,1000)] [] [] [] [1000,1000] (st) rfl ⟨rfl,rfl,rfl,rfl⟩ ?_ ?_ ?_))<;>simp -dsimp (disch:=first|exact D|fail) only [go_sem,↓reduceIte,seval,dropL_nil,dropL_nil',dropL_cons])|((with_reducible refine hK _ ?_);clear hK K)|fail)
 simp -dsimp (disch:=first|exact D|fail) only [retQ,Tryz.results137,resVals,cellRV,resOf,St.rest,St.freeze,RT,go_sem,↓reduceIte,seval]
def eTblO (t:Tbl):List L:=[.str t.name,.own 3 (t.cols.map eCol),.own 1 (t.pk.map eInt1)]
def rowT (l:List Tbl) (k:Nat) (t:Tbl):List (List L):=(l.set k t).map eTblO
theorem rowT_len (l:List Tbl) (k:Nat) (t:Tbl):(rowT l k t).length=l.length:=by simp [rowT]
theorem rowT_at {l:List Tbl} {k:Nat} (t:Tbl) (h:k<l.length):(rowT l k t)[k]?=some (eTblO t):=by simp [rowT,h]
theorem rowT_get {l:List Tbl} {k:Nat} (t:Tbl) (h:k<l.length):(rowT l k t).getD k []=eTblO t:=by
 rw [List.getD_eq_getElem?_getD,rowT_at t h];rfl
theorem rowT_set (l:List Tbl) (k:Nat) (t t':Tbl):(rowT l k t).set k (eTblO t')=rowT l k t':=by
 simp only [rowT]
 rw [←List.map_set,List.set_set]
theorem rowT_cell1 {l:List Tbl} {k:Nat} (t:Tbl) (h:k<l.length):cellOf (rowT l k t) k 1=some (.own 3 (t.cols.map eCol)):=by
 unfold cellOf
 rw [rowT_at t h];rfl
theorem rowT_cell2 {l:List Tbl} {k:Nat} (t:Tbl) (h:k<l.length):cellOf (rowT l k t) k 2=some (.own 1 (t.pk.map eInt1)):=by
 unfold cellOf
 rw [rowT_at t h];rfl
theorem rowT_cols {l:List Tbl} {k:Nat} (t:Tbl) (h:k<l.length) (c:List Col):setCell (rowT l k t) k 1 (.own 3 (c.map eCol))=rowT l k ⟨t.name,c,t.pk⟩:=by
 unfold setCell
 rw [rowT_get t h]
 exact rowT_set l k t ⟨t.name,c,t.pk⟩
theorem rowT_pk {l:List Tbl} {k:Nat} (t:Tbl) (h:k<l.length) (c:List Int):setCell (rowT l k t) k 2 (.own 1 (c.map eInt1))=rowT l k ⟨t.name,t.cols,c⟩:=by
 unfold setCell
 rw [rowT_get t h]
 exact rowT_set l k t ⟨t.name,t.cols,c⟩
def iB (s:Sch):Boxes:=[(1000,[.ref 1000 0 s.tables.length,.ref 1001 0 s.fks.length,.ref 1002 0 s.cons.length])]
def iR (s:Sch):Rows:=[(1000,⟨3,s.tables.map eTblO,[]⟩),(1001,⟨3,s.fks.map eFKO,[]⟩),(1002,⟨7,s.cons.map eCon,[]⟩)]
def oB1 (s:Sch):Boxes:=[(1000,[.ref 1 0 s.tables.length,.ref 2 0 s.fks.length,.ref 3 0 s.cons.length])]
def oR1 (s:Sch):Rows:=[(1,⟨3,s.tables.map eTbl,[]⟩),(2,⟨3,s.fks.map eFK,[]⟩),(3,⟨7,s.cons.map eCon,[]⟩)]
theorem okIds_ref (σb σr:Ids) (i lo n:Nat):okIds σb σr (.ref i lo n)=(look σr i).isSome:=rfl
def oBE:Res→Boxes
 | .error _=>[]
 | .ok s=>oB1 s
def oRE:Res→Rows
 | .error _=>[]
 | .ok s=>oR1 s
theorem frz3 {α:Type} {e:α→List L} (h:∀x,(e x).map (L.frzN 3)=e x) (l:List α):(l.map e).map (fun x=>x.map (L.frzN 3))=l.map e:=by
 rw [List.map_map]
 exact List.map_congr_left fun x _=>h x
theorem frz_eTblO (l:List Tbl):(l.map eTblO).map (fun x=>x.map (L.frzN 4))=l.map eTbl:=by
 rw [List.map_map]
 refine List.map_congr_left fun t _=>?_
 show [L.str t.name,L.sl 3 ((t.cols.map eCol).map fun x=>x.map (L.frzN 3)),L.sl 1 ((t.pk.map eInt1).map fun x=>x.map (L.frzN 3))]=eTbl t
 rw [frz3 (e:=eCol) fun _=>rfl,frz3 (e:=eInt1) fun _=>rfl]
 rfl
theorem frz_eFKO (l:List FK):(l.map eFKO).map (fun x=>x.map (L.frzN 4))=l.map eFK:=by
 rw [List.map_map]
 refine List.map_congr_left fun t _=>?_
 show [L.str t.table,L.sl 1 ((t.cols.map eInt1).map fun x=>x.map (L.frzN 3)),L.str t.ref]=eFK t
 rw [frz3 (e:=eInt1) fun _=>rfl]
 rfl
theorem frzTblO (l:List Tbl):frzXs (l.map eTblO)=l.map eTbl:=frz_eTblO l
theorem frzFKO (l:List FK):frzXs (l.map eFKO)=l.map eFK:=frz_eFKO l
set_option maxHeartbeats 16000000 in
theorem insertTable_satM (ts:List Tbl) (F C:List (List L)) (nf nc:Nat) (t:Tbl) (hl:ts.length<19) :
  SatM Tryz.prog 118 [.one (.ptr 1000 0),.agg (eTbl t)] [(1000,[.ref 1000 0 ts.length,.ref 1001 0 nf,.ref 1002 0 nc])] [(1000,⟨3,ts.map eTbl,[]⟩),(1001,⟨3,F,[]⟩),(1002,⟨7,C,[]⟩)]
   (.tup []) [(1000,[.ref 11 0 (ts.length+1),.ref 1001 0 nf,.ref 1002 0 nc])] [(11,⟨3,(ginsS cmpT 0 (ts.length+1) (ts++[t])).map eTbl,[]⟩),(1001,⟨3,F,[]⟩),(1002,⟨7,C,[]⟩)]:=by
 have st:=sortT_satM (ts++[t]) (by simp;omega)
 rw [List.length_append,List.length_singleton] at st
 unfold rowTb at st
 refine sM tyOk [1000] [11,1001,1002] Tryz.func118 fun w0 m0 F0=>?_
 simp only [Tryz.ntmps118,envOf,Nat.reduceAdd]
 repeat' (first|((first|with_reducible refine qV tyOk fun K hK=>?_|(refine AWP.isRegion 1 ?_;refine dX tyOk mixed [(0,6)] [(6,[],[(0,5)]),(7,[(8,2)],[(0,1)]),(10,[],[])] [6,7,10] 8 fun K hK=>?_;simp only [SG,segs] at hK ⊢)|((with_reducible refine CallJ.is ?_);refine CallJ.io [] [(1000,11)] [] [(1000,11)] [] [] [] [11,11] (st) rfl ⟨rfl,rfl,rfl,rfl⟩ ?_ ?_ ?_)|(with_reducible first|refine VCy.some fun K hK=>?_|refine VCy.step fun K hK=>?_))<;>simp -dsimp (disch:=first|exact D|fail) only [go_sem,↓reduceIte,seval,Option.getD_none,List.map_append,dropL_nil,dropL_nil',dropL_cons])|((with_reducible refine hK _ ?_);clear hK K)|(with_reducible refine VCy.intro fun K0 hK0=>?_)|((with_reducible refine VCy.fin ?_);(refine hK0 _ ?_);clear hK0 K0)|(with_reducible first|refine VCy.quiet ?_|refine VCy.none ?_)|((with_reducible refine VCy.keep ?_ ?_);focus ((simp -dsimp (disch:=first|exact D|fail) only [go_sem,↓reduceIte,seval,Stable_cons,Stable_nil,sameA_some,sameA_none,Option.getD_none,List.map_append,dropL_nil,dropL_nil',dropL_cons]);first|done|exact E|fail))|refine Q1 ?_|fail)
 simp -dsimp (disch:=first|exact D|fail) only [retQ,Tryz.results118,resVals,cellRV,resOf,St.rest,St.freeze,RT,go_sem,↓reduceIte,seval]
set_option maxHeartbeats 8000000 in
theorem shift_sat (removed:List Int) (c:Int) (h:removed.length≤1048576) (h1:-1048576≤c) (h2:c≤1048576):MapsAt Tryz.prog 139 ([[eInts removed]].map L.fz) (shiftI removed) c:=by
 unfold MapsAt shiftI
 simp only [List.map_cons,List.map_nil]
 refine sS tyOk Tryz.func139 fun w0 m0 F0=>?_
 simp only [Tryz.ntmps139,envOf,Nat.reduceAdd]
 repeat' (first|((with_reducible refine qV tyOk fun K hK=>?_)<;>simp -dsimp (disch:=first|exact D|fail) only [go_sem,↓reduceIte,seval])|((with_reducible refine hK _ ?_);clear hK K)|refine Q1 ?_|fail)
 refine AWP.loop (ι:={k:Nat // k≤removed.length}) (fun k=>⟨22,[(0,.v (oI c)),(4,.v (oI ((removed.take k.1).filter fun x=>decide (x<c)).length)),(7,.v (.one (eInts removed))),(8,.v (oI removed.length)),(9,.v (oI k.1))],[],[]⟩) (fun k=>removed.length - k.1) ⟨0,Nat.zero_le _⟩ ?_ fun ⟨k,hkl⟩=>?_
 ·refine St.le_mk ?_ ?_ ?_<;>simp only [LE,EN,Nat.reduceEqDiff,reduceIte,Nat.reduceSub,List.take_zero,List.filter_nil,List.length_nil,Int.natCast_zero]
 simp only at hkl ⊢
 have hfl:((removed.take k).filter fun x=>decide (x<c)).length≤removed.length:=Nat.le_trans (List.length_filter_le _ _) (by simp;omega)
 rcases Nat.lt_or_ge k removed.length with hc|hc
 ·have fs:=filter_snoc (fun x=>decide (x<c)) removed k hc
  by_cases hx:removed[k]<c
  ·simp only [hx,decide_true,if_true] at fs
   repeat' (first|((with_reducible refine qV tyOk fun K hK=>?_)<;>simp -dsimp (disch:=first|exact D|fail) only [go_sem,↓reduceIte,seval,hx])|((with_reducible refine hK _ ?_);clear hK K)|refine Q1 ?_|((with_reducible refine qW (T:=TT) (b:=?_) ?_ ?_);rotate_left;exact rfl)|fail)
   refine ⟨⟨k+1,by omega⟩,by simp only;omega,?_⟩
   refine St.le_mk ?_ ?_ ?_<;>simp only [LE,EN,Nat.reduceEqDiff,reduceIte,Nat.reduceSub,fs,Int.natCast_add,Int.natCast_one]
  ·simp only [hx,decide_false,Bool.false_eq_true,if_false,Nat.add_zero] at fs
   repeat' (first|((with_reducible refine qV tyOk fun K hK=>?_)<;>simp -dsimp (disch:=first|exact D|fail) only [go_sem,↓reduceIte,seval,hx])|((with_reducible refine hK _ ?_);clear hK K)|refine Q1 ?_|((with_reducible refine qW (T:=TT) (b:=?_) ?_ ?_);rotate_left;exact rfl)|fail)
   refine ⟨⟨k+1,by omega⟩,by simp only;omega,?_⟩
   refine St.le_mk ?_ ?_ ?_<;>simp only [LE,EN,Nat.reduceEqDiff,reduceIte,Nat.reduceSub,fs]
 ·rw [List.take_of_length_le hc] at hfl ⊢
  repeat' (first|((with_reducible refine qV tyOk fun K hK=>?_)<;>simp -dsimp (disch:=first|exact D|fail) only [go_sem,↓reduceIte,seval])|((with_reducible refine hK _ ?_);clear hK K)|refine Q1 ?_|((with_reducible refine qW (T:=TT) (b:=?_) ?_ ?_);rotate_left;exact rfl)|fail)
  simp -dsimp (disch:=first|exact D|fail) only [retQ,Tryz.results139,resVals,cellRV,resOf,St.rest,St.freeze,RT,go_sem,↓reduceIte,seval]
theorem dropAt_snoc {α:Type} (rm:List Int) (x:α):∀(l:List α) (n:Nat),dropAt rm (l++[x]) n=dropAt rm l n++(if rm.elem ((n+l.length:Nat):Int) then [] else [x])
 | [],n=>by simp [dropAt]
 | y::l,n=>by
  have ih:=dropAt_snoc rm x l (n+1)
  rw [List.cons_append,dropAt,dropAt,ih,List.length_cons,show n+1+l.length=n+(l.length+1) by omega]
  split<;>simp
theorem setCell_set (l:List (List L)) (i j:Nat) (x:List L) (u:L) (h:i<l.length):setCell (l.set i x) i j u=l.set i (x.set j u):=by
 unfold setCell
 rw [getD_setL l i x [] h,List.set_set]
theorem dropAt_len {α:Type} (rm:List Int):∀(l:List α) (n:Nat),(dropAt rm l n).length≤l.length
 | [],_=>Nat.le_refl _
 | y::l,n=>by
  rw [dropAt]
  have:=dropAt_len rm l (n+1)
  split<;>simp<;>omega
set_option maxHeartbeats 32000000 in
theorem removeColumns_satM (s:Sch) (i:Nat) (removed:List Int) (hi:i<s.tables.length) (hr:removed.length≤1048576) (h1:s.tables.length≤1048576) (h2:s.fks.length≤1048576) (h3:s.cons.length≤1048576)
  (hcl:s.tables[i].cols.length≤1048576) (hpl:s.tables[i].pk.length≤1048576) (hp:∀c∈s.tables[i].pk,-1048576≤c∧c≤1048576)
  (hn:∀k∈s.fks,k.cols.length≤1048576) (hf:∀k∈s.fks,sEq k.table s.tables[i].name=true→∀c∈k.cols,-1048576≤c∧c≤1048576) (hc:∀k∈s.cons,sEq k.table s.tables[i].name=true→(-1048576≤k.left∧k.left≤1048576)∧k.right≤1048576) :
  SatM Tryz.prog 125 [.one (.ptr 1000 0),oI i,.one (eInts removed)] (iB s) (iR s) (.tup []) (iB (removeC s i removed)) (iR (removeC s i removed)):=by
 obtain ⟨t,ht⟩:∃t,s.tables[i]=t:=⟨_,rfl⟩
 have htA:tAt s i=t:=by unfold tAt;rw [getD_lt _ hi,ht]
 rw [ht] at hcl hpl hp hf hc
 have rc:=remap_satM ⟨s.tables,s.fks,s.cons⟩ (rowT s.tables i ⟨t.name,dropAt removed t.cols 0,t.pk.map (shiftI removed)⟩) s.tables.length t.name (shiftI removed) 139 [[eInts removed]] h2 h3 hn
  (fun k hk hT c hc'=>shift_sat removed c hr (hf k hk hT c hc').1 (hf k hk hT c hc').2) (fun k hk hT=>⟨shift_sat removed _ hr (hc k hk hT).1.1 (hc k hk hT).1.2,fun h0=>shift_sat removed _ hr (by omega) (hc k hk hT).2⟩)
 simp only [List.map_cons,List.map_nil] at rc
 have spec:removeC s i removed=⟨s.tables.set i ⟨t.name,dropAt removed t.cols 0,t.pk.map (shiftI removed)⟩,s.fks.map (remapFK t.name (shiftI removed)),s.cons.map (remapCon t.name (shiftI removed))⟩:=by
  unfold removeC remapS setT
  rw [htA]
 rw [spec]
 unfold iB iR
 simp only [List.length_map,List.length_set]
 have e0:s.tables.map eTblO=rowT s.tables i t:=by unfold rowT;rw [←ht,List.set_getElem_self]
 have rl:=rowT_len s.tables i t
 have rg:=fun t=>rowT_get (l:=s.tables) (k:=i) t hi
 have dl:=dropAt_len removed t.cols 0
 rw [e0]
 refine sM tyOk [1000] [1000,1001,1002] Tryz.func125 fun w0 m0 F0=>?_
 simp only [Tryz.ntmps125,envOf,Nat.reduceAdd]
 repeat' (first|((((fail_if_success (refine AWP.isRegion 1 ?_));(with_reducible refine qV tyOk fun K hK=>?_)))<;>simp -dsimp (disch:=first|exact D|fail) only [go_sem,↓reduceIte,seval])|((with_reducible refine hK _ ?_);clear hK K)|refine Q1 ?_|fail)
 refine AWP.frz [1000] [1000,1001,1002] ?_
 simp -dsimp (disch:=first|exact D|fail) only [go_sem,↓reduceIte,seval,RT,St.rest,St.freeze]
 refine AWP.openC 1000 i 1 2000 rfl (rowT_cell1 _ hi) rfl (by decide) (by decide) ?_
 simp -dsimp (disch:=first|exact D|fail) only [go_sem,↓reduceIte,seval,openR_mk]
 refine AWP.openC 1000 i 2 2001 rfl (rowT_cell2 _ hi) (by simp [ovGet]) (by decide) (by decide) ?_
 simp -dsimp (disch:=first|exact D|fail) only [go_sem,↓reduceIte,seval,openR_mk]
 repeat' (first|((with_reducible refine qV tyOk fun K hK=>?_)<;>simp -dsimp (disch:=first|exact D|fail) only [go_sem,↓reduceIte,seval,rl,rg,eTblO,Option.getD_none])|((with_reducible refine hK _ ?_);clear hK K)|refine Q1 ?_|fail)
 refine AWP.loop (ι:={k:Nat // k≤t.cols.length}) (fun k=>⟨70,[(0,.v (.one (.ptr 1000 0))),(5,.v (.one (.fz [eInts removed]))),(6,.v (.one (.eptr 1000 i 0))),(7,.v (.one (.clo 139 [.fz [eInts removed]]))),(8,.v (.one (.ref 8 0 (dropAt removed (t.cols.take k.1) 0).length))),(23,.v (.one (.ref 2000 0 t.cols.length))),(24,.v (oI t.cols.length)),(25,.v (oI k.1))],[(1000,[.ref 1000 0 s.tables.length,.ref 1001 0 s.fks.length,.ref 1002 0 s.cons.length])],[(8,⟨3,(dropAt removed (t.cols.take k.1) 0).map eCol,[]⟩),(2000,⟨3,t.cols.map eCol,[]⟩),(2001,⟨1,t.pk.map eInt1,[]⟩),(1000,⟨3,rowT s.tables i t,[(i,2,.ref 2001 0 t.pk.length),(i,1,.ref 2000 0 t.cols.length)]⟩),(1001,⟨3,s.fks.map eFKO,[]⟩),(1002,⟨7,s.cons.map eCon,[]⟩)]⟩) (fun k=>t.cols.length - k.1) ⟨0,Nat.zero_le _⟩ ?_ fun ⟨k,hkl⟩=>?_
 ·refine St.le_mk ?_ ?_ ?_<;>simp only [LE,EN,Nat.reduceEqDiff,reduceIte,Nat.reduceSub,List.take_zero,dropAt,List.length_nil,List.map_nil]
 simp only at hkl ⊢
 have dk:=dropAt_len removed (t.cols.take k) 0
 have tk:(t.cols.take k).length=k:=by simp;omega
 rw [tk] at dk
 rcases Nat.lt_or_ge k t.cols.length with hk|hk
 ·have es:=take_snoc t.cols k hk
  have ds:=dropAt_snoc removed t.cols[k] (t.cols.take k) 0
  rw [←es,tk,Nat.zero_add] at ds
  have cc:=containsInt_sat removed (k:Int) (by omega)
  cases hx:removed.elem (k:Int) with
  | true =>
   rw [hx] at cc ds
   simp only [if_true,List.append_nil] at ds
   repeat' (first|((first|with_reducible refine qV tyOk fun K hK=>?_|((with_reducible refine CallJ.is ?_);(refine CallJ.pure (cc) ?_)))<;>simp -dsimp (disch:=first|exact D|fail) only [go_sem,↓reduceIte,seval,rl,rg,Option.getD_none])|((with_reducible refine hK _ ?_);clear hK K)|refine Q1 ?_|((with_reducible refine qW (T:=TT) (b:=?_) ?_ ?_);rotate_left;exact rfl)|fail)
   refine ⟨⟨k+1,by omega⟩,by simp only;omega,?_⟩
   refine St.le_mk ?_ ?_ ?_<;>simp only [LE,EN,Nat.reduceEqDiff,reduceIte,Nat.reduceSub,ds]
  | false =>
   rw [hx] at cc ds
   simp only [Bool.false_eq_true,if_false] at ds
   repeat' (first|((first|with_reducible refine qV tyOk fun K hK=>?_|((with_reducible refine CallJ.is ?_);(refine CallJ.pure (cc) ?_)))<;>simp -dsimp (disch:=first|exact D|fail) only [go_sem,↓reduceIte,seval,rl,rg,Option.getD_none])|((with_reducible refine hK _ ?_);clear hK K)|refine Q1 ?_|((with_reducible refine qW (T:=TT) (b:=?_) ?_ ?_);rotate_left;exact rfl)|fail)
   refine ⟨⟨k+1,by omega⟩,by simp only;omega,?_⟩
   refine St.le_mk ?_ ?_ ?_<;>simp only [LE,EN,Nat.reduceEqDiff,reduceIte,Nat.reduceSub,ds,eCol,List.map_append,List.map_cons,List.map_nil,List.length_append,List.length_cons,List.length_nil]
 ·rw [List.take_of_length_le hk] at dk ⊢
  repeat' (first|((with_reducible refine qV tyOk fun K hK=>?_)<;>simp -dsimp (disch:=first|exact D|fail) only [go_sem,↓reduceIte,seval,rl,rg,eTblO,Option.getD_none])|((with_reducible refine hK _ ?_);clear hK K)|refine Q1 ?_|((with_reducible refine qW (T:=TT) (b:=?_) ?_ ?_);rotate_left;exact rfl)|fail)
  refine AWP.loop (ι:={j:Nat // j≤t.pk.length}) (fun j=>⟨70,[(0,.v (.one (.ptr 1000 0))),(6,.v (.one (.eptr 1000 i 0))),(7,.v (.one (.clo 139 [.fz [eInts removed]]))),(8,.v (.one (.ref 8 0 (dropAt removed t.cols 0).length))),(42,.v (.one (.ref 2001 0 t.pk.length))),(43,.v (oI t.pk.length)),(44,.v (oI j.1))],[(1000,[.ref 1000 0 s.tables.length,.ref 1001 0 s.fks.length,.ref 1002 0 s.cons.length])],[(8,⟨3,(dropAt removed t.cols 0).map eCol,[]⟩),(2000,⟨3,t.cols.map eCol,[]⟩),(2001,⟨1,(mix (shiftI removed) t.pk j.1).map eInt1,[]⟩),(1000,⟨3,rowT s.tables i t,[(i,2,.ref 2001 0 t.pk.length),(i,1,.ref 2000 0 t.cols.length)]⟩),(1001,⟨3,s.fks.map eFKO,[]⟩),(1002,⟨7,s.cons.map eCon,[]⟩)]⟩) (fun j=>t.pk.length - j.1) ⟨0,Nat.zero_le _⟩ ?_ fun ⟨j,hjl⟩=>?_
  ·refine St.le_mk ?_ ?_ ?_<;>simp only [LE,EN,Nat.reduceEqDiff,reduceIte,Nat.reduceSub,mix_zero]
  simp only at hjl ⊢
  rcases Nat.lt_or_ge j t.pk.length with hj|hj
  ·have ml:=mix_len (shiftI removed) t.pk j
   have mg:=mixr_get eInt1 (shiftI removed) t.pk j hj
   have ms:=mixr_set eInt1 (shiftI removed) t.pk j hj
   simp only [eInt1] at ms
   have hb:=hp t.pk[j] (List.getElem_mem hj)
   have hg:=shift_sat removed t.pk[j] hr hb.1 hb.2
   unfold MapsAt at hg
   simp only [List.map_cons,List.map_nil] at hg
   repeat' (first|((first|with_reducible refine qV tyOk fun K hK=>?_|(refine AWP.isRegion 13 ?_;refine dX tyOk mixed [(0,7)] [(7,[(8,1)],[(0,5)]),(9,[],[])] [7,9] 8 fun K hK=>?_;simp only [SG,segs] at hK ⊢)|((with_reducible refine CallJ.is ?_);(refine CallJ.pure (hg) ?_))|(with_reducible first|refine VCy.some fun K hK=>?_|refine VCy.step fun K hK=>?_))<;>simp -dsimp (disch:=first|exact D|fail) only [go_sem,↓reduceIte,seval,rl,rg,eTblO,ml,mg,Option.getD_none])|((with_reducible refine hK _ ?_);clear hK K)|(with_reducible refine VCy.intro fun K0 hK0=>?_)|((with_reducible refine VCy.fin ?_);(refine hK0 _ ?_);clear hK0 K0)|(with_reducible first|refine VCy.quiet ?_|refine VCy.none ?_)|((with_reducible refine VCy.keep ?_ ?_);focus ((simp -dsimp (disch:=first|exact D|fail) only [go_sem,↓reduceIte,seval,Stable_cons,Stable_nil,sameA_some,sameA_none,rl,rg,eTblO,ml,mg,Option.getD_none]);first|done|exact E|fail))|refine Q1 ?_|((with_reducible refine qW (T:=TT) (b:=?_) ?_ ?_);rotate_left;exact rfl)|fail)
   refine ⟨⟨j+1,by omega⟩,by simp only;omega,?_⟩
   refine St.le_mk ?_ ?_ ?_<;>simp only [LE,EN,Nat.reduceEqDiff,reduceIte,Nat.reduceSub,ms]
  ·have hj:j=t.pk.length:=by omega
   subst hj
   repeat' (first|((((fail_if_success (refine AWP.isRegion 16 ?_));(with_reducible refine qV tyOk fun K hK=>?_)))<;>simp -dsimp (disch:=first|exact D|fail) only [go_sem,↓reduceIte,seval,rl,rg,eTblO,Option.getD_none])|((with_reducible refine hK _ ?_);clear hK K)|refine Q1 ?_|((with_reducible refine qW (T:=TT) (b:=?_) ?_ ?_);rotate_left;exact rfl)|fail)
   refine AWP.close 1000 i 1 8 rfl rfl (by decide) (by simp [ovGet]) (by simp [rl];exact hi) (by show 1<3;decide) rfl ?_
   simp -dsimp (disch:=first|exact D|fail) only [go_sem,↓reduceIte,seval,closeR_mk,ovCut_cons,ovCut_nil]
   rw [setCell_set _ _ _ _ _ (by rw [rl];exact hi)]
   have e1:=rowT_set s.tables i t ⟨t.name,dropAt removed t.cols 0,t.pk⟩
   simp only [eTblO] at e1
   simp only [List.set_cons_succ,List.set_cons_zero,e1]
   refine AWP.close 1000 i 2 2001 rfl rfl (by decide) (by simp [ovGet,mix_len]) (by rw [rowT_len];exact hi) (by show 2<3;decide) rfl ?_
   simp -dsimp (disch:=first|exact D|fail) only [go_sem,↓reduceIte,seval,closeR_mk,ovCut_cons,ovCut_nil]
   rw [rowT_pk _ hi,mix_all]
   have rl2:=rowT_len s.tables i ⟨t.name,dropAt removed t.cols 0,t.pk.map (shiftI removed)⟩
   repeat' (first|((first|with_reducible refine qV tyOk fun K hK=>?_|((with_reducible refine CallJ.is ?_);refine CallJ.io [(1000,1000)] [(1000,1000),(1001,1001),(1002,1002)] [(1000,1000)] [(1000,1000),(1001,1001),(1002,1002)] [] [] [1000,1000] [1000,1001,1002,1000,1001,1002] (rc) rfl ⟨rfl,rfl,rfl,rfl⟩ ?_ ?_ ?_))<;>simp -dsimp (disch:=first|exact D|fail) only [go_sem,↓reduceIte,seval,rl2,rg,eTblO,Option.getD_none,okIds_ref,dropL_nil,dropL_nil',dropL_cons])|((with_reducible refine hK _ ?_);clear hK K)|refine Q1 ?_|fail)
   simp -dsimp (disch:=first|exact D|fail) only [retQ,Tryz.results125,resVals,cellRV,resOf,St.rest,St.freeze,RT,go_sem,↓reduceIte,seval]
   rfl
structure SmallS (s:Sch):Prop where
 tables:s.tables.length≤6
 table:∀t∈s.tables,t.cols.length≤6∧t.pk.length≤6∧∀c∈t.pk,0≤c∧c≤6
 fks:s.fks.length≤8
 fk:∀f∈s.fks,f.cols.length≤6∧∀c∈f.cols,0≤c∧c≤6
 cons:s.cons.length≤8
 con:∀c∈s.cons,0≤c.left∧c.left≤6∧-1≤c.right∧c.right≤6
set_option maxHeartbeats 8000000 in
theorem cloneIntsR_satM (l:List Int) (h1:l.length≤1048576):SatM Tryz.prog 54 [.one (.ref 1000 0 l.length)] [] [(1000,⟨1,l.map eInt1,[]⟩)] (.v (.one (.ref 2 0 l.length))) [] [(1000,⟨1,l.map eInt1,[]⟩),(2,⟨1,l.map eInt1,[]⟩)]:=by
 refine sM tyOk [] [1000,2] Tryz.func54 fun w0 m0 F0=>?_
 simp only [Tryz.ntmps54,envOf,Nat.reduceAdd]
 repeat' (first|((with_reducible refine qV tyOk fun K hK=>?_)<;>simp -dsimp (disch:=first|exact D|fail) only [go_sem,↓reduceIte,seval])|((with_reducible refine hK _ ?_);clear hK K)|refine Q1 ?_|fail)
 intro b hb
 refine hK _ ?_
 clear hK K
 repeat' (first|((with_reducible refine qV tyOk fun K hK=>?_)<;>simp -dsimp (disch:=first|exact D|fail) only [go_sem,↓reduceIte,seval])|((with_reducible refine hK _ ?_);clear hK K)|refine Q1 ?_|((with_reducible refine qW (T:=TT) (b:=?_) ?_ ?_);rotate_left;exact rfl)|((with_reducible refine yS ?_ ?_)<;>(intro h;try simp only [NM] at h))|fail)
 all_goals simp -dsimp (disch:=first|exact D|fail) only [retQ,Tryz.results54,resVals,cellRV,resOf,St.rest,St.freeze,RT,go_sem,↓reduceIte,seval]
 have h2:l=[]:=by
  cases l with
  | nil=>rfl
  | cons x r=>exact absurd ((hb _ rfl (by simp)).symm.trans ‹b=true›) (by decide)
 subst h2
 exact ⟨rfl,rfl⟩
theorem moved_sat (st:Stp) (n:Nat) (c:Int) (hn:n≤1048576) (hl:st.cols.length≤1048576):MapsAt Tryz.prog 121 ([[.int .i64 (n:Int)],eStp st].map L.fz) (movedI n st.cols) c:=by
 have ix:=indexInt_sat st.cols c (by omega)
 have hb:-1≤idx (fun x=>x==c) st.cols 0∧idx (fun x=>x==c) st.cols 0<st.cols.length+1:=by
  rcases idx_cases (fun x=>x==c) st.cols 0 with ⟨e1,_⟩|⟨j,hj,e1,_,_⟩
  ·omega
  ·omega
 unfold MapsAt movedI
 generalize idx (fun x=>x==c) st.cols 0=q at ix hb ⊢
 simp only [List.map_cons,List.map_nil]
 refine sS tyOk Tryz.func121 fun w0 m0 F0=>?_
 simp only [Tryz.ntmps121,envOf,Nat.reduceAdd]
 repeat' (first|((first|with_reducible refine qV tyOk fun K hK=>?_|(refine AWP.isRegion 1 ?_;refine dX tyOk mixed [(0,4)] [(4,[(5,2)],[(0,1)])] [4] 8 fun K hK=>?_;simp only [SG,segs] at hK ⊢)|((with_reducible refine CallJ.is ?_);(refine CallJ.pure (ix) ?_))|(with_reducible first|refine VCy.some fun K hK=>?_|refine VCy.step fun K hK=>?_))<;>simp -dsimp (disch:=first|exact D|fail) only [go_sem,↓reduceIte,seval,eStp])|((with_reducible refine hK _ ?_);clear hK K)|(with_reducible refine VCy.intro fun K0 hK0=>?_)|((with_reducible refine VCy.fin ?_);(refine hK0 _ ?_);clear hK0 K0)|((with_reducible refine VCy.keep ?_ ?_);focus ((simp -dsimp (disch:=first|exact D|fail) only [go_sem,↓reduceIte,seval,Stable_cons,Stable_nil,sameA_some,sameA_none,eStp]);first|done|exact E|fail))|refine Q1 ?_|fail)
 simp -dsimp (disch:=first|exact D|fail) only [retQ,Tryz.results121,resVals,cellRV,resOf,St.rest,St.freeze,RT,go_sem,↓reduceIte,seval]
def splitCE (t:Tbl) (st:Stp) (k:Nat) (c:Int):Option Int:=if c<0∨(t.cols.length:Int)≤c∨(0<(k:Int)∧c≤st.cols.getD ((k:Int) - 1).toNat 0) then some 3 else none
set_option maxHeartbeats 16000000 in
theorem checkSplit_satX (s : Sch) (t : Tbl) (st : Stp) (h1 : s.tables.length ≤ 140737488355328) (h2 : t.cols.length ≤ 1048576) (h3 : t.pk.length ≤ 1048576) (h4 : st.cols.length ≤ 140737488355328) :
    Sat Tryz.prog 120 [.agg (eSch s), .agg (eTbl t), .agg (eStp st)] (.v (oI (splitE s t st))) := by
  have fs := findTable_sat s st.other h1
  have ov := overlap_sat st.cols t.pk h4 (by omega)
  have spec : splitE s t st = match scan (splitCE t st) st.cols 0 with
    | some e => e
    | none => if st.cols.length = 0 then 3 else if overlapI st.cols t.pk ≠ 0 then 9 else if 0 ≤ tblAt s.tables st.other then 5 else 0 := rfl
  rw [spec]
  refine sS tyOk Tryz.func120 fun w0 m0 F0 => ?_
  simp only [Tryz.ntmps120, envOf, Nat.reduceAdd]
  repeat' (first | ((with_reducible refine qV tyOk fun K hK => ?_) <;> simp -dsimp (disch := first | exact D | fail) only [go_sem, ↓reduceIte, seval, eStp]) | ((with_reducible refine hK _ ?_); clear hK K) | refine Q1 ?_ | fail)
  refine AWP.loop (ι := {k : Nat // k ≤ st.cols.length ∧ scan (splitCE t st) (st.cols.drop k) k = scan (splitCE t st) st.cols 0}) (fun k => ⟨61, [(3, .v (.one (.ptr 3 0))), (4, .v (.one (.ptr 4 0))), (5, .v (.one (.ptr 5 0))), (12, .v (.one (eInts st.cols))), (13, .v (oI st.cols.length)), (14, .v (oI k.1))], [(3, eSch s), (4, eTbl t), (5, eStp st)], []⟩) (fun k => st.cols.length - k.1) ⟨0, Nat.zero_le _, rfl⟩ ?_ fun ⟨k, hkl, hi⟩ => ?_
  · refine St.le_mk ?_ ?_ ?_ <;> simp only [LE, EN, Nat.reduceEqDiff, reduceIte, Nat.reduceSub, eSch, eStp]
  simp only at hkl ⊢
  rcases Nat.lt_or_ge k st.cols.length with hc | hc
  · repeat' (first | ((first | with_reducible refine qV tyOk fun K hK => ?_ | refine Q2 ?_ | ((with_reducible refine qS ?_ ?_) <;> (intro h; try simp only [NM] at h))) <;> simp -dsimp (disch := first | exact D | fail) only [go_sem, ↓reduceIte, seval, eStp, eSch]) | ((with_reducible refine hK _ ?_); clear hK K) | refine Q1 ?_ | ((with_reducible refine qW (T := TT) (b := ?_) ?_ ?_); rotate_left; exact rfl) | ((with_reducible refine yS ?_ ?_) <;> (intro h; try simp only [NM] at h)) | fail)
    all_goals
      first
        | (have hs : (splitCE t st) k st.cols[k] = none := by
             (simp (disch := omega) only [splitCE, getD_lt]; (repeat' split) <;> first | rfl | with_reducible assumption | omega | (exfalso; omega) | (simp_all; done) | (simp_all; omega))
           refine ⟨⟨k + 1, by omega, by rw [scan_step (by omega) hs, hi]⟩, by simp only; omega, ?_⟩
           refine St.le_mk ?_ ?_ ?_ <;> simp only [LE, EN, Nat.reduceEqDiff, reduceIte, Nat.reduceSub, eSch, eStp]
           done)
        | (simp -dsimp (disch := first | exact D | fail) only [retQ, Tryz.results120, resVals, cellRV, resOf, St.rest, St.freeze, RT, go_sem, ↓reduceIte, seval]
           rw [scan_leaf (by omega) ?_ hi]
           all_goals first | with_reducible rfl | ((simp (disch := omega) only [splitCE, getD_lt]; (repeat' split) <;> first | rfl | with_reducible assumption | omega | (exfalso; omega) | (simp_all; done) | (simp_all; omega)); done) | rfl
           done)
  · rw [scan_end (by omega)] at hi
    rw [← hi]
    simp only
    generalize overlapI st.cols t.pk = q at ov ⊢
    generalize tblAt s.tables st.other = z at fs ⊢
    repeat' (first | ((first | with_reducible refine qV tyOk fun K hK => ?_ | ((with_reducible refine CallJ.is ?_); (first | refine CallJ.pure (ov) ?_ | refine CallJ.pure (fs) ?_))) <;> simp -dsimp (disch := first | exact D | fail) only [go_sem, ↓reduceIte, seval, eStp, eSch]) | ((with_reducible refine hK _ ?_); clear hK K) | refine Q1 ?_ | ((with_reducible refine qW (T := TT) (b := ?_) ?_ ?_); rotate_left; exact rfl) | ((with_reducible refine yS ?_ ?_) <;> (intro h; try simp only [NM] at h)) | fail)
    all_goals simp -dsimp (disch := first | exact D | fail) only [retQ, Tryz.results120, resVals, cellRV, resOf, St.rest, St.freeze, RT, go_sem, ↓reduceIte, seval]
    all_goals simp_all
    all_goals omega

theorem splitE_cols {s:Sch} {t:Tbl} {st:Stp} (h:splitE s t st=0):st.cols.length≤t.cols.length∧∀c∈st.cols,0≤c∧c<(t.cols.length:Int):=by
 unfold splitE at h
 generalize hp:(fun (k:Nat) (c:Int)=>if c<0∨(t.cols.length:Int)≤c∨(0<(k:Int)∧c≤st.cols.getD ((k:Int) - 1).toNat 0) then some (3:Int) else none)=p at h
 have hn:scan p st.cols 0=none:=by
  cases hs:scan p st.cols 0 with
  | none=>rfl
  | some e =>
   rw [hs] at h
   simp only at h
   exfalso
   have h3:∀(l:List Int) (i:Nat) (e:Int),scan p l i=some e→e≠0:=fun l i e=>scan_ne fun k x e hx=>by
    rw [←hp] at hx
    simp only at hx
    split at hx
    ·simp only [Option.some.injEq] at hx;omega
    ·cases hx
   exact h3 _ _ _ hs h
 have key:∀k (hk:k<st.cols.length),0≤st.cols[k]∧st.cols[k]<(t.cols.length:Int)∧(0<k→st.cols.getD (k - 1) 0<st.cols[k]):=by
  intro k hk
  have h1:=scan_none hn k hk
  rw [Nat.zero_add,←hp] at h1
  simp only at h1
  split at h1
  ·cases h1
  ·rename_i h2
   refine ⟨by omega,by omega,fun h3=>?_⟩
   have:¬ (st.cols[k]≤st.cols.getD ((k:Int) - 1).toNat 0):=fun h4=>h2 (.inr (.inr ⟨by omega,h4⟩))
   rw [show ((k:Int) - 1).toNat=k - 1 by omega] at this
   omega
 have grow:∀k (hk:k<st.cols.length),(k:Int)≤st.cols[k]:=by
  intro k
  induction k with
  | zero=>intro hk;have:=(key 0 hk).1;omega
  | succ k ih =>
   intro hk
   have h1:=ih (by omega)
   have h2:=(key (k+1) hk).2.2 (by omega)
   rw [Nat.add_sub_cancel,List.getD_eq_getElem?_getD,List.getElem?_eq_getElem (by omega),Option.getD_some] at h2
   omega
 refine ⟨?_,fun c hc=>?_⟩
 ·rcases Nat.eq_zero_or_pos st.cols.length with h0|h0
  ·omega
  ·have h1:=grow (st.cols.length - 1) (by omega)
   have h2:=(key (st.cols.length - 1) (by omega)).2.1
   omega
 ·obtain ⟨k,hk,rfl⟩:=List.getElem_of_mem hc
  exact ⟨(key k hk).1,(key k hk).2.1⟩
theorem movedI_bound (n:Nat) (cols:List Int) (c:Int):(n:Int) - 1≤movedI n cols c∧movedI n cols c≤n+cols.length:=by
 unfold movedI
 rcases idx_cases (fun x=>x==c) cols 0 with ⟨e1,_⟩|⟨j,hj,e1,_,_⟩
 ·omega
 ·omega
theorem takeM {α β:Type} (e:α→β) (l:List α):List.take l.length (l.map e)=l.map e:=List.take_of_length_le (by simp)
theorem frzRs_tbl {fr:L→L} {i:Nat} {a b:L} {t:Tbl} (ha:fr a=.sl 1 (t.pk.map eInt1)) (hb:fr b=.sl 3 (t.cols.map eCol)):∀(l:List Tbl) (k:Nat),(∀(_:k≤i) (h:i - k<l.length),l[i - k]=t)→frzRs fr [(i,2,a),(i,1,b)] k (l.map eTblO)=l.map eTbl
 | [],_,_=>rfl
 | x::r,k,h=>by
  rw [List.map_cons,frzRs_cons,frzRs_tbl ha hb r (k+1) fun h1 h2=>by
   have h3:=h (by omega) (by rw [List.length_cons];omega)
   rw [←h3]
   have h4:i - k=(i - (k+1))+1:=by omega
   simp only [h4,List.getElem_cons_succ]]
  congr 1
  by_cases hk:k=i
  ·subst hk
   have h3:=h (Nat.le_refl _) (by rw [List.length_cons];omega)
   simp only [Nat.sub_self,List.getElem_cons_zero] at h3
   subst h3
   simp [eTbl,eTblO,eCols,eInts,frzCs_cons,frzCs_nil,frzO,ovGet,ha,hb,L.frzN]
  ·have hk':¬ i=k:=fun e=>hk e.symm
   simp [eTbl,eTblO,eCols,eInts,frzCs_cons,frzCs_nil,frzO,ovGet,hk,hk',L.frzN]
   exact ⟨fun _ _=>rfl,fun _ _=>rfl⟩
theorem frzRs_tblT {fr:L→L} {i:Nat} {a b:L} {t:Tbl} (l:List Tbl) (hi:i<l.length) (ht:l[i]=t) (ha:fr a=.sl 1 (t.pk.map eInt1)) (hb:fr b=.sl 3 (t.cols.map eCol)):List.take l.length (frzRs fr [(i,2,a),(i,1,b)] 0 (l.map eTblO))=l.map eTbl:=by
 rw [frzRs_tbl ha hb l 0 (fun _ h=>by simpa using ht)]
 exact List.take_of_length_le (by simp)
theorem overlapI_cases (a b:List Int):overlapI a b=0∨overlapI a b=1∨overlapI a b=2:=by
 unfold overlapI
 simp only
 split
 ·exact .inl rfl
 ·split
  ·exact .inr (.inr rfl)
  ·exact .inr (.inl rfl)
theorem any_of_at {α:Type} {p:α→Bool} {l:List α} {k:Nat} (hk:k<l.length) (h:p l[k]=true):l.any p=true:=List.any_eq_true.2 ⟨_,List.getElem_mem hk,h⟩
theorem take_no {α:Type} {p:α→Bool} {l:List α} {k:Nat} (hk:k<l.length) (hi:(l.take k).any p=false) (h:p l[k]=false):(l.take (k+1)).any p=false:=by
 rw [List.take_succ_eq_append_getElem hk,List.any_append,hi,List.any_cons,List.any_nil,h];rfl
theorem splitFK_cols {t:Tbl} {st:Stp} {f:FK} (h:∀c∈f.cols,0≤c∧c≤6) (ht:t.pk.length≤6) (hst:st.cols.length≤6):(splitFK t st f).cols.length=f.cols.length∧∀c∈(splitFK t st f).cols,-1048576≤c∧c≤1048576:=by
 unfold splitFK
 split
 ·refine ⟨by simp,fun c hc=>?_⟩
  simp only [List.mem_map] at hc
  obtain ⟨x,_,rfl⟩:=hc
  have:=movedI_bound t.pk.length st.cols x
  omega
 ·exact ⟨rfl,fun c hc=>by have:=h c hc;omega⟩
theorem splitCon_cols {t:Tbl} {st:Stp} {c:Con} (h:0≤c.left∧c.left≤6∧-1≤c.right∧c.right≤6) (ht:t.pk.length≤6) (hst:st.cols.length≤6):(-1048576≤(splitCon t st c).left∧(splitCon t st c).left≤1048576)∧(splitCon t st c).right≤1048576:=by
 unfold splitCon
 split
 ·have h1:=movedI_bound t.pk.length st.cols c.left
  have h2:=movedI_bound t.pk.length st.cols c.right
  refine ⟨⟨by simp only;omega,by simp only;omega⟩,?_⟩
  simp only
  split<;>omega
 ·omega
theorem split_lens (s:Sch) (i:Nat) (t:Tbl) (st:Stp) (u:Sch) (h:removeC ⟨s.tables,s.fks.map (splitFK t st),s.cons.map (splitCon t st)⟩ i st.cols=u):u.tables.length=s.tables.length∧u.fks.length=s.fks.length∧u.cons.length=s.cons.length:=by
 rw [←h]
 simp [removeC,remapS,setT]
theorem split_rc (s:Sch) (i:Nat) (t:Tbl) (st:Stp) (hi:i<s.tables.length) (ht:s.tables[i]=t) (sm:SmallS s) (hst:st.cols.length≤t.cols.length) :
  SatM Tryz.prog 125 [.one (.ptr 1000 0),oI i,.one (eInts st.cols)] (iB ⟨s.tables,s.fks.map (splitFK t st),s.cons.map (splitCon t st)⟩) (iR ⟨s.tables,s.fks.map (splitFK t st),s.cons.map (splitCon t st)⟩) (.tup []) (iB (removeC ⟨s.tables,s.fks.map (splitFK t st),s.cons.map (splitCon t st)⟩ i st.cols)) (iR (removeC ⟨s.tables,s.fks.map (splitFK t st),s.cons.map (splitCon t st)⟩ i st.cols)):=by
 have b1:=sm.tables
 have b2:=sm.table s.tables[i] (List.getElem_mem hi)
 have b3:=sm.fks
 have b4:=sm.cons
 rw [ht] at b2
 obtain ⟨b6,b7,b8⟩:=b2
 refine removeColumns_satM _ i st.cols hi (by omega) (by show s.tables.length≤_;omega) (by show (s.fks.map _).length≤_;rw [List.length_map];omega) (by show (s.cons.map _).length≤_;rw [List.length_map];omega) ?_ ?_ ?_ ?_ ?_ ?_
 ·show s.tables[i].cols.length≤_;rw [ht];omega
 ·show s.tables[i].pk.length≤_;rw [ht];omega
 ·show ∀c∈s.tables[i].pk,_;rw [ht];intro c hc;have:=b8 c hc;omega
 ·intro k hk
  obtain ⟨f,hf,rfl⟩:=List.mem_map.1 (show k∈s.fks.map (splitFK t st) from hk)
  have h1:=sm.fk f hf
  have:=(splitFK_cols h1.2 b7 (by omega) (st:=st)).1
  omega
 ·intro k hk _
  obtain ⟨f,hf,rfl⟩:=List.mem_map.1 (show k∈s.fks.map (splitFK t st) from hk)
  exact (splitFK_cols (sm.fk f hf).2 b7 (by omega)).2
 ·intro k hk _
  obtain ⟨f,hf,rfl⟩:=List.mem_map.1 (show k∈s.cons.map (splitCon t st) from hk)
  exact splitCon_cols (sm.con f hf) b7 (by omega)
theorem dropFK1_sat (a f:FK) (ha:a.cols.length≤140737488355328):Sat Tryz.prog 116 [.agg (eFK a),.one (.fz (eFK f))] (.v (oB (fkEq a f))):=by
 refine sS tyOk Tryz.func116 fun w0 m0 F0=>?_
 simp only [Tryz.ntmps116,envOf,Nat.reduceAdd]
 repeat' (first|((first|with_reducible refine qV tyOk fun K hK=>?_|((with_reducible refine CallJ.is ?_);(refine CallJ.pure (equalFKs_sat a f ha) ?_)))<;>simp -dsimp (disch:=first|exact D|fail) only [go_sem,↓reduceIte,seval])|((with_reducible refine hK _ ?_);clear hK K)|refine Q1 ?_|fail)
 simp -dsimp (disch:=first|exact D|fail) only [retQ,Tryz.results116,resVals,cellRV,resOf,St.rest,St.freeze,RT,go_sem,↓reduceIte,seval]
theorem part1_sat (f:FK) (t:Tbl):Sat Tryz.prog 129 [.agg (eFK f),.one (.fz (eTbl t))] (.v (oB (sEq f.ref t.name))):=by
 refine sS tyOk Tryz.func129 fun w0 m0 F0=>?_
 simp only [Tryz.ntmps129,envOf,Nat.reduceAdd]
 repeat' (first|((with_reducible refine qV tyOk fun K hK=>?_)<;>simp -dsimp (disch:=first|exact D|fail) only [go_sem,↓reduceIte,seval])|((with_reducible refine hK _ ?_);clear hK K)|refine Q1 ?_|fail)
 all_goals simp -dsimp (disch:=first|exact D|fail) only [retQ,Tryz.results129,resVals,cellRV,resOf,St.rest,St.freeze,RT,go_sem,↓reduceIte,seval]
 all_goals rfl
def partFK (t:Tbl) (st:Stp) (l:List FK):List FK:=(l.filter fun f=>sEq f.table t.name).map fun f=>{f with table:=st.other}
def partCon (t:Tbl) (st:Stp) (l:List Con):List Con:=(l.filter fun c=>sEq c.table t.name).map fun c=>{c with table:=st.other}
theorem partFK_snoc (t:Tbl) (st:Stp) (l:List FK) (k:Nat) (h:k<l.length):partFK t st (l.take (k+1))=partFK t st (l.take k)++(if sEq l[k].table t.name then [{l[k] with table:=st.other}] else []):=by
 rw [List.take_succ_eq_append_getElem h]
 unfold partFK
 rw [List.filter_append,List.map_append]
 congr 1
 cases hx:sEq l[k].table t.name<;>simp [hx]
theorem partCon_snoc (t:Tbl) (st:Stp) (l:List Con) (k:Nat) (h:k<l.length):partCon t st (l.take (k+1))=partCon t st (l.take k)++(if sEq l[k].table t.name then [{l[k] with table:=st.other}] else []):=by
 rw [List.take_succ_eq_append_getElem h]
 unfold partCon
 rw [List.filter_append,List.map_append]
 congr 1
 cases hx:sEq l[k].table t.name<;>simp [hx]
theorem partFK_len (t:Tbl) (st:Stp) (l:List FK):(partFK t st l).length≤l.length:=by
 unfold partFK
 rw [List.length_map]
 exact List.length_filter_le _ _
theorem partCon_len (t:Tbl) (st:Stp) (l:List Con):(partCon t st l).length≤l.length:=by
 unfold partCon
 rw [List.length_map]
 exact List.length_filter_le _ _
end Go.Bw
