/-
  WHAT IS PROVED HERE, of this translation: validate1_sat, containsCon_sat, containsCon_take, schValidate_sat, cloneTable_own, concatColumns_satM, splitTable_err.
  A theorem that ends in sat says what the function it names returns, whatever the state it is called in; the bounds on its arguments stand ahead of it.
-/
import Derived.Test.YtjjnchbfjbjemaaGreatVn
set_option linter.unusedSimpArgs false
set_option linter.unusedVariables false
namespace Go.Bw
open Go.Proofs
attribute [local go_sem ↓] VOps_nil VOps_cons VOp_callJ VVal_callH VOps_guard GOn_tt GOn_ff GOn_tf GOn_ft GOn_not GOn_none HOn_none HOn_tt HOn_ff HOn_tf HOn_ft HOn_not VHead_nil VHead_cons VHead_guard VVal_move VVal_assign VVal_pickE pickK_true pickK_false VVal_not VVal_neg negK_int VVal_load loadK_fz loadK_ptr loadK_eptr VVal_fieldAddr VVal_field VVal_indexAddr idxK_sl idxK_ref VVal_index indexK_str VVal_extract VVal_binOp binK_one binK_agg VVal_build VVal_buildSlice VVal_makeFunc VVal_slice sliceK_str sliceK_sl sliceK_nil sliceK_ref VVal_slice3 VVal_nilCheck VVal_convert convKk_int convKk_str VVal_len VVal_max VVal_min VOp_assign assignK_int assignK_bool assignK_str assignK_clo assignK_sl assignK_nil assignK_ref assignK_agg assignK_fz assignK_ptr assignK_eptr assignK_any VOp_box VOp_alloc VOp_store storeK_ptr storeK_eptr VOp_buildSlice VOp_append appK_rr appK_rs appK_rn appK_ri appK_nr appK_ns appK_nn appK_ni appStd_eq VOp_copy copyK_ref VOp_clear clearK_ref VOp_cap VOp_eqNil VOp_move VOp_pick VOp_not VOp_neg VOp_load VOp_fieldAddr VOp_field VOp_indexAddr VOp_index VOp_extract VOp_binTmp VOp_binInt VOp_binStr VOp_binPtr VOp_build VOp_makeFunc VOp_slice VOp_nilCheck VOp_convert VOp_len VOp_max VOp_min mO_some mT_some pk_some pk_none look_cons del_cons
attribute [local go_sem] guardB gOf int_bne beq_true beq_false Bool.not_not gSlot pickK_true pickK_false negK_int loadK_fz loadK_ptr loadK_eptr idxK_sl idxK_ref indexK_str binK_one binK_agg sliceK_str sliceK_sl sliceK_nil sliceK_ref convKk_int convKk_str maxL minL assignK_int assignK_bool assignK_str assignK_clo assignK_sl assignK_nil assignK_ref assignK_agg assignK_fz assignK_ptr assignK_eptr assignK_any nilRow_eq takeRow_eq appended_eq storeK_ptr storeK_eptr store_mk appIn_eq appMk_eq marked_eq ovOut_nil ovOut_cons ovIn_nil ovIn_cons padRow_eq ysC capK_nil capK_ref ioSt_mk outB_nil outR_nil outB outR inB_nil inB_cons inR_nil inR_cons L.kl L.kl0 L.ids L.ids0 Option.getD_some evalO constA mO_some mT_some put_mk putO_some putO_none okD_some okD_none pk_some pk_none look_nil del_nil sput noBox_mk noRow_mk newBox_eq newRow0_eq St.killRow RowC.kill rowMap_mk rowOf ovAll ovAdd ovDel ovGet ovShift dstOf ysOf overlay_nil overlay_nil' overlay A.map V.map L.noPtr L.noPtr0 L.noRow L.noRow0 L.peek L.norm L.flat clos_int clos_bool clos_str clos_sl clos_nil clos_any clos_fz L.clos L.isFz L.kd moveL fieldOff eqCells eqCell eqOp oneOf boolOf intOfA tupOf vOf aggOf isPtrLike isSlice lenKind lenL nL elemTI loadV asV binL intBin intDivL shrL boolBin strBin strAdd ptrNil boundN partCells fillL placesOf setL chunks repL capsOf capL callOf argsOf frzV_int frzV_bool frzV_str frzV_sl frzV_nil frzV_fz frzV_any frzV_own frzV_clo frzV_ref frzV_eptr frzV_ptr frzRow_nil frzRow_ov frzRs_nil frzRs_cons frzCs_nil frzCs_cons frzO_some frzO_none frzN_int frzN_bool frzN_str frzN_sl frzN_nil frzN_any frzN_own List.map_cons List.map_nil List.cons_append List.nil_append List.append_nil List.length_cons List.length_nil List.length_map List.length_append List.headD_cons List.tail_cons List.getElem?_cons_zero List.getElem?_cons_succ List.drop_zero List.drop_succ_cons List.drop_nil List.take_succ_cons List.take_zero List.take_nil List.take_length List.filter_cons List.filter_nil List.elem_cons List.elem_nil List.all_cons List.all_nil Option.bind_some Option.map_some Option.some.injEq bne_self_eq_false beq_self_eq_true if_true if_false Bool.false_eq_true true_and and_true and_self Nat.zero_add Nat.add_zero Nat.zero_le Int.toNat_natCast Int.toNat_zero Option.isSome_some List.getElem?_toArray decide_true decide_false ge_iff_le gt_iff_lt Bool.not_true Bool.not_false Nat.le_refl Bool.and_true Bool.true_and Bool.and_false Bool.false_and eVal eRow eRow1 eRows eInt1 eInts eCol eCols eTbl eTbls eFK eFKs eCon eCons eSch eRel eInst eChg eChgs szOf getD_map_lt wrap_nat wrap_in List.take_of_length_le frz_eVal frz_eRow1 frz_eInt1 frz_eCol frz_eTbl frz_eFK frz_eCon frz_eRel frz_eChg noOwn_nil noOwn_cons noOwn_append L.isOwn noOwn_eVal noOwn_eRow1 noOwn_eInt1 noOwn_eCol noOwn_eTbl noOwn_eFK noOwn_eCon noOwn_eRel noOwn_eChg convK_2 convK_3 convK_5 convK_12 convK_21 convK_32 convK_95 convK_119 convK_122 convK_152 convK_169 TT_2 TT_3 TT_4 TT_5 TT_9 TT_12 TT_13 TT_21 TT_22 TT_23 TT_24 TT_25 TT_26 TT_27 TT_28 TT_29 TT_31 TT_32 TT_36 TT_37 TT_42 TT_43 TT_44 TT_48 TT_49 TT_56 TT_61 TT_72 TT_73 TT_74 TT_85 TT_86 TT_89 TT_90 TT_91 TT_92 TT_95 TT_98 TT_113 TT_114 TT_116 TT_117 TT_119 TT_122 TT_145 TT_152 TT_169 boolTy_4 eqK_37 eqK_90 eqK_92 eqK_114
attribute [local congr] VOps.congr VHead.congr VOp.congr VVal.congr pk.congr assignK.congr appK.congr appStd.congr copyK.congr clearK.congr storeK.congr loadK.congr idxK.congr sliceK.congr indexK.congr binK.congr convKk.congr
theorem validate1_sat (a b:FK) (hl:a.cols.length≤140737488355328):Sat Tryz.prog 49 [.agg (eFK a),.one (.fz (eFK b))] (.v (oB (fkEq a b))):=by
 refine sS tyOk Tryz.func49 fun w0 m0 F0=>?_
 simp only [Tryz.ntmps49,envOf,Nat.reduceAdd]
 repeat' (first|((first|with_reducible refine qV tyOk fun K hK=>?_|((with_reducible refine CallJ.is ?_);(refine CallJ.pure (equalFKs_sat _ _ hl) ?_)))<;>simp -dsimp (disch:=first|exact D|fail) only [go_sem,↓reduceIte,seval])|((with_reducible refine hK _ ?_);clear hK K)|refine Q1 ?_|fail)
 simp -dsimp (disch:=first|exact D|fail) only [retQ,Tryz.results49,resVals,cellRV,resOf,St.rest,St.freeze,RT,go_sem,↓reduceIte,seval]
theorem containsCon_sat (l:List Con) (c:Con) (hlen:l.length≤140737488355328) :
  Sat Tryz.prog 51 [.one (eCons l),.agg (eCon c)] (.v (oB (decide (0≤idx (conEq c) l 0)))):=by
 refine sS tyOk Tryz.func51 fun w0 m0 F0=>?_
 simp only [Tryz.ntmps51,envOf,Nat.reduceAdd]
 repeat' (first|((first|with_reducible refine qV tyOk fun K hK=>?_|((with_reducible refine CallJ.is ?_);(refine CallJ.pure (indexCon_sat l _ hlen) ?_)))<;>simp -dsimp (disch:=first|exact D|fail) only [go_sem,↓reduceIte,seval])|((with_reducible refine hK _ ?_);clear hK K)|refine Q1 ?_|fail)
 simp -dsimp (disch:=first|exact D|fail) only [retQ,Tryz.results51,resVals,cellRV,resOf,St.rest,St.freeze,RT,go_sem,↓reduceIte,seval]
theorem containsCon_take (l:List Con) (k:Nat) (c:Con) (hlen:l.length≤140737488355328) :
  Sat Tryz.prog 51 [.one (.sl 7 ((l.map eCon).take k)),.agg (eCon c)] (.v (oB (decide (0≤idx (conEq c) (l.take k) 0)))):=by
 have h:=containsCon_sat (l.take k) c (by rw [List.length_take];omega)
 rw [eCons,List.map_take] at h
 exact h
set_option maxHeartbeats 16000000 in
theorem schValidate_sat (s : Sch) (hf : s.Fits) : Sat Tryz.prog 33 [.agg (eSch s)] (.v (oI (schE s))) := by
  by_cases h0 : 6 < s.tables.length ∨ 8 < s.fks.length ∨ 8 < s.cons.length
  · refine sS tyOk Tryz.func33 fun w0 m0 F0 => ?_
    simp only [Tryz.ntmps33, envOf, Nat.reduceAdd]
    repeat' (first | ((first | with_reducible refine qV tyOk fun K hK => ?_ | refine Q2 ?_ | ((with_reducible first | refine qS ?_ ?_ | refine qT ?_ ?_ | refine qU ?_ ?_) <;> (intro h; try simp only [NM] at h)) | with_reducible refine yD tyOk mixed 6 (by kernel_rfl) fun K hK => ?_) <;> simp -dsimp (disch := first | exact D | fail) only [go_sem, ↓reduceIte, seval]) | ((with_reducible refine hK _ ?_); clear hK K) | refine Q1 ?_ | ((with_reducible refine qW (T := TT) (b := ?_) ?_ ?_); rotate_left; exact rfl) | ((with_reducible refine yS ?_ ?_) <;> (intro h; try simp only [NM] at h)))
    all_goals first
      | (exfalso; omega)
      | (
         simp -dsimp (disch := first | exact D | fail) only [retQ, Tryz.results33, resVals, cellRV, resOf, St.rest, St.freeze, RT, go_sem, ↓reduceIte, seval]
         rw [schE, if_pos h0])
  have spec : schE s = match scan (tblsE s.tables) s.tables 0 with
    | some e => e
    | none => match scan (fksE s) s.fks 0 with
      | some e => e
      | none => match scan (consE s) s.cons 0 with
        | some e => e
        | none => 0 := by rw [schE, if_neg h0] <;> rfl
  rw [spec]
  refine sS tyOk Tryz.func33 fun w0 m0 F0 => ?_
  simp only [Tryz.ntmps33, envOf, Nat.reduceAdd]
  repeat' (first | ((first | with_reducible refine qV tyOk fun K hK => ?_ | refine Q2 ?_ | ((with_reducible first | refine qS ?_ ?_ | refine qT ?_ ?_ | refine qU ?_ ?_) <;> (intro h; try simp only [NM] at h)) | with_reducible refine yD tyOk mixed 6 (by kernel_rfl) fun K hK => ?_) <;> simp -dsimp (disch := first | exact D | fail) only [go_sem, ↓reduceIte, seval]) | ((with_reducible refine hK _ ?_); clear hK K) | refine Q1 ?_ | ((with_reducible refine qW (T := TT) (b := ?_) ?_ ?_); rotate_left; exact rfl) | ((with_reducible refine yS ?_ ?_) <;> (intro h; try simp only [NM] at h)))
  refine AWP.loop (ι := {k : Nat // k ≤ s.tables.length ∧ scan (tblsE s.tables) (s.tables.drop k) k = scan (tblsE s.tables) s.tables 0}) (fun k => ⟨98, [(1, .v (.one (.ptr 1 0))), (29, .v (.one (.sl 3 (s.tables.map eTbl)))), (30, .v (oI s.tables.length)), (31, .v (oI k.1))], [(1, eSch s)], []⟩) (fun k => s.tables.length - k.1) ⟨0, Nat.zero_le _, rfl⟩ ?_ fun ⟨k, hkl, hi⟩ => ?_
  · refine St.le_mk ?_ ?_ ?_ <;> simp only [LE, EN, Nat.reduceEqDiff, reduceIte, Nat.reduceSub, eSch]
  rcases Nat.lt_or_ge k s.tables.length with hc | hc
  · obtain ⟨b1, b2⟩ := hf.table s.tables[k] (List.getElem_mem hc)
    repeat' (first | ((first | with_reducible refine qV tyOk fun K hK => ?_ | refine Q2 ?_ | ((with_reducible first | refine qS ?_ ?_ | refine qT ?_ ?_ | refine qU ?_ ?_) <;> (intro h; try simp only [NM] at h)) | with_reducible refine yD tyOk mixed 6 (by kernel_rfl) fun K hK => ?_ | ((with_reducible refine CallJ.is ?_); (first | refine CallJ.pure (validateTable_sat _ b1 b2) ?_ | ((apply CallJ.lentI); (focus (simp -dsimp (disch := first | exact D | fail) only [go_sem, ↓reduceIte, seval]; rfl)); (focus (first | exact (validateTable_sat _ b1 b2)))))) | ((with_reducible refine CallH.is ?_); (first | refine CallH.intro (validateTable_sat _ b1 b2) ?_))) <;> simp -dsimp (disch := first | exact D | fail) only [go_sem, ↓reduceIte, seval]) | ((with_reducible refine hK _ ?_); clear hK K) | refine Q1 ?_ | ((with_reducible refine qW (T := TT) (b := ?_) ?_ ?_); rotate_left; exact rfl) | ((with_reducible refine yS ?_ ?_) <;> (intro h; try simp only [NM] at h)))
    all_goals
      first
        | (have hs : (tblsE s.tables) k s.tables[k] = none := by
             (simp (disch := omega) only [tblsE, getD_lt]; (repeat' split) <;> first | rfl | with_reducible assumption | omega | (exfalso; omega) | (simp_all; done) | (simp_all; omega))
           refine ⟨⟨k + 1, by omega, by rw [scan_step (by omega) hs, hi]⟩, by simp only; omega, ?_⟩
           refine St.le_mk ?_ ?_ ?_ <;> simp only [LE, EN, Nat.reduceEqDiff, reduceIte, Nat.reduceSub, eSch]
           done)
        | (simp -dsimp (disch := first | exact D | fail) only [retQ, Tryz.results33, resVals, cellRV, resOf, St.rest, St.freeze, RT, go_sem, ↓reduceIte, seval]
           rw [scan_leaf (by omega) ?_ hi]
           all_goals first | with_reducible rfl | ((simp (disch := omega) only [tblsE, getD_lt]; (repeat' split) <;> first | rfl | with_reducible assumption | omega | (exfalso; omega) | (simp_all; done) | (simp_all; omega)); done) | rfl
           done)
  · rw [scan_end (by omega)] at hi
    have hi0 := hi.symm
    have hok : ∀ t ∈ s.tables, OkTbl t := by
      intro t ht
      obtain ⟨j, hj, rfl⟩ := List.mem_iff_getElem.1 ht
      have h5 := scan_none hi.symm j hj
      rw [Nat.zero_add, tblsE] at h5
      split at h5
      · cases h5
      · rename_i h6
        exact okTbl_of (by simpa using h6)
    clear hi
    repeat' (first | ((first | with_reducible refine qV tyOk fun K hK => ?_ | refine Q2 ?_ | ((with_reducible first | refine qS ?_ ?_ | refine qT ?_ ?_ | refine qU ?_ ?_) <;> (intro h; try simp only [NM] at h)) | with_reducible refine yD tyOk mixed 6 (by kernel_rfl) fun K hK => ?_) <;> simp -dsimp (disch := first | exact D | fail) only [go_sem, ↓reduceIte, seval]) | ((with_reducible refine hK _ ?_); clear hK K) | refine Q1 ?_ | ((with_reducible refine qW (T := TT) (b := ?_) ?_ ?_); rotate_left; exact rfl) | ((with_reducible refine yS ?_ ?_) <;> (intro h; try simp only [NM] at h)))
    rw [hi0]
    simp only
    clear hi0
    refine AWP.loop (ι := {k : Nat // k ≤ s.fks.length ∧ scan (fksE s) (s.fks.drop k) k = scan (fksE s) s.fks 0}) (fun k => ⟨98, [(1, .v (.one (.ptr 1 0))), (57, .v (.one (.sl 3 (s.fks.map eFK)))), (58, .v (oI s.fks.length)), (59, .v (oI k.1))], [(1, eSch s)], []⟩) (fun k => s.fks.length - k.1) ⟨0, Nat.zero_le _, rfl⟩ ?_ fun ⟨k, hkl, hi⟩ => ?_
    · refine St.le_mk ?_ ?_ ?_ <;> simp only [LE, EN, Nat.reduceEqDiff, reduceIte, Nat.reduceSub, eSch]
    rcases Nat.lt_or_ge k s.fks.length with hc | hc
    · have b1 := hf.fk s.fks[k] (List.getElem_mem hc)
      have b2 := hf.fks
      have b3 := hf.tables
      repeat' (first | ((first | with_reducible refine qV tyOk fun K hK => ?_ | refine Q2 ?_ | ((with_reducible first | refine qS ?_ ?_ | refine qT ?_ ?_ | refine qU ?_ ?_) <;> (intro h; try simp only [NM] at h)) | with_reducible refine yD tyOk mixed 6 (by kernel_rfl) fun K hK => ?_ | ((with_reducible refine CallJ.is ?_); (first | refine CallJ.pure (validateFK_sat s _ b3 b1 hok) ?_ | refine CallJ.pure (containsFK_sat (s.fks.take k) _ [.fz (eFK s.fks[k])] (fun o => fkEq o s.fks[k]) (by rw [List.length_take]; omega) fun t ht => validate1_sat t s.fks[k] (hf.fk t (List.mem_of_mem_take ht))) ?_ | ((first | refine CallJ.lent (validateFK_sat s _ b3 b1 hok) ?_ ?_; focus (simp -dsimp (disch := first | exact D | fail) only [go_sem, ↓reduceIte, seval, List.map_take]; done) | refine CallJ.lent (containsFK_sat (s.fks.take k) _ [.fz (eFK s.fks[k])] (fun o => fkEq o s.fks[k]) (by rw [List.length_take]; omega) fun t ht => validate1_sat t s.fks[k] (hf.fk t (List.mem_of_mem_take ht))) ?_ ?_; focus (simp -dsimp (disch := first | exact D | fail) only [go_sem, ↓reduceIte, seval, List.map_take]; done))))) | ((with_reducible refine CallH.is ?_); (first | refine CallH.intro (validateFK_sat s _ b3 b1 hok) ?_ | refine CallH.intro (containsFK_sat (s.fks.take k) _ [.fz (eFK s.fks[k])] (fun o => fkEq o s.fks[k]) (by rw [List.length_take]; omega) fun t ht => validate1_sat t s.fks[k] (hf.fk t (List.mem_of_mem_take ht))) ?_))) <;> simp -dsimp (disch := first | exact D | fail) only [go_sem, ↓reduceIte, seval, List.map_take]) | ((with_reducible refine hK _ ?_); clear hK K) | refine Q1 ?_ | ((with_reducible refine qW (T := TT) (b := ?_) ?_ ?_); rotate_left; exact rfl) | ((with_reducible refine yS ?_ ?_) <;> (intro h; try simp only [NM] at h)))
      all_goals
        first
          | (have hs : (fksE s) k s.fks[k] = none := by
               (simp (disch := omega) only [fksE, getD_lt]; (repeat' split) <;> first | rfl | with_reducible assumption | omega | (exfalso; omega) | (simp_all; done) | (simp_all; omega))
             refine ⟨⟨k + 1, by omega, by rw [scan_step (by omega) hs, hi]⟩, by simp only; omega, ?_⟩
             refine St.le_mk ?_ ?_ ?_ <;> simp only [LE, EN, Nat.reduceEqDiff, reduceIte, Nat.reduceSub, eSch]
             done)
          | (simp -dsimp (disch := first | exact D | fail) only [retQ, Tryz.results33, resVals, cellRV, resOf, St.rest, St.freeze, RT, go_sem, ↓reduceIte, seval]
             rw [scan_leaf (by omega) ?_ hi]
             all_goals first | with_reducible rfl | ((simp (disch := omega) only [fksE, getD_lt]; (repeat' split) <;> first | rfl | with_reducible assumption | omega | (exfalso; omega) | (simp_all; done) | (simp_all; omega)); done) | rfl
             done)
    rw [scan_end (by omega)] at hi
    have hi0 := hi.symm
    clear hi
    repeat' (first | ((first | with_reducible refine qV tyOk fun K hK => ?_ | refine Q2 ?_ | ((with_reducible first | refine qS ?_ ?_ | refine qT ?_ ?_ | refine qU ?_ ?_) <;> (intro h; try simp only [NM] at h)) | with_reducible refine yD tyOk mixed 6 (by kernel_rfl) fun K hK => ?_) <;> simp -dsimp (disch := first | exact D | fail) only [go_sem, ↓reduceIte, seval]) | ((with_reducible refine hK _ ?_); clear hK K) | refine Q1 ?_ | ((with_reducible refine qW (T := TT) (b := ?_) ?_ ?_); rotate_left; exact rfl) | ((with_reducible refine yS ?_ ?_) <;> (intro h; try simp only [NM] at h)))
    rw [hi0]
    simp only
    clear hi0
    refine AWP.loop (ι := {k : Nat // k ≤ s.cons.length ∧ scan (consE s) (s.cons.drop k) k = scan (consE s) s.cons 0}) (fun k => ⟨98, [(1, .v (.one (.ptr 1 0))), (78, .v (.one (.sl 7 (s.cons.map eCon)))), (79, .v (oI s.cons.length)), (80, .v (oI k.1))], [(1, eSch s)], []⟩) (fun k => s.cons.length - k.1) ⟨0, Nat.zero_le _, rfl⟩ ?_ fun ⟨k, hkl, hi⟩ => ?_
    · refine St.le_mk ?_ ?_ ?_ <;> simp only [LE, EN, Nat.reduceEqDiff, reduceIte, Nat.reduceSub, eSch]
    rcases Nat.lt_or_ge k s.cons.length with hc | hc
    · have b2 := hf.cons
      have b3 := hf.tables
      have b4 : ∀ t ∈ s.tables, t.cols.length ≤ 140737488355328 := fun t ht => (hf.table t ht).1
      repeat' (first | ((first | with_reducible refine qV tyOk fun K hK => ?_ | refine Q2 ?_ | ((with_reducible first | refine qS ?_ ?_ | refine qT ?_ ?_ | refine qU ?_ ?_) <;> (intro h; try simp only [NM] at h)) | with_reducible refine yD tyOk mixed 6 (by kernel_rfl) fun K hK => ?_ | ((with_reducible refine CallJ.is ?_); (first | refine CallJ.pure (validateCon_sat s _ b3 b4) ?_ | refine CallJ.pure (containsCon_take s.cons k s.cons[k] b2) ?_ | ((first | refine CallJ.lent (validateCon_sat s _ b3 b4) ?_ ?_; focus (simp -dsimp (disch := first | exact D | fail) only [go_sem, ↓reduceIte, seval, List.map_take]; done) | refine CallJ.lent (containsCon_take s.cons k s.cons[k] b2) ?_ ?_; focus (simp -dsimp (disch := first | exact D | fail) only [go_sem, ↓reduceIte, seval, List.map_take]; done))))) | ((with_reducible refine CallH.is ?_); (first | refine CallH.intro (validateCon_sat s _ b3 b4) ?_ | refine CallH.intro (containsCon_take s.cons k s.cons[k] b2) ?_))) <;> simp -dsimp (disch := first | exact D | fail) only [go_sem, ↓reduceIte, seval, List.map_take]) | ((with_reducible refine hK _ ?_); clear hK K) | refine Q1 ?_ | ((with_reducible refine qW (T := TT) (b := ?_) ?_ ?_); rotate_left; exact rfl) | ((with_reducible refine yS ?_ ?_) <;> (intro h; try simp only [NM] at h)))
      all_goals
        first
          | (have hs : (consE s) k s.cons[k] = none := by
               (simp (disch := omega) only [consE, getD_lt]; (repeat' split) <;> first | rfl | with_reducible assumption | omega | (exfalso; omega) | (simp_all; done) | (simp_all; omega))
             refine ⟨⟨k + 1, by omega, by rw [scan_step (by omega) hs, hi]⟩, by simp only; omega, ?_⟩
             refine St.le_mk ?_ ?_ ?_ <;> simp only [LE, EN, Nat.reduceEqDiff, reduceIte, Nat.reduceSub, eSch]
             done)
          | (simp -dsimp (disch := first | exact D | fail) only [retQ, Tryz.results33, resVals, cellRV, resOf, St.rest, St.freeze, RT, go_sem, ↓reduceIte, seval]
             rw [scan_leaf (by omega) ?_ hi]
             all_goals first | with_reducible rfl | ((simp (disch := omega) only [consE, getD_lt]; (repeat' split) <;> first | rfl | with_reducible assumption | omega | (exfalso; omega) | (simp_all; done) | (simp_all; omega)); done) | rfl
             done)
    rw [scan_end (by omega)] at hi
    have hi0 := hi.symm
    clear hi
    repeat' (first | ((first | with_reducible refine qV tyOk fun K hK => ?_ | refine Q2 ?_ | ((with_reducible first | refine qS ?_ ?_ | refine qT ?_ ?_ | refine qU ?_ ?_) <;> (intro h; try simp only [NM] at h)) | with_reducible refine yD tyOk mixed 6 (by kernel_rfl) fun K hK => ?_) <;> simp -dsimp (disch := first | exact D | fail) only [go_sem, ↓reduceIte, seval]) | ((with_reducible refine hK _ ?_); clear hK K) | refine Q1 ?_ | ((with_reducible refine qW (T := TT) (b := ?_) ?_ ?_); rotate_left; exact rfl) | ((with_reducible refine yS ?_ ?_) <;> (intro h; try simp only [NM] at h)))
    rw [hi0]
    simp -dsimp (disch := first | exact D | fail) only [retQ, Tryz.results33, resVals, cellRV, resOf, St.rest, St.freeze, RT, go_sem, ↓reduceIte, seval]

set_option maxHeartbeats 8000000 in
theorem cloneTable_own (t:Tbl) (h1:t.cols.length≤1099511627776) (h2:t.pk.length≤1099511627776):SatM Tryz.prog 53 [.agg (eTbl t)] [] [] (.v (.agg [.str t.name,.ref 7 0 t.cols.length,.ref 10 0 t.pk.length])) [] [(7,⟨3,t.cols.map eCol,[]⟩),(10,⟨1,t.pk.map eInt1,[]⟩)]:=by
 refine sM tyOk [] [7,10] Tryz.func53 fun w0 m0 F0=>?_
 simp only [Tryz.ntmps53,envOf,Nat.reduceAdd]
 repeat' (first|((with_reducible refine qV tyOk fun K hK=>?_)<;>simp -dsimp (disch:=first|exact D|fail) only [go_sem,↓reduceIte,seval])|((with_reducible refine hK _ ?_);clear hK K)|refine Q1 ?_|fail)
 refine dX tyOk mixed [(0,4),(5,2)] [(4,[],[(0,2),(5,2)]),(7,[(8,1)],[(0,2)]),(9,[],[])] [4,7,9] 8 fun K hK=>?_
 simp only [SG,segs] at hK ⊢
 simp -dsimp (disch:=first|exact D|fail) only [go_sem,↓reduceIte,seval,Option.getD_none]
 repeat' (first|((first|((with_reducible refine CallJ.is ?_);refine CallJ.io [] [] [] [(2,7)] [] [7] [] [7] (cloneCols_own t.cols h1) rfl ⟨rfl,rfl,rfl,rfl⟩ ?_ ?_ ?_)|((with_reducible refine CallJ.is ?_);refine CallJ.io [] [] [] [(2,10)] [] [10] [] [10] (cloneInts_own t.pk h2) rfl ⟨rfl,rfl,rfl,rfl⟩ ?_ ?_ ?_)|(with_reducible first|refine VCy.some fun K hK=>?_|refine VCy.step fun K hK=>?_))<;>simp -dsimp (disch:=first|exact D|fail) only [go_sem,↓reduceIte,seval,dropL_nil,dropL_nil',dropL_cons])|((with_reducible refine hK _ ?_);clear hK K)|(with_reducible refine VCy.intro fun K0 hK0=>?_)|((with_reducible refine VCy.fin ?_);(refine hK0 _ ?_);clear hK0 K0)|(with_reducible first|refine VCy.quiet ?_|refine VCy.none ?_)|((with_reducible refine VCy.keep ?_ ?_);focus ((simp -dsimp (disch:=first|exact D|fail) only [go_sem,↓reduceIte,seval,Stable_cons,Stable_nil,sameA_some,sameA_none,dropL_nil,dropL_nil',dropL_cons]);first|done|exact E|fail))|refine Q1 ?_|fail)
 simp -dsimp (disch:=first|exact D|fail) only [retQ,Tryz.results53,resVals,cellRV,resOf,St.rest,St.freeze,RT,go_sem,↓reduceIte,seval]
set_option maxHeartbeats 32000000 in
theorem concatColumns_satM (s:Sch) (i:Nat) (st:Stp) (hi:i<s.tables.length) (sm:SmallS s) (hst:st.cols.length≤140737488355328) :
  SatM Tryz.prog 104 [.one (.ptr 1000 0),oI i,.agg (eStp st)] (iB s) (iR s) (.v (oI (rE (concatC s i st)))) (oBE (concatC s i st)) (oRE (concatC s i st)):=by
 rw [concatL_eq]
 have b1:=sm.tables
 have b2:=sm.table s.tables[i] (List.getElem_mem hi)
 have b3:=sm.fks
 have b4:=sm.cons
 have b5:∀f∈s.fks,f.cols.length≤140737488355328:=fun f hf=>by have:=(sm.fk f hf).1;omega
 obtain ⟨t,ht⟩:∃t,s.tables[i]=t:=⟨_,rfl⟩
 have htA:tAt s i=t:=by unfold tAt;rw [getD_lt _ hi,ht]
 rw [ht] at b2
 obtain ⟨b6,b7,_⟩:=b2
 have e0:s.tables.map eTblO=rowT s.tables i t:=by unfold rowT;rw [←ht,List.set_getElem_self]
 have rl:=rowT_len s.tables i t
 have rg:=fun t=>rowT_get (l:=s.tables) (k:=i) t hi
 by_cases hl:st.cols.length=2
 case neg =>
  have spec:concatL s i st=.error 3:=by unfold concatL;simp only [ne_eq,hl,not_false_eq_true,if_true]
  have hl':¬ (st.cols.length:Int)=2:=by omega
  rw [spec]
  unfold iB iR oBE oRE rE
  simp only
  rw [e0]
  refine sM tyOk [1000] [1,2,3] Tryz.func104 fun w0 m0 F0=>?_
  simp only [Tryz.ntmps104,envOf,Nat.reduceAdd]
  repeat' (first|((first|with_reducible refine qV tyOk fun K hK=>?_|refine Q2 ?_|with_reducible refine yD tyOk mixed 6 (by kernel_rfl) fun K hK=>?_)<;>simp -dsimp (disch:=first|exact D|fail) only [go_sem,↓reduceIte,seval,rl,rg,eTblO,eStp,Option.getD_none,hl'])|((with_reducible refine hK _ ?_);clear hK K)|refine Q1 ?_|((with_reducible refine qW (T:=TT) (b:=?_) ?_ ?_);rotate_left;exact rfl)|fail)
  simp -dsimp (disch:=first|exact D|fail) only [retQ,Tryz.results104,resVals,cellRV,resOf,St.rest,St.freeze,RT,go_sem,↓reduceIte,seval]
 have hl':(st.cols.length:Int)=2:=by omega
 have q0:st.cols[0]'(by omega)=st.cols.getD 0 0:=(getD_lt _ (by omega)).symm
 have q1:st.cols[1]'(by omega)=st.cols.getD 1 0:=(getD_lt _ (by omega)).symm
 obtain ⟨a,ha⟩:∃a,st.cols.getD 0 0=a:=⟨_,rfl⟩
 obtain ⟨b,hb⟩:∃b,st.cols.getD 1 0=b:=⟨_,rfl⟩
 rw [ha] at q0
 rw [hb] at q1
 have ga:(st.cols.map eInt1).getD 0 []=[.int .i64 a]:=by rw [getD_map_lt _ _ _ (by omega),q0];rfl
 have gb:(st.cols.map eInt1).getD 1 []=[.int .i64 b]:=by rw [getD_map_lt _ _ _ (by omega),q1];rfl
 by_cases hab:a<0∨b≤a∨(t.cols.length:Int)≤b
 ·have spec:concatL s i st=.error 3:=by unfold concatL;simp only [ne_eq,hl,not_true_eq_false,if_false,ha,hb,htA,if_pos hab]
  rw [spec]
  unfold iB iR oBE oRE rE
  simp only
  rw [e0]
  refine sM tyOk [1000] [1,2,3] Tryz.func104 fun w0 m0 F0=>?_
  simp only [Tryz.ntmps104,envOf,Nat.reduceAdd]
  refine AWP.openC 1000 i 1 2000 rfl (rowT_cell1 _ hi) rfl (by decide) (by decide) ?_
  simp -dsimp (disch:=first|exact D|fail) only [go_sem,↓reduceIte,seval,openR_mk]
  refine AWP.openC 1000 i 2 2001 rfl (rowT_cell2 _ hi) (by simp [ovGet]) (by decide) (by decide) ?_
  simp -dsimp (disch:=first|exact D|fail) only [go_sem,↓reduceIte,seval,openR_mk]
  repeat' (first|((first|with_reducible refine qV tyOk fun K hK=>?_|refine Q2 ?_|((with_reducible refine qT ?_ ?_)<;>(intro h;try simp only [NM] at h))|with_reducible refine yD tyOk mixed 6 (by kernel_rfl) fun K hK=>?_)<;>simp -dsimp (disch:=first|exact D|fail) only [go_sem,↓reduceIte,seval,rl,rg,eTblO,eStp,Option.getD_none,hl',ga,gb])|((with_reducible refine hK _ ?_);clear hK K)|refine Q1 ?_|((with_reducible refine qW (T:=TT) (b:=?_) ?_ ?_);rotate_left;exact rfl)|fail)
  all_goals first|(exfalso;omega)|skip
  all_goals simp -dsimp (disch:=first|exact D|fail) only [retQ,Tryz.results104,resVals,cellRV,resOf,St.rest,St.freeze,RT,go_sem,↓reduceIte,seval]
 have hcr:∀c∈st.cols,0≤c∧c<t.cols.length:=by
  intro c hc
  obtain ⟨j,hj,rfl⟩:=List.mem_iff_getElem.1 hc
  rcases (show j=0∨j=1 by omega) with rfl|rfl
  ·rw [q0];omega
  ·rw [q1];omega
 unfold iB iR
 rw [e0]
 refine sM tyOk [1000] [1,2,3] Tryz.func104 fun w0 m0 F0=>?_
 simp only [Tryz.ntmps104,envOf,Nat.reduceAdd]
 refine AWP.gq ?_
 refine AWP.openC 1000 i 1 2000 rfl (rowT_cell1 _ hi) rfl (by decide) (by decide) ?_
 simp -dsimp (disch:=first|exact D|fail) only [go_sem,↓reduceIte,seval,openR_mk]
 refine AWP.openC 1000 i 2 2001 rfl (rowT_cell2 _ hi) (by simp [ovGet]) (by decide) (by decide) ?_
 simp -dsimp (disch:=first|exact D|fail) only [go_sem,↓reduceIte,seval,openR_mk]
 repeat' (first|((first|with_reducible refine qV tyOk fun K hK=>?_|refine Q2 ?_|with_reducible refine yD tyOk mixed 6 (by kernel_rfl) fun K hK=>?_)<;>simp -dsimp (disch:=first|exact D|fail) only [go_sem,↓reduceIte,seval,rl,rg,eTblO,eStp,Option.getD_none,hl',ga,gb])|((with_reducible refine hK _ ?_);clear hK K)|refine Q1 ?_|((with_reducible refine qW (T:=TT) (b:=?_) ?_ ?_);rotate_left;exact rfl)|fail)
 all_goals first|(exfalso;omega)|skip
 refine AWP.loop (ι:={k:Nat // k≤st.cols.length∧∀c∈st.cols.take k,(colOf t c).kind=3}) (fun k=>⟨114,[(0,.v (.one (.ptr 1000 0))),(1,.v (oI i)),(5,.v (.one (.ptr 5 0))),(7,.v (.one (.eptr 1000 i 0))),(8,.v (.one (eInts st.cols))),(9,.v (oB ((st.cols.take k.1).all fun c=>(colOf t c).nullable))),(52,.v (.one (eInts st.cols))),(53,.v (oI st.cols.length)),(54,.v (oI k.1))],[(5,eStp st),(1000,[.ref 1000 0 s.tables.length,.ref 1001 0 s.fks.length,.ref 1002 0 s.cons.length])],[(2000,⟨3,t.cols.map eCol,[]⟩),(2001,⟨1,t.pk.map eInt1,[]⟩),(1000,⟨3,rowT s.tables i t,[(i,2,.ref 2001 0 t.pk.length),(i,1,.ref 2000 0 t.cols.length)]⟩),(1001,⟨3,s.fks.map eFKO,[]⟩),(1002,⟨7,s.cons.map eCon,[]⟩)]⟩) (fun k=>st.cols.length - k.1) ⟨0,Nat.zero_le _,by simp⟩ ?_ fun ⟨k,hkl,hk3⟩=>?_
 ·refine St.le_mk ?_ ?_ ?_<;>simp only [LE,EN,Nat.reduceEqDiff,reduceIte,Nat.reduceSub,List.take_zero,List.all_nil,eStp,hl']
 simp only at hkl hk3 ⊢
 rcases Nat.lt_or_ge k st.cols.length with hk|hk
 ·obtain ⟨c0,c1⟩:=hcr st.cols[k] (List.getElem_mem hk)
  have c2:st.cols[k].toNat<t.cols.length:=by omega
  have gcol:colOf t st.cols[k]=t.cols[st.cols[k].toNat]:=getD_lt _ c2
  have al:=all_snoc (fun c=>(colOf t c).nullable) st.cols k hk
  simp only [gcol] at al
  by_cases hK3:t.cols[st.cols[k].toNat].kind=3
  ·have k3':=take_ext hk hk3 (by rw [gcol];exact hK3)
   cases hA:(st.cols.take k).all fun c=>(colOf t c).nullable with
   | true =>
    rw [hA,Bool.true_and] at al
    repeat' (first|((with_reducible refine qV tyOk fun K hK=>?_)<;>simp -dsimp (disch:=first|exact D|fail) only [go_sem,↓reduceIte,seval,rl,rg,eTblO,eStp,Option.getD_none,hK3])|((with_reducible refine hK _ ?_);clear hK K)|refine Q1 ?_|((with_reducible refine qW (T:=TT) (b:=?_) ?_ ?_);rotate_left;exact rfl)|fail)
    refine ⟨⟨k+1,by omega,k3'⟩,by simp only;omega,?_⟩
    refine St.le_mk ?_ ?_ ?_<;>simp only [LE,EN,Nat.reduceEqDiff,reduceIte,Nat.reduceSub,eStp,al]
   | false =>
    rw [hA,Bool.false_and] at al
    repeat' (first|((with_reducible refine qV tyOk fun K hK=>?_)<;>simp -dsimp (disch:=first|exact D|fail) only [go_sem,↓reduceIte,seval,rl,rg,eTblO,eStp,Option.getD_none,hK3])|((with_reducible refine hK _ ?_);clear hK K)|refine Q1 ?_|((with_reducible refine qW (T:=TT) (b:=?_) ?_ ?_);rotate_left;exact rfl)|fail)
    refine ⟨⟨k+1,by omega,k3'⟩,by simp only;omega,?_⟩
    refine St.le_mk ?_ ?_ ?_<;>simp only [LE,EN,Nat.reduceEqDiff,reduceIte,Nat.reduceSub,eStp,al]
  ·have spec:concatL s i st=.error 7:=by
    have hany:(st.cols.any fun c=>!((colOf t c).kind==3))=true:=List.any_eq_true.2 ⟨_,List.getElem_mem hk,by rw [gcol];simpa using hK3⟩
    unfold concatL
    simp only [ne_eq,hl,not_true_eq_false,if_false,ha,hb,htA,if_neg hab,hany,if_true]
   rw [spec]
   repeat' (first|((with_reducible refine qV tyOk fun K hK=>?_)<;>simp -dsimp (disch:=first|exact D|fail) only [go_sem,↓reduceIte,seval,rl,rg,eTblO,eStp,Option.getD_none,hK3])|((with_reducible refine hK _ ?_);clear hK K)|refine Q1 ?_|((with_reducible refine qW (T:=TT) (b:=?_) ?_ ?_);rotate_left;exact rfl)|fail)
   refine Gq.done ?_
   unfold oBE oRE rE
   simp -dsimp (disch:=first|exact D|fail) only [retQ,Tryz.results104,resVals,cellRV,resOf,St.rest,St.freeze,RT,go_sem,↓reduceIte,seval]
 rw [List.take_of_length_le hk] at hk3 ⊢
 have hany:(st.cols.any fun c=>!((colOf t c).kind==3))=false:=by
  rw [List.any_eq_false]
  intro c hc
  simp [hk3 c hc]
 repeat' (first|((with_reducible refine qV tyOk fun K hK=>?_)<;>simp -dsimp (disch:=first|exact D|fail) only [go_sem,↓reduceIte,seval,rl,rg,eTblO,eStp,Option.getD_none])|((with_reducible refine hK _ ?_);clear hK K)|refine Q1 ?_|((with_reducible refine qW (T:=TT) (b:=?_) ?_ ?_);rotate_left;exact rfl)|fail)
 refine AWP.loop (ι:={k:Nat // k≤st.cols.length∧∀c∈st.cols.take k,unusedE s t c=0}) (fun k=>⟨114,[(0,.v (.one (.ptr 1000 0))),(1,.v (oI i)),(5,.v (.one (.ptr 5 0))),(7,.v (.one (.eptr 1000 i 0))),(8,.v (.one (eInts st.cols))),(9,.v (oB (st.cols.all fun c=>(colOf t c).nullable))),(79,.v (.one (eInts st.cols))),(80,.v (oI st.cols.length)),(81,.v (oI k.1))],[(5,eStp st),(1000,[.ref 1000 0 s.tables.length,.ref 1001 0 s.fks.length,.ref 1002 0 s.cons.length])],[(2000,⟨3,t.cols.map eCol,[]⟩),(2001,⟨1,t.pk.map eInt1,[]⟩),(1000,⟨3,rowT s.tables i t,[(i,2,.ref 2001 0 t.pk.length),(i,1,.ref 2000 0 t.cols.length)]⟩),(1001,⟨3,s.fks.map eFKO,[]⟩),(1002,⟨7,s.cons.map eCon,[]⟩)]⟩) (fun k=>st.cols.length - k.1) ⟨0,Nat.zero_le _,by simp⟩ ?_ fun ⟨k2,hkl2,hu2⟩=>?_
 ·refine St.le_mk ?_ ?_ ?_<;>simp only [LE,EN,Nat.reduceEqDiff,reduceIte,Nat.reduceSub,eStp]
 simp only at hkl2 hu2 ⊢
 rcases Nat.lt_or_ge k2 st.cols.length with hk2|hk2
 ·obtain ⟨u,hu⟩:∃u,unusedE s t st.cols[k2]=u:=⟨_,rfl⟩
  by_cases hu0:u=0
  ·subst hu0
   repeat' (first|((first|with_reducible refine qV tyOk fun K hK=>?_|(refine AWP.isRegion 16 ?_;refine dX tyOk mixed [(0,7)] [(7,[(8,1)],[])] [7] 8 fun K hK=>?_;simp only [SG,segs] at hK ⊢)|((with_reducible refine CallJ.is ?_);(((apply CallJ.lentI);(focus (simp -dsimp (disch:=first|exact D|fail) only [go_sem,↓reduceIte,seval,rl,rg,eTblO,eStp,Option.getD_none,frz_eFKO];rfl));(focus (first|exact ((hu▸unused_satX _ s t st.cols[k2] (by omega) (by omega) b5 (by omega))))))))|(with_reducible first|refine VCy.some fun K hK=>?_|refine VCy.step fun K hK=>?_))<;>simp -dsimp (disch:=first|exact D|fail) only [go_sem,↓reduceIte,seval,rl,rg,eTblO,eStp,Option.getD_none,frz_eFKO])|((with_reducible refine hK _ ?_);clear hK K)|(with_reducible refine VCy.intro fun K0 hK0=>?_)|((with_reducible refine VCy.fin ?_);(refine hK0 _ ?_);clear hK0 K0)|(with_reducible refine VCy.quiet ?_)|refine Q1 ?_|((with_reducible refine qW (T:=TT) (b:=?_) ?_ ?_);rotate_left;exact rfl)|fail)
   refine ⟨⟨k2+1,by omega,take_ext hk2 hu2 hu⟩,by simp only;omega,?_⟩
   refine St.le_mk ?_ ?_ ?_<;>simp only [LE,EN,Nat.reduceEqDiff,reduceIte,Nat.reduceSub,eStp]
  ·have spec:concatL s i st=.error u:=by
    have hf:=find_take (p:=fun c=>!(unusedE s t c==0)) hk2 (fun x hx=>by simp [hu2 x hx]) (by simp [hu,hu0])
    unfold concatL
    simp only [ne_eq,hl,not_true_eq_false,if_false,ha,hb,htA,if_neg hab,hany,Bool.false_eq_true,hf,hu]
   rw [spec]
   repeat' (first|((first|with_reducible refine qV tyOk fun K hK=>?_|(refine AWP.isRegion 16 ?_;refine dX tyOk mixed [(0,7)] [(7,[(8,1)],[])] [7] 8 fun K hK=>?_;simp only [SG,segs] at hK ⊢)|((with_reducible refine CallJ.is ?_);(((apply CallJ.lentI);(focus (simp -dsimp (disch:=first|exact D|fail) only [go_sem,↓reduceIte,seval,rl,rg,eTblO,eStp,Option.getD_none,frz_eFKO,hu0];rfl));(focus (first|exact ((hu▸unused_satX _ s t st.cols[k2] (by omega) (by omega) b5 (by omega))))))))|(with_reducible first|refine VCy.some fun K hK=>?_|refine VCy.step fun K hK=>?_))<;>simp -dsimp (disch:=first|exact D|fail) only [go_sem,↓reduceIte,seval,rl,rg,eTblO,eStp,Option.getD_none,frz_eFKO,hu0])|((with_reducible refine hK _ ?_);clear hK K)|(with_reducible refine VCy.intro fun K0 hK0=>?_)|((with_reducible refine VCy.fin ?_);(refine hK0 _ ?_);clear hK0 K0)|(with_reducible refine VCy.quiet ?_)|refine Q1 ?_|((with_reducible refine qW (T:=TT) (b:=?_) ?_ ?_);rotate_left;exact rfl)|fail)
   refine Gq.done ?_
   unfold oBE oRE rE
   simp -dsimp (disch:=first|exact D|fail) only [retQ,Tryz.results104,resVals,cellRV,resOf,St.rest,St.freeze,RT,go_sem,↓reduceIte,seval]
 rw [List.take_of_length_le hk2] at hu2
 have hf:st.cols.find? (fun c=>!(unusedE s t c==0))=none:=List.find?_eq_none.2 fun c hc=>by simp [hu2 c hc]
 obtain ⟨U,hU⟩:∃U,removeC s i st.cols=U:=⟨_,rfl⟩
 have uT:U.tables=s.tables.set i ⟨t.name,dropAt st.cols t.cols 0,t.pk.map (shiftI st.cols)⟩:=by
  rw [←hU]
  unfold removeC remapS setT
  rw [htA]
 have hiU:i<U.tables.length:=by rw [uT];simpa using hi
 have tU:tAt U i=⟨t.name,dropAt st.cols t.cols 0,t.pk.map (shiftI st.cols)⟩:=by
  unfold tAt
  rw [getD_lt _ hiU]
  simp only [uT,List.getElem_set_self]
 have spec:concatL s i st=.ok (setT U i {tAt U i with cols:=(tAt U i).cols++[⟨st.column,3,st.cols.all fun c=>(colOf t c).nullable⟩]}):=by
  unfold concatL
  simp only [ne_eq,hl,not_true_eq_false,if_false,ha,hb,htA,if_neg hab,hany,Bool.false_eq_true,hf,hU]
 rw [spec,tU]
 have rm:=sm.rm hi st.cols (by omega)
 rw [hU] at rm
 unfold iB iR at rm
 rw [e0] at rm
 have dl:=dropAt_len st.cols t.cols 0
 obtain ⟨t2,ht2⟩:∃t2:Tbl,(⟨t.name,dropAt st.cols t.cols 0,t.pk.map (shiftI st.cols)⟩:Tbl)=t2:=⟨_,rfl⟩
 have d2:t2.cols.length≤6:=by rw [←ht2];simp only;omega
 rw [ht2] at uT tU ⊢
 have e2:U.tables.map eTblO=rowT U.tables i t2:=by
  have:U.tables.set i t2=U.tables:=by rw [uT,List.set_set]
  unfold rowT
  rw [this]
 have rl2:=rowT_len U.tables i t2
 have rg2:=fun t=>rowT_get (l:=U.tables) (k:=i) t hiU
 have lU:U.tables.length=s.tables.length:=by rw [uT];simp
 rw [e2] at rm
 obtain ⟨N,hN⟩:∃N,(st.cols.all fun c=>(colOf t c).nullable)=N:=⟨_,rfl⟩
 rw [hN]
 unfold oBE oRE oB1 oR1 rE setT
 simp only [List.length_set]
 repeat' (first|((((fail_if_success (refine AWP.isRegion 20 ?_));(with_reducible refine qV tyOk fun K hK=>?_)))<;>simp -dsimp (disch:=first|exact D|fail) only [go_sem,↓reduceIte,seval,rl,rg,eTblO,eStp,Option.getD_none])|((with_reducible refine hK _ ?_);clear hK K)|refine Q1 ?_|((with_reducible refine qW (T:=TT) (b:=?_) ?_ ?_);rotate_left;exact rfl)|fail)
 refine AWP.close 1000 i 1 2000 rfl rfl (by decide) (by simp [ovGet]) (by rw [rl];exact hi) (by show 1<3;decide) rfl ?_
 simp -dsimp (disch:=first|exact D|fail) only [go_sem,↓reduceIte,seval,closeR_mk,ovCut_cons,ovCut_nil]
 rw [rowT_cols _ hi]
 refine AWP.close 1000 i 2 2001 rfl rfl (by decide) (by simp [ovGet]) (by rw [rowT_len];exact hi) (by show 2<3;decide) rfl ?_
 simp -dsimp (disch:=first|exact D|fail) only [go_sem,↓reduceIte,seval,closeR_mk,ovCut_cons,ovCut_nil]
 rw [rowT_pk _ hi]
 repeat' (first|((first|((fail_if_success (refine AWP.isRegion 21 ?_));(with_reducible refine qV tyOk fun K hK=>?_))|((with_reducible refine CallJ.is ?_);refine CallJ.io [(1000,1000)] [(1000,1000),(1001,1001),(1002,1002)] [(1000,1000)] [(1000,1000),(1001,1001),(1002,1002)] [] [] [1000,1000] [1000,1001,1002,1000,1001,1002] (rm) rfl ⟨rfl,rfl,rfl,rfl⟩ ?_ ?_ ?_))<;>simp -dsimp (disch:=first|exact D|fail) only [go_sem,↓reduceIte,seval,okIds_ref,Option.getD_none,eStp,dropL_nil,dropL_nil',dropL_cons])|((with_reducible refine hK _ ?_);clear hK K)|refine Q1 ?_|fail)
 refine AWP.openC 1000 i 1 2002 rfl (rowT_cell1 _ hiU) rfl (by decide) (by decide) ?_
 simp -dsimp (disch:=first|exact D|fail) only [go_sem,↓reduceIte,seval,openR_mk]
 repeat' (first|((first|with_reducible refine qV tyOk fun K hK=>?_|(refine AWP.isRegion 21 ?_;refine dX tyOk mixed [(0,9)] [(9,[],[(0,5)]),(10,[(11,2)],[(0,1)]),(13,[],[])] [9,10,13] 8 fun K hK=>?_;simp only [SG,segs] at hK ⊢)|(with_reducible first|refine VCy.some fun K hK=>?_|refine VCy.step fun K hK=>?_))<;>simp -dsimp (disch:=first|exact D|fail) only [go_sem,↓reduceIte,seval,rl2,rg2,eTblO,eStp,Option.getD_none])|((with_reducible refine hK _ ?_);clear hK K)|(with_reducible refine VCy.intro fun K0 hK0=>?_)|((with_reducible refine VCy.fin ?_);(refine hK0 _ ?_);clear hK0 K0)|(with_reducible first|refine VCy.quiet ?_|refine VCy.none ?_)|((with_reducible refine VCy.keep ?_ ?_);focus ((simp -dsimp (disch:=first|exact D|fail) only [go_sem,↓reduceIte,seval,Stable_cons,Stable_nil,sameA_some,sameA_none,rl2,rg2,eTblO,eStp,Option.getD_none]);first|done|exact E|fail))|refine Q1 ?_|fail)
 refine Gq.close 1000 i 1 111 rfl rfl (by decide) (by simp [ovGet]) (by simp [rl2];exact hiU) (by show 1<3;decide) rfl ?_
 simp -dsimp (disch:=first|exact D|fail) only [go_sem,↓reduceIte,seval,closeR_mk,ovCut_cons,ovCut_nil]
 rw [setCell_set _ _ _ _ _ (by rw [rl2];exact hiU)]
 have e1:=rowT_set U.tables i t2 ⟨t2.name,t2.cols++[⟨st.column,3,N⟩],t2.pk⟩
 simp only [eTblO,List.map_append,List.map_cons,List.map_nil,eCol] at e1
 simp only [List.set_cons_succ,List.set_cons_zero,e1]
 refine Gq.frzR 1000 rfl ?_
 simp -dsimp (disch:=first|exact D|fail) only [go_sem,↓reduceIte,seval,frzR_mk,frzTblO,frzFKO,frzXs_rowT]
 refine Gq.frzR 1001 rfl ?_
 simp -dsimp (disch:=first|exact D|fail) only [go_sem,↓reduceIte,seval,frzR_mk,frzTblO,frzFKO]
 refine Gq.renR 1000 1 rfl rfl (by decide) (.inl (Nat.le_of_ble_eq_true rfl)) ?_
 simp -dsimp (disch:=first|exact D|fail) only [go_sem,↓reduceIte,seval,renR_mk,L.ren,L.ren0]
 refine Gq.renR 1001 2 rfl rfl (by decide) (.inl (Nat.le_of_ble_eq_true rfl)) ?_
 simp -dsimp (disch:=first|exact D|fail) only [go_sem,↓reduceIte,seval,renR_mk,L.ren,L.ren0]
 refine Gq.renR 1002 3 rfl rfl (by decide) (.inl (Nat.le_of_ble_eq_true rfl)) ?_
 simp -dsimp (disch:=first|exact D|fail) only [go_sem,↓reduceIte,seval,renR_mk,L.ren,L.ren0]
 refine Gq.done ?_
 simp -dsimp (disch:=first|exact D|fail) only [retQ,Tryz.results104,resVals,cellRV,resOf,St.rest,St.freeze,RT,go_sem,↓reduceIte,seval]
set_option maxHeartbeats 32000000 in
theorem splitTable_err (s:Sch) (i:Nat) (st:Stp) (hi:i<s.tables.length) (sm:SmallS s) (hst:st.cols.length≤140737488355328) (hE:splitE s (tAt s i) st≠0) :
  SatM Tryz.prog 99 [.one (.ptr 1000 0),oI i,.agg (eStp st)] (iB s) (iR s) (.v (oI (rE (splitT s i st)))) (oBE (splitT s i st)) (oRE (splitT s i st)):=by
 have b1:=sm.tables
 have b2:=sm.table s.tables[i] (List.getElem_mem hi)
 have b3:=sm.fks
 have b4:=sm.cons
 obtain ⟨t,ht⟩:∃t,s.tables[i]=t:=⟨_,rfl⟩
 have htA:tAt s i=t:=by unfold tAt;rw [getD_lt _ hi,ht]
 rw [ht] at b2
 rw [htA] at hE
 have cs:=checkSplit_satX s t st (by omega) (by omega) (by omega) hst
 have lm:(s.tables.map eTbl).length=s.tables.length:=List.length_map ..
 have gi:(s.tables.map eTbl).getD i []=eTbl t:=by rw [getD_map_lt _ _ _ hi,ht]
 have spec:splitT s i st=.error (splitE s t st):=by unfold splitT;simp only [htA];rw [if_pos hE]
 obtain ⟨q,hq⟩:∃q,splitE s t st=q:=⟨_,rfl⟩
 rw [hq] at spec hE cs
 rw [spec]
 unfold iB iR oBE oRE rE
 simp only
 refine sM tyOk [1000] [1,2,3] Tryz.func99 fun w0 m0 F0=>?_
 simp only [Tryz.ntmps99,envOf,Nat.reduceAdd]
 refine AWP.frzR 1000 rfl ?_
 simp -dsimp (disch:=first|exact D|fail) only [go_sem,↓reduceIte,seval,frzR_mk,frzTblO,frzFKO]
 refine AWP.frzR 1001 rfl ?_
 simp -dsimp (disch:=first|exact D|fail) only [go_sem,↓reduceIte,seval,frzR_mk,frzTblO,frzFKO]
 repeat' (first|((first|with_reducible refine qV tyOk fun K hK=>?_|(refine AWP.isRegion 2 ?_;refine dX tyOk mixed [(0,5)] [(5,[(6,1)],[])] [5] 8 fun K hK=>?_;simp only [SG,segs] at hK ⊢)|((with_reducible refine CallJ.is ?_);(((apply CallJ.lentI);(focus (simp -dsimp (disch:=first|exact D|fail) only [go_sem,↓reduceIte,seval,eStp,eTbl,Option.getD_none,gi,lm,hE];rfl));(focus (first|exact (cs))))))|(with_reducible first|refine VCy.some fun K hK=>?_|refine VCy.step fun K hK=>?_))<;>simp -dsimp (disch:=first|exact D|fail) only [go_sem,↓reduceIte,seval,eStp,eTbl,Option.getD_none,gi,lm,hE])|((with_reducible refine hK _ ?_);clear hK K)|(with_reducible refine VCy.intro fun K0 hK0=>?_)|((with_reducible refine VCy.fin ?_);(refine hK0 _ ?_);clear hK0 K0)|(with_reducible refine VCy.quiet ?_)|refine Q1 ?_|((with_reducible refine qW (T:=TT) (b:=?_) ?_ ?_);rotate_left;exact rfl)|fail)
 simp -dsimp (disch:=first|exact D|fail) only [retQ,Tryz.results99,resVals,cellRV,resOf,St.rest,St.freeze,RT,go_sem,↓reduceIte,seval]
end Go.Bw
