/-
  WHAT IS PROVED HERE, of this translation: splitTable_satM, evApply_3, evApply_satM, evoApply_sat, scrSchemas_sat, scrApply_sat.
  A theorem that ends in sat says what the function it names returns, whatever the state it is called in; the bounds on its arguments stand ahead of it.
-/
import Derived.Test.YtjjnchbfjbjemaaGreatVg
import Derived.Test.YtjjnchbfjbjemaaGreatVm
import Derived.Test.YtjjnchbfjbjemaaGreatVq
import Derived.Test.YtjjnchbfjbjemaaGreatVr
set_option linter.unusedSimpArgs false
set_option linter.unusedVariables false
namespace Go.Bw
open Go.Proofs
attribute [local go_sem ↓] VOps_nil VOps_cons VOp_callJ VVal_callH VOps_guard GOn_tt GOn_ff GOn_tf GOn_ft GOn_not GOn_none HOn_none HOn_tt HOn_ff HOn_tf HOn_ft HOn_not VHead_nil VHead_cons VHead_guard VVal_move VVal_assign VVal_pickE pickK_true pickK_false VVal_not VVal_neg negK_int VVal_load loadK_fz loadK_ptr loadK_eptr VVal_fieldAddr VVal_field VVal_indexAddr idxK_sl idxK_ref VVal_index indexK_str VVal_extract VVal_binOp binK_one binK_agg VVal_build VVal_buildSlice VVal_makeFunc VVal_slice sliceK_str sliceK_sl sliceK_nil sliceK_ref VVal_slice3 VVal_nilCheck VVal_convert convKk_int convKk_str VVal_len VVal_max VVal_min VOp_assign assignK_int assignK_bool assignK_str assignK_clo assignK_sl assignK_nil assignK_ref assignK_agg assignK_fz assignK_ptr assignK_eptr assignK_any VOp_box VOp_alloc VOp_store storeK_ptr storeK_eptr VOp_buildSlice VOp_append appK_rr appK_rs appK_rn appK_ri appK_nr appK_ns appK_nn appK_ni appStd_eq VOp_copy copyK_ref VOp_clear clearK_ref VOp_cap VOp_eqNil VOp_move VOp_pick VOp_not VOp_neg VOp_load VOp_fieldAddr VOp_field VOp_indexAddr VOp_index VOp_extract VOp_binTmp VOp_binInt VOp_binStr VOp_binPtr VOp_build VOp_makeFunc VOp_slice VOp_nilCheck VOp_convert VOp_len VOp_max VOp_min mO_some mT_some pk_some pk_none look_cons del_cons
attribute [local go_sem] guardB gOf int_bne beq_true beq_false Bool.not_not gSlot pickK_true pickK_false negK_int loadK_fz loadK_ptr loadK_eptr idxK_sl idxK_ref indexK_str binK_one binK_agg sliceK_str sliceK_sl sliceK_nil sliceK_ref convKk_int convKk_str maxL minL assignK_int assignK_bool assignK_str assignK_clo assignK_sl assignK_nil assignK_ref assignK_agg assignK_fz assignK_ptr assignK_eptr assignK_any nilRow_eq takeRow_eq appended_eq storeK_ptr storeK_eptr store_mk appIn_eq appMk_eq marked_eq ovOut_nil ovOut_cons ovIn_nil ovIn_cons padRow_eq ysC capK_nil capK_ref ioSt_mk outB_nil outR_nil outB outR inB_nil inB_cons inR_nil inR_cons L.kl L.kl0 L.ids L.ids0 Option.getD_some evalO constA mO_some mT_some put_mk putO_some putO_none okD_some okD_none pk_some pk_none look_nil del_nil sput noBox_mk noRow_mk newBox_eq newRow0_eq St.killRow RowC.kill rowMap_mk rowOf ovAll ovAdd ovDel ovGet ovShift dstOf ysOf overlay_nil overlay_nil' overlay A.map V.map L.noPtr L.noPtr0 L.noRow L.noRow0 L.peek L.norm L.flat clos_int clos_bool clos_str clos_sl clos_nil clos_any clos_fz L.clos L.isFz L.kd moveL fieldOff eqCells eqCell eqOp oneOf boolOf intOfA tupOf vOf aggOf isPtrLike isSlice lenKind lenL nL elemTI loadV asV binL intBin intDivL shrL boolBin strBin strAdd ptrNil boundN partCells fillL placesOf setL chunks repL capsOf capL callOf argsOf frzV_int frzV_bool frzV_str frzV_sl frzV_nil frzV_fz frzV_any frzV_own frzV_clo frzV_ref frzV_eptr frzV_ptr frzRow_nil frzRow_ov frzRs_nil frzRs_cons frzCs_nil frzCs_cons frzO_some frzO_none frzN_int frzN_bool frzN_str frzN_sl frzN_nil frzN_any frzN_own List.map_cons List.map_nil List.cons_append List.nil_append List.append_nil List.length_cons List.length_nil List.length_map List.length_append List.headD_cons List.tail_cons List.getElem?_cons_zero List.getElem?_cons_succ List.drop_zero List.drop_succ_cons List.drop_nil List.take_succ_cons List.take_zero List.take_nil List.take_length List.filter_cons List.filter_nil List.elem_cons List.elem_nil List.all_cons List.all_nil Option.bind_some Option.map_some Option.some.injEq bne_self_eq_false beq_self_eq_true if_true if_false Bool.false_eq_true true_and and_true and_self Nat.zero_add Nat.add_zero Nat.zero_le Int.toNat_natCast Int.toNat_zero Option.isSome_some List.getElem?_toArray decide_true decide_false ge_iff_le gt_iff_lt Bool.not_true Bool.not_false Nat.le_refl Bool.and_true Bool.true_and Bool.and_false Bool.false_and eVal eRow eRow1 eRows eInt1 eInts eCol eCols eTbl eTbls eFK eFKs eCon eCons eSch eRel eInst eChg eChgs szOf getD_map_lt wrap_nat wrap_in List.take_of_length_le frz_eVal frz_eRow1 frz_eInt1 frz_eCol frz_eTbl frz_eFK frz_eCon frz_eRel frz_eChg noOwn_nil noOwn_cons noOwn_append L.isOwn noOwn_eVal noOwn_eRow1 noOwn_eInt1 noOwn_eCol noOwn_eTbl noOwn_eFK noOwn_eCon noOwn_eRel noOwn_eChg convK_2 convK_3 convK_5 convK_12 convK_21 convK_32 convK_95 convK_119 convK_122 convK_152 convK_169 TT_2 TT_3 TT_4 TT_5 TT_9 TT_12 TT_13 TT_21 TT_22 TT_23 TT_24 TT_25 TT_26 TT_27 TT_28 TT_29 TT_31 TT_32 TT_36 TT_37 TT_42 TT_43 TT_44 TT_48 TT_49 TT_56 TT_61 TT_72 TT_73 TT_74 TT_85 TT_86 TT_89 TT_90 TT_91 TT_92 TT_95 TT_98 TT_113 TT_114 TT_116 TT_117 TT_119 TT_122 TT_145 TT_152 TT_169 boolTy_4 eqK_37 eqK_90 eqK_92 eqK_114
attribute [local congr] VOps.congr VHead.congr VOp.congr VVal.congr pk.congr assignK.congr appK.congr appStd.congr copyK.congr clearK.congr storeK.congr loadK.congr idxK.congr sliceK.congr indexK.congr binK.congr convKk.congr
theorem splitTable_satM (s:Sch) (i:Nat) (st:Stp) (hi:i<s.tables.length) (sm:SmallS s) (hst:st.cols.length≤140737488355328) (hpk:∀c∈s.tables[i].pk,0≤c∧c<(s.tables[i].cols.length:Int)) :
  SatM Tryz.prog 99 [.one (.ptr 1000 0),oI i,.agg (eStp st)] (iB s) (iR s) (.v (oI (rE (splitT s i st)))) (oBE (splitT s i st)) (oRE (splitT s i st)):=by
 by_cases hE:splitE s (tAt s i) st=0
 ·exact splitTable_ok s i st hi sm hst hE hpk
 ·exact splitTable_err s i st hi sm hst hE
set_option maxHeartbeats 32000000 in
theorem evApply_3 (s:Sch) (st:Stp) (sm:SmallS s) (hf:st.Fits) (hpk:∀t∈s.tables,PkOk t) (hk:st.kind≠13∧st.kind≠14∧st.kind≠15∧st.kind≠16∧st.kind≠10) (j:Nat) (hj:j<s.tables.length) (h0:tblAt s.tables st.table=(j:Int)) (hq:st.kind=4∨st.kind=6∨st.kind=7) :
  SatM Tryz.prog 76 [.one (.ptr 1000 0),.agg (eStp st)] (iB s) (iR s) (.v (oI (rE (evApply s st)))) (oBE (evApply s st)) (oRE (evApply s st)):=by
 have b1:=sm.tables
 have b3:=sm.fks
 have b4:=sm.cons
 have b5:∀f∈s.fks,f.cols.length≤1048576:=fun f hf=>by have:=(sm.fk f hf).1;omega
 have hc:=hf.cols
 have fs:=findTable_sat s st.table (by omega)
 rw [h0,mx0_nat,decide_eq_true (show (0:Int)≤(j:Int) by omega)] at fs
 have s0:evApply s st=(if st.kind=4 then renameT s j st.newName else if st.kind=6 then splitT s j st else if st.kind=7 then joinT s j st.other else if st.kind=8 then partT s j st else if st.kind=9 then mergeT s j st else if st.kind=11 then dropT s st.table else if st.kind=12 then concatC s j st else if st.kind=1 then addC s j st else alterC s j st):=by
  unfold evApply;rw [if_neg hk.1,if_neg hk.2.1,if_neg hk.2.2.1,if_neg hk.2.2.2.1,if_neg hk.2.2.2.2];simp only [h0,Int.toNat_natCast];rw [if_neg (by omega)]
 obtain ⟨n1,n2,n3,n4,n5⟩:=hk
 rcases hq with hq|hq|hq
 ·have spec:evApply s st=renameT s j st.newName:=by rw [s0,if_pos hq]
  have C:=renameTable_satM s j st.newName hj sm
  rw [spec]
  generalize renameT s j st.newName=r at C ⊢
  unfold iB iR at C ⊢
  refine sM tyOk [1000] [1,2,3] Tryz.func76 fun w0 m0 F0=>?_
  simp only [Tryz.ntmps76,envOf,Nat.reduceAdd]
  repeat' (first|((first|((fail_if_success (refine AWP.isRegion 19 ?_));(with_reducible refine qV tyOk fun K hK=>?_))|(refine AWP.isRegion 14 ?_;refine dX tyOk mixed [(0,5)] [(5,[(6,5)],[])] [5] 8 fun K hK=>?_;simp only [SG,segs] at hK ⊢)|refine Q2 ?_|((with_reducible first|refine qS ?_ ?_|refine qT ?_ ?_|refine qU ?_ ?_)<;>(intro h;try simp only [NM] at h))|((with_reducible refine CallJ.is ?_);(first|refine CallJ.pure (fs) ?_|((apply CallJ.lentI);(focus (simp -dsimp (disch:=first|exact D|fail) only [go_sem,↓reduceIte,seval,eStp,Option.getD_none,frz_eTblO,frz_eFKO];rfl));(focus (first|exact (fs))))))|(with_reducible first|refine VCy.some fun K hK=>?_|refine VCy.step fun K hK=>?_))<;>simp -dsimp (disch:=first|exact D|fail) only [go_sem,↓reduceIte,seval,eStp,Option.getD_none,frz_eTblO,frz_eFKO])|((with_reducible refine hK _ ?_);clear hK K)|(with_reducible refine VCy.intro fun K0 hK0=>?_)|((with_reducible refine VCy.fin ?_);(refine hK0 _ ?_);clear hK0 K0)|(with_reducible first|refine VCy.quiet ?_|refine VCy.none ?_)|((with_reducible refine VCy.keep ?_ ?_);focus ((simp -dsimp (disch:=first|exact D|fail) only [go_sem,↓reduceIte,seval,Stable_cons,Stable_nil,sameA_some,sameA_none,eStp,Option.getD_none,frz_eTblO,frz_eFKO]);first|done|exact E|fail))|refine Q1 ?_|((with_reducible refine qW (T:=TT) (b:=?_) ?_ ?_);rotate_left;exact rfl)|((with_reducible refine yS ?_ ?_)<;>(intro h;try simp only [NM] at h)))
  cases r with
  | error e =>
   unfold oBE oRE rE at C ⊢
   simp only [eStp] at C ⊢
   repeat' (first|((first|with_reducible refine qV tyOk fun K hK=>?_|refine Q2 ?_|((with_reducible first|refine qS ?_ ?_|refine qT ?_ ?_|refine qU ?_ ?_)<;>(intro h;try simp only [NM] at h))|((with_reducible refine CallJ.is ?_);refine CallJ.io [(1000,1000)] [(1000,1000),(1001,1001),(1002,1002)] [] [] [1000] [1000,1001,1002] [1000] [1000,1001,1002] (C) rfl ⟨rfl,rfl,rfl,rfl⟩ ?_ ?_ ?_))<;>simp -dsimp (disch:=first|exact D|fail) only [go_sem,↓reduceIte,seval,okIds_ref,Option.getD_none,eStp,eTbl,eFK,eCon,eInts,eCols,dropL_nil,dropL_nil',dropL_cons])|((with_reducible refine hK _ ?_);clear hK K)|refine Q1 ?_|((with_reducible refine qW (T:=TT) (b:=?_) ?_ ?_);rotate_left;exact rfl)|((with_reducible refine yS ?_ ?_)<;>(intro h;try simp only [NM] at h)))
   simp -dsimp (disch:=first|exact D|fail) only [retQ,Tryz.results76,resVals,cellRV,resOf,St.rest,St.freeze,RT,go_sem,↓reduceIte,seval]
  | ok R =>
   unfold oBE oRE oB1 oR1 rE at C ⊢
   simp only [eStp] at C ⊢
   repeat' (first|((first|with_reducible refine qV tyOk fun K hK=>?_|refine Q2 ?_|((with_reducible first|refine qS ?_ ?_|refine qT ?_ ?_|refine qU ?_ ?_)<;>(intro h;try simp only [NM] at h))|((with_reducible refine CallJ.is ?_);refine CallJ.io [(1000,1000)] [(1000,1000),(1001,1001),(1002,1002)] [(1000,1000)] [(1,1),(2,2),(3,3)] [] [1000,1001,1002,1,2,3] [1000,1000] [1000,1001,1002,1,2,3] (C) rfl ⟨rfl,rfl,rfl,rfl⟩ ?_ ?_ ?_))<;>simp -dsimp (disch:=first|exact D|fail) only [go_sem,↓reduceIte,seval,okIds_ref,Option.getD_none,eStp,eTbl,eFK,eCon,eInts,eCols,dropL_nil,dropL_nil',dropL_cons])|((with_reducible refine hK _ ?_);clear hK K)|refine Q1 ?_|((with_reducible refine qW (T:=TT) (b:=?_) ?_ ?_);rotate_left;exact rfl)|((with_reducible refine yS ?_ ?_)<;>(intro h;try simp only [NM] at h)))
   simp -dsimp (disch:=first|exact D|fail) only [retQ,Tryz.results76,resVals,cellRV,resOf,St.rest,St.freeze,RT,go_sem,↓reduceIte,seval]
 ·have spec:evApply s st=splitT s j st:=by rw [s0,if_neg (by omega),if_pos hq]
  have C:=splitTable_satM s j st hj sm (by omega) (hpk _ (List.getElem_mem hj))
  rw [spec]
  generalize splitT s j st=r at C ⊢
  unfold iB iR at C ⊢
  refine sM tyOk [1000] [1,2,3] Tryz.func76 fun w0 m0 F0=>?_
  simp only [Tryz.ntmps76,envOf,Nat.reduceAdd]
  repeat' (first|((first|((fail_if_success (refine AWP.isRegion 21 ?_));(with_reducible refine qV tyOk fun K hK=>?_))|(refine AWP.isRegion 14 ?_;refine dX tyOk mixed [(0,5)] [(5,[(6,5)],[])] [5] 8 fun K hK=>?_;simp only [SG,segs] at hK ⊢)|refine Q2 ?_|((with_reducible first|refine qS ?_ ?_|refine qT ?_ ?_|refine qU ?_ ?_)<;>(intro h;try simp only [NM] at h))|((with_reducible refine CallJ.is ?_);(first|refine CallJ.pure (fs) ?_|((apply CallJ.lentI);(focus (simp -dsimp (disch:=first|exact D|fail) only [go_sem,↓reduceIte,seval,eStp,Option.getD_none,frz_eTblO,frz_eFKO];rfl));(focus (first|exact (fs))))))|(with_reducible first|refine VCy.some fun K hK=>?_|refine VCy.step fun K hK=>?_))<;>simp -dsimp (disch:=first|exact D|fail) only [go_sem,↓reduceIte,seval,eStp,Option.getD_none,frz_eTblO,frz_eFKO])|((with_reducible refine hK _ ?_);clear hK K)|(with_reducible refine VCy.intro fun K0 hK0=>?_)|((with_reducible refine VCy.fin ?_);(refine hK0 _ ?_);clear hK0 K0)|(with_reducible first|refine VCy.quiet ?_|refine VCy.none ?_)|((with_reducible refine VCy.keep ?_ ?_);focus ((simp -dsimp (disch:=first|exact D|fail) only [go_sem,↓reduceIte,seval,Stable_cons,Stable_nil,sameA_some,sameA_none,eStp,Option.getD_none,frz_eTblO,frz_eFKO]);first|done|exact E|fail))|refine Q1 ?_|((with_reducible refine qW (T:=TT) (b:=?_) ?_ ?_);rotate_left;exact rfl)|((with_reducible refine yS ?_ ?_)<;>(intro h;try simp only [NM] at h)))
  cases r with
  | error e =>
   unfold oBE oRE rE at C ⊢
   simp only [eStp] at C ⊢
   repeat' (first|((first|with_reducible refine qV tyOk fun K hK=>?_|refine Q2 ?_|((with_reducible first|refine qS ?_ ?_|refine qT ?_ ?_|refine qU ?_ ?_)<;>(intro h;try simp only [NM] at h))|((with_reducible refine CallJ.is ?_);refine CallJ.io [(1000,1000)] [(1000,1000),(1001,1001),(1002,1002)] [] [] [1000] [1000,1001,1002] [1000] [1000,1001,1002] (C) rfl ⟨rfl,rfl,rfl,rfl⟩ ?_ ?_ ?_))<;>simp -dsimp (disch:=first|exact D|fail) only [go_sem,↓reduceIte,seval,okIds_ref,Option.getD_none,eStp,eTbl,eFK,eCon,eInts,eCols,dropL_nil,dropL_nil',dropL_cons])|((with_reducible refine hK _ ?_);clear hK K)|refine Q1 ?_|((with_reducible refine qW (T:=TT) (b:=?_) ?_ ?_);rotate_left;exact rfl)|((with_reducible refine yS ?_ ?_)<;>(intro h;try simp only [NM] at h)))
   simp -dsimp (disch:=first|exact D|fail) only [retQ,Tryz.results76,resVals,cellRV,resOf,St.rest,St.freeze,RT,go_sem,↓reduceIte,seval]
  | ok R =>
   unfold oBE oRE oB1 oR1 rE at C ⊢
   simp only [eStp] at C ⊢
   repeat' (first|((first|with_reducible refine qV tyOk fun K hK=>?_|refine Q2 ?_|((with_reducible first|refine qS ?_ ?_|refine qT ?_ ?_|refine qU ?_ ?_)<;>(intro h;try simp only [NM] at h))|((with_reducible refine CallJ.is ?_);refine CallJ.io [(1000,1000)] [(1000,1000),(1001,1001),(1002,1002)] [(1000,1000)] [(1,1),(2,2),(3,3)] [] [1000,1001,1002,1,2,3] [1000,1000] [1000,1001,1002,1,2,3] (C) rfl ⟨rfl,rfl,rfl,rfl⟩ ?_ ?_ ?_))<;>simp -dsimp (disch:=first|exact D|fail) only [go_sem,↓reduceIte,seval,okIds_ref,Option.getD_none,eStp,eTbl,eFK,eCon,eInts,eCols,dropL_nil,dropL_nil',dropL_cons])|((with_reducible refine hK _ ?_);clear hK K)|refine Q1 ?_|((with_reducible refine qW (T:=TT) (b:=?_) ?_ ?_);rotate_left;exact rfl)|((with_reducible refine yS ?_ ?_)<;>(intro h;try simp only [NM] at h)))
   simp -dsimp (disch:=first|exact D|fail) only [retQ,Tryz.results76,resVals,cellRV,resOf,St.rest,St.freeze,RT,go_sem,↓reduceIte,seval]
 ·have spec:evApply s st=joinT s j st.other:=by rw [s0,if_neg (by omega),if_neg (by omega),if_pos hq]
  have C:=joinTables_satM s j st.other hj sm hpk
  rw [spec]
  generalize joinT s j st.other=r at C ⊢
  unfold iB iR at C ⊢
  refine sM tyOk [1000] [1,2,3] Tryz.func76 fun w0 m0 F0=>?_
  simp only [Tryz.ntmps76,envOf,Nat.reduceAdd]
  repeat' (first|((first|((fail_if_success (refine AWP.isRegion 23 ?_));(with_reducible refine qV tyOk fun K hK=>?_))|(refine AWP.isRegion 14 ?_;refine dX tyOk mixed [(0,5)] [(5,[(6,5)],[])] [5] 8 fun K hK=>?_;simp only [SG,segs] at hK ⊢)|refine Q2 ?_|((with_reducible first|refine qS ?_ ?_|refine qT ?_ ?_|refine qU ?_ ?_)<;>(intro h;try simp only [NM] at h))|((with_reducible refine CallJ.is ?_);(first|refine CallJ.pure (fs) ?_|((apply CallJ.lentI);(focus (simp -dsimp (disch:=first|exact D|fail) only [go_sem,↓reduceIte,seval,eStp,Option.getD_none,frz_eTblO,frz_eFKO];rfl));(focus (first|exact (fs))))))|(with_reducible first|refine VCy.some fun K hK=>?_|refine VCy.step fun K hK=>?_))<;>simp -dsimp (disch:=first|exact D|fail) only [go_sem,↓reduceIte,seval,eStp,Option.getD_none,frz_eTblO,frz_eFKO])|((with_reducible refine hK _ ?_);clear hK K)|(with_reducible refine VCy.intro fun K0 hK0=>?_)|((with_reducible refine VCy.fin ?_);(refine hK0 _ ?_);clear hK0 K0)|(with_reducible first|refine VCy.quiet ?_|refine VCy.none ?_)|((with_reducible refine VCy.keep ?_ ?_);focus ((simp -dsimp (disch:=first|exact D|fail) only [go_sem,↓reduceIte,seval,Stable_cons,Stable_nil,sameA_some,sameA_none,eStp,Option.getD_none,frz_eTblO,frz_eFKO]);first|done|exact E|fail))|refine Q1 ?_|((with_reducible refine qW (T:=TT) (b:=?_) ?_ ?_);rotate_left;exact rfl)|((with_reducible refine yS ?_ ?_)<;>(intro h;try simp only [NM] at h)))
  cases r with
  | error e =>
   unfold oBE oRE rE at C ⊢
   simp only [eStp] at C ⊢
   repeat' (first|((first|with_reducible refine qV tyOk fun K hK=>?_|refine Q2 ?_|((with_reducible first|refine qS ?_ ?_|refine qT ?_ ?_|refine qU ?_ ?_)<;>(intro h;try simp only [NM] at h))|((with_reducible refine CallJ.is ?_);refine CallJ.io [(1000,1000)] [(1000,1000),(1001,1001),(1002,1002)] [] [] [1000] [1000,1001,1002] [1000] [1000,1001,1002] (C) rfl ⟨rfl,rfl,rfl,rfl⟩ ?_ ?_ ?_))<;>simp -dsimp (disch:=first|exact D|fail) only [go_sem,↓reduceIte,seval,okIds_ref,Option.getD_none,eStp,eTbl,eFK,eCon,eInts,eCols,dropL_nil,dropL_nil',dropL_cons])|((with_reducible refine hK _ ?_);clear hK K)|refine Q1 ?_|((with_reducible refine qW (T:=TT) (b:=?_) ?_ ?_);rotate_left;exact rfl)|((with_reducible refine yS ?_ ?_)<;>(intro h;try simp only [NM] at h)))
   simp -dsimp (disch:=first|exact D|fail) only [retQ,Tryz.results76,resVals,cellRV,resOf,St.rest,St.freeze,RT,go_sem,↓reduceIte,seval]
  | ok R =>
   unfold oBE oRE oB1 oR1 rE at C ⊢
   simp only [eStp] at C ⊢
   repeat' (first|((first|with_reducible refine qV tyOk fun K hK=>?_|refine Q2 ?_|((with_reducible first|refine qS ?_ ?_|refine qT ?_ ?_|refine qU ?_ ?_)<;>(intro h;try simp only [NM] at h))|((with_reducible refine CallJ.is ?_);refine CallJ.io [(1000,1000)] [(1000,1000),(1001,1001),(1002,1002)] [(1000,1000)] [(1,1),(2,2),(3,3)] [] [1000,1001,1002,1,2,3] [1000,1000] [1000,1001,1002,1,2,3] (C) rfl ⟨rfl,rfl,rfl,rfl⟩ ?_ ?_ ?_))<;>simp -dsimp (disch:=first|exact D|fail) only [go_sem,↓reduceIte,seval,okIds_ref,Option.getD_none,eStp,eTbl,eFK,eCon,eInts,eCols,dropL_nil,dropL_nil',dropL_cons])|((with_reducible refine hK _ ?_);clear hK K)|refine Q1 ?_|((with_reducible refine qW (T:=TT) (b:=?_) ?_ ?_);rotate_left;exact rfl)|((with_reducible refine yS ?_ ?_)<;>(intro h;try simp only [NM] at h)))
   simp -dsimp (disch:=first|exact D|fail) only [retQ,Tryz.results76,resVals,cellRV,resOf,St.rest,St.freeze,RT,go_sem,↓reduceIte,seval]
theorem evApply_satM (s:Sch) (st:Stp) (sm:SmallS s) (hf:st.Fits) (hpk:∀t∈s.tables,PkOk t) :
  SatM Tryz.prog 76 [.one (.ptr 1000 0),.agg (eStp st)] (iB s) (iR s) (.v (oI (rE (evApply s st)))) (oBE (evApply s st)) (oRE (evApply s st)):=by
 by_cases hk:st.kind=13∨st.kind=14∨st.kind=15∨st.kind=16∨st.kind=10
 ·exact evApply_1 s st sm hf hk
 have hk:st.kind≠13∧st.kind≠14∧st.kind≠15∧st.kind≠16∧st.kind≠10:=by omega
 rcases idx_cases (fun u=>sEq u.name st.table) s.tables 0 with ⟨e1,_⟩|⟨j,hj,e1,_,_⟩
 ·exact evApply_2 s st sm hf hk e1
 have e1:tblAt s.tables st.table=(j:Int):=by unfold tblAt;simpa using e1
 by_cases h3:st.kind=4∨st.kind=6∨st.kind=7
 ·exact evApply_3 s st sm hf hpk hk j hj e1 h3
 by_cases h4:st.kind=8∨st.kind=9∨st.kind=11
 ·exact evApply_4 s st sm hf hpk hk j hj e1 h4
 by_cases h5:st.kind=12∨st.kind=1
 ·exact evApply_5 s st sm hf hpk hk j hj e1 h5
 ·exact evApply_6 s st sm hf hpk hk j hj e1 (by omega)
set_option maxHeartbeats 32000000 in
theorem evoApply_sat (s:Sch) (st:Stp) (hs:s.Fits) (hf:st.Fits):Sat Tryz.prog 64 [.agg (eSch s),.agg (eStp st)] (.tup [.agg (eSch (sOut (evoE s st))),oI (rE (evoE s st))]):=by
 have c1:=schValidate_sat s hs
 have c2:=evValidate_sat st hf
 have c3:=stpClone_sat st hf
 obtain ⟨f1,f2,f3,f4⟩:=hf
 by_cases h1:schE s=0
 case neg =>
  have spec:evoE s st=.error (schE s):=by unfold evoE;rw [if_pos h1]
  rw [spec]
  unfold sOut rE
  simp only
  refine sS tyOk Tryz.func64 fun w0 m0 F0=>?_
  simp only [Tryz.ntmps64,envOf,Nat.reduceAdd]
  repeat' (first|((first|with_reducible refine qV tyOk fun K hK=>?_|refine Q2 ?_|((with_reducible first|refine qS ?_ ?_|refine qT ?_ ?_|refine qU ?_ ?_)<;>(intro h;try simp only [NM] at h))|((with_reducible refine CallJ.is ?_);(first|refine CallJ.pure (c1) ?_|((apply CallJ.lentI);(focus (simp -dsimp (disch:=first|exact D|fail) only [go_sem,↓reduceIte,seval,eSch,h1];rfl));(focus (first|exact (c1)))))))<;>simp -dsimp (disch:=first|exact D|fail) only [go_sem,↓reduceIte,seval,eSch,h1])|((with_reducible refine hK _ ?_);clear hK K)|refine Q1 ?_|((with_reducible refine qW (T:=TT) (b:=?_) ?_ ?_);rotate_left;exact rfl)|((with_reducible refine yS ?_ ?_)<;>(intro h;try simp only [NM] at h)))
  simp -dsimp (disch:=first|exact D|fail) only [retQ,Tryz.results64,resVals,cellRV,resOf,St.rest,St.freeze,RT,go_sem,↓reduceIte,seval]
 rw [h1] at c1
 by_cases h2:evValE st=0
 case neg =>
  have spec:evoE s st=.error (evValE st):=by unfold evoE;rw [if_neg (by rw [h1];simp),if_pos h2]
  rw [spec]
  unfold sOut rE
  simp only
  obtain ⟨es,hes⟩:∃es,eStp st=es:=⟨_,rfl⟩
  refine sS tyOk Tryz.func64 fun w0 m0 F0=>?_
  simp only [Tryz.ntmps64,envOf,Nat.reduceAdd]
  repeat' (first|((first|with_reducible refine qV tyOk fun K hK=>?_|refine Q2 ?_|((with_reducible first|refine qS ?_ ?_|refine qT ?_ ?_|refine qU ?_ ?_)<;>(intro h;try simp only [NM] at h))|((with_reducible refine CallJ.is ?_);(first|refine CallJ.pure (c1) ?_|refine CallJ.pure (c2) ?_|((apply CallJ.lentI);(focus (simp -dsimp (disch:=first|exact D|fail) only [go_sem,↓reduceIte,seval,eSch,eStp,h2];rfl));(focus (first|exact (c1)|exact (c2)))))))<;>simp -dsimp (disch:=first|exact D|fail) only [go_sem,↓reduceIte,seval,eSch,eStp,h2])|((with_reducible refine hK _ ?_);clear hK K)|refine Q1 ?_|((with_reducible refine qW (T:=TT) (b:=?_) ?_ ?_);rotate_left;exact rfl)|((with_reducible refine yS ?_ ?_)<;>(intro h;try simp only [NM] at h)))
  simp -dsimp (disch:=first|exact D|fail) only [retQ,Tryz.results64,resVals,cellRV,resOf,St.rest,St.freeze,RT,go_sem,↓reduceIte,seval]
 rw [h2] at c2
 have sm:=smallS_of h1
 have b1:=sm.tables
 have b3:=sm.fks
 have b4:=sm.cons
 have cl:=schClone_own s (by omega) (by omega) (by omega) (fun t ht=>by have:=sm.table t ht;omega) (fun f hf=>by have:=(sm.fk f hf).1;omega)
 have C:=evApply_satM s st sm ⟨f1,f2,f3,f4⟩ (pkOk_of h1)
 cases hr:evApply s st with
 | error e =>
  have spec:evoE s st=.error e:=by unfold evoE;rw [if_neg (by rw [h1];simp),if_neg (by rw [h2];simp),hr]
  have he:=evApply_ne hr
  rw [hr] at C
  rw [spec]
  unfold iB iR oBE oRE rE at C
  unfold sOut rE
  simp only [eStp] at C ⊢
  refine sS tyOk Tryz.func64 fun w0 m0 F0=>?_
  simp only [Tryz.ntmps64,envOf,Nat.reduceAdd]
  repeat' (first|((first|with_reducible refine qV tyOk fun K hK=>?_|refine Q2 ?_|((with_reducible first|refine qS ?_ ?_|refine qT ?_ ?_|refine qU ?_ ?_)<;>(intro h;try simp only [NM] at h))|((with_reducible refine CallJ.is ?_);refine CallJ.io [] [] [] [(24,36),(42,37),(10,35)] [] [36,37,35] [] [36,37,35] (cl) rfl ⟨rfl,rfl,rfl,rfl⟩ ?_ ?_ ?_)|((with_reducible refine CallJ.is ?_);refine CallJ.io [(1000,8)] [(1000,36),(1001,37),(1002,35)] [] [] [8] [36,37,35] [8] [36,37,35] (C) rfl ⟨rfl,rfl,rfl,rfl⟩ ?_ ?_ ?_)|((with_reducible refine CallJ.is ?_);(first|refine CallJ.pure (c1) ?_|refine CallJ.pure (c2) ?_|refine CallJ.pure (c3) ?_|((apply CallJ.lentI);(focus (simp -dsimp (disch:=first|exact D|fail) only [go_sem,↓reduceIte,seval,okIds_ref,eSch,eStp,he,dropL_nil,dropL_nil',dropL_cons];rfl));(focus (first|exact (c1)|exact (c2)|exact (c3)))))))<;>simp -dsimp (disch:=first|exact D|fail) only [go_sem,↓reduceIte,seval,okIds_ref,eSch,eStp,he,dropL_nil,dropL_nil',dropL_cons])|((with_reducible refine hK _ ?_);clear hK K)|refine Q1 ?_|((with_reducible refine qW (T:=TT) (b:=?_) ?_ ?_);rotate_left;exact rfl)|((with_reducible refine yS ?_ ?_)<;>(intro h;try simp only [NM] at h)))
  simp -dsimp (disch:=first|exact D|fail) only [retQ,Tryz.results64,resVals,cellRV,resOf,St.rest,St.freeze,RT,go_sem,↓reduceIte,seval]
 | ok R =>
  have sz:=evApply_sz sm (by omega) (by omega) (by omega) (by omega) hr
  have c4:=schValidate_sat R (sz.fits (by decide) (by decide))
  rw [hr] at C
  unfold iB iR oBE oRE oB1 oR1 rE at C
  simp only [eStp] at C
  by_cases h4:schE R=0
  case neg =>
   have spec:evoE s st=.error (schE R):=by unfold evoE;rw [if_neg (by rw [h1];simp),if_neg (by rw [h2];simp),hr];simp only;rw [if_pos h4]
   rw [spec]
   unfold sOut rE
   simp only
   refine sS tyOk Tryz.func64 fun w0 m0 F0=>?_
   simp only [Tryz.ntmps64,envOf,Nat.reduceAdd]
   repeat' (first|((first|with_reducible refine qV tyOk fun K hK=>?_|refine Q2 ?_|((with_reducible first|refine qS ?_ ?_|refine qT ?_ ?_|refine qU ?_ ?_)<;>(intro h;try simp only [NM] at h))|((with_reducible refine CallJ.is ?_);refine CallJ.io [] [] [] [(24,36),(42,37),(10,35)] [] [36,37,35] [] [36,37,35] (cl) rfl ⟨rfl,rfl,rfl,rfl⟩ ?_ ?_ ?_)|((with_reducible refine CallJ.is ?_);refine CallJ.io [(1000,8)] [(1000,36),(1001,37),(1002,35)] [(1000,8)] [(1,30),(2,31),(3,33)] [] [36,37,35,30,31,33] [8,8] [36,37,35,30,31,33] (C) rfl ⟨rfl,rfl,rfl,rfl⟩ ?_ ?_ ?_)|((with_reducible refine CallJ.is ?_);(first|refine CallJ.pure (c1) ?_|refine CallJ.pure (c2) ?_|refine CallJ.pure (c3) ?_|refine CallJ.pure (c4) ?_|((apply CallJ.lentI);(focus (simp -dsimp (disch:=first|exact D|fail) only [go_sem,↓reduceIte,seval,okIds_ref,eSch,eStp,h4,dropL_nil,dropL_nil',dropL_cons];rfl));(focus (first|exact (c1)|exact (c2)|exact (c3)|exact (c4)))))))<;>simp -dsimp (disch:=first|exact D|fail) only [go_sem,↓reduceIte,seval,okIds_ref,eSch,eStp,h4,dropL_nil,dropL_nil',dropL_cons])|((with_reducible refine hK _ ?_);clear hK K)|refine Q1 ?_|((with_reducible refine qW (T:=TT) (b:=?_) ?_ ?_);rotate_left;exact rfl)|((with_reducible refine yS ?_ ?_)<;>(intro h;try simp only [NM] at h)))
   simp -dsimp (disch:=first|exact D|fail) only [retQ,Tryz.results64,resVals,cellRV,resOf,St.rest,St.freeze,RT,go_sem,↓reduceIte,seval]
  have spec:evoE s st=.ok R:=by unfold evoE;rw [if_neg (by rw [h1];simp),if_neg (by rw [h2];simp),hr];simp only;rw [if_neg (by rw [h4];simp)]
  rw [spec]
  unfold sOut rE
  simp only
  refine sS tyOk Tryz.func64 fun w0 m0 F0=>?_
  simp only [Tryz.ntmps64,envOf,Nat.reduceAdd]
  rw [h4] at c4
  repeat' (first|((first|with_reducible refine qV tyOk fun K hK=>?_|refine Q2 ?_|((with_reducible first|refine qS ?_ ?_|refine qT ?_ ?_|refine qU ?_ ?_)<;>(intro h;try simp only [NM] at h))|((with_reducible refine CallJ.is ?_);refine CallJ.io [] [] [] [(24,36),(42,37),(10,35)] [] [36,37,35] [] [36,37,35] (cl) rfl ⟨rfl,rfl,rfl,rfl⟩ ?_ ?_ ?_)|((with_reducible refine CallJ.is ?_);refine CallJ.io [(1000,8)] [(1000,36),(1001,37),(1002,35)] [(1000,8)] [(1,30),(2,31),(3,33)] [] [36,37,35,30,31,33] [8,8] [36,37,35,30,31,33] (C) rfl ⟨rfl,rfl,rfl,rfl⟩ ?_ ?_ ?_)|((with_reducible refine CallJ.is ?_);(first|refine CallJ.pure (c1) ?_|refine CallJ.pure (c2) ?_|refine CallJ.pure (c3) ?_|refine CallJ.pure (c4) ?_|((apply CallJ.lentI);(focus (simp -dsimp (disch:=first|exact D|fail) only [go_sem,↓reduceIte,seval,okIds_ref,eSch,eStp,dropL_nil,dropL_nil',dropL_cons];rfl));(focus (first|exact (c1)|exact (c2)|exact (c3)|exact (c4)))))))<;>simp -dsimp (disch:=first|exact D|fail) only [go_sem,↓reduceIte,seval,okIds_ref,eSch,eStp,dropL_nil,dropL_nil',dropL_cons])|((with_reducible refine hK _ ?_);clear hK K)|refine Q1 ?_|((with_reducible refine qW (T:=TT) (b:=?_) ?_ ?_);rotate_left;exact rfl)|((with_reducible refine yS ?_ ?_)<;>(intro h;try simp only [NM] at h)))
  simp -dsimp (disch:=first|exact D|fail) only [retQ,Tryz.results64,resVals,cellRV,resOf,St.rest,St.freeze,RT,go_sem,↓reduceIte,seval]
set_option maxHeartbeats 16000000 in
theorem scrSchemas_sat (s:Sch) (l:List Stp) (hs:s.Fits) (hl:l.length≤140737488355328) (hf:∀st∈l,st.Fits):Sat Tryz.prog 45 [.agg (eSch s),.one (eScr l)] (.tup [.one (eSchs (lOut (scrSchemas s l))),oI (rE (scrSchemas s l))]):=by
 have c1:=schValidate_sat s hs
 unfold eScr
 by_cases h0:6<l.length
 ·have spec:scrSchemas s l=.error 2:=by unfold scrSchemas;rw [if_pos h0]
  rw [spec]
  unfold lOut rE eSchs
  refine sS tyOk Tryz.func45 fun w0 m0 F0=>?_
  simp only [Tryz.ntmps45,envOf,Nat.reduceAdd]
  repeat' (first|((first|with_reducible refine qV tyOk fun K hK=>?_|refine Q2 ?_|((with_reducible first|refine qS ?_ ?_|refine qT ?_ ?_|refine qU ?_ ?_)<;>(intro h;try simp only [NM] at h)))<;>simp -dsimp (disch:=first|exact D|fail) only [go_sem,↓reduceIte,seval])|((with_reducible refine hK _ ?_);clear hK K)|refine Q1 ?_|((with_reducible refine qW (T:=TT) (b:=?_) ?_ ?_);rotate_left;exact rfl)|((with_reducible refine yS ?_ ?_)<;>(intro h;try simp only [NM] at h)))
  simp -dsimp (disch:=first|exact D|fail) only [retQ,Tryz.results45,resVals,cellRV,resOf,St.rest,St.freeze,RT,go_sem,↓reduceIte,seval]
 by_cases h1:schE s=0
 case neg =>
  have spec:scrSchemas s l=.error (schE s):=by unfold scrSchemas;rw [if_neg h0,if_pos h1]
  rw [spec]
  unfold lOut rE eSchs
  refine sS tyOk Tryz.func45 fun w0 m0 F0=>?_
  simp only [Tryz.ntmps45,envOf,Nat.reduceAdd]
  repeat' (first|((first|with_reducible refine qV tyOk fun K hK=>?_|refine Q2 ?_|((with_reducible first|refine qS ?_ ?_|refine qT ?_ ?_|refine qU ?_ ?_)<;>(intro h;try simp only [NM] at h))|((with_reducible refine CallJ.is ?_);(first|refine CallJ.pure (c1) ?_|((apply CallJ.lentI);(focus (simp -dsimp (disch:=first|exact D|fail) only [go_sem,↓reduceIte,seval,eSch,h1];rfl));(focus (first|exact (c1)))))))<;>simp -dsimp (disch:=first|exact D|fail) only [go_sem,↓reduceIte,seval,eSch,h1])|((with_reducible refine hK _ ?_);clear hK K)|refine Q1 ?_|((with_reducible refine qW (T:=TT) (b:=?_) ?_ ?_);rotate_left;exact rfl)|((with_reducible refine yS ?_ ?_)<;>(intro h;try simp only [NM] at h)))
  simp -dsimp (disch:=first|exact D|fail) only [retQ,Tryz.results45,resVals,cellRV,resOf,St.rest,St.freeze,RT,go_sem,↓reduceIte,seval]
 rw [h1] at c1
 have c2:=schClone_sat s (small_of h1)
 obtain ⟨R,hR⟩:∃R,goS [s] l=R:=⟨_,rfl⟩
 have spec:scrSchemas s l=R:=by unfold scrSchemas;rw [if_neg h0,if_neg (by rw [h1];simp),hR]
 rw [spec]
 refine sS tyOk Tryz.func45 fun w0 m0 F0=>?_
 simp only [Tryz.ntmps45,envOf,Nat.reduceAdd]
 repeat' (first|((first|with_reducible refine qV tyOk fun K hK=>?_|refine Q2 ?_|((with_reducible first|refine qS ?_ ?_|refine qT ?_ ?_|refine qU ?_ ?_)<;>(intro h;try simp only [NM] at h))|((with_reducible refine CallJ.is ?_);(first|refine CallJ.pure (c1) ?_|refine CallJ.pure (c2) ?_|((apply CallJ.lentI);(focus (simp -dsimp (disch:=first|exact D|fail) only [go_sem,↓reduceIte,seval,eSch];rfl));(focus (first|exact (c1)|exact (c2)))))))<;>simp -dsimp (disch:=first|exact D|fail) only [go_sem,↓reduceIte,seval,eSch])|((with_reducible refine hK _ ?_);clear hK K)|refine Q1 ?_|((with_reducible refine qW (T:=TT) (b:=?_) ?_ ?_);rotate_left;exact rfl)|((with_reducible refine yS ?_ ?_)<;>(intro h;try simp only [NM] at h)))
 refine AWP.loop (ι:={p:Nat×List Sch // p.1≤l.length∧p.2.length=p.1+1∧(∀x∈p.2,schE x=0)∧goS p.2 (l.drop p.1)=R}) (fun p=>⟨48,[(5,.v (oI 0)),(7,.v (.one (.ref 7 0 p.1.2.length))),(23,.v (.one (.sl 24 (l.map eStp)))),(24,.v (oI l.length)),(25,.v (oI p.1.1))],[],[(7,⟨3,p.1.2.map eSch,[]⟩)]⟩) (fun p=>l.length - p.1.1) ⟨(0,[s]),Nat.zero_le _,rfl,fun x hx=>by rw [List.mem_singleton.1 hx];exact h1,hR⟩ ?_ fun ⟨⟨k,acc⟩,hkl,hka,hkz,hkR⟩=>?_
 ·refine St.le_mk ?_ ?_ ?_<;>simp only [LE,EN,Nat.reduceEqDiff,reduceIte,Nat.reduceSub,eSch,List.length_cons,List.length_nil,Nat.zero_add]
 simp only at hkl hka hkz hkR ⊢
 rcases Nat.lt_or_ge k l.length with hk|hk
 ·obtain ⟨st,hst⟩:∃st,l[k]=st:=⟨_,rfl⟩
  have gs:(l.map eStp).getD k []=eStp st:=by rw [getD_map_lt _ _ _ hk,hst]
  have fst:=hf l[k] (List.getElem_mem hk)
  rw [List.drop_eq_getElem_cons hk,goS,hka,Nat.add_sub_cancel] at hkR
  rw [hst] at hkR fst
  obtain ⟨c,hc⟩:∃c,acc.getD k zSch=c:=⟨_,rfl⟩
  have hk2:k<acc.length:=by omega
  have ga:(acc.map eSch).getD k []=eSch c:=by rw [getD_map_lt _ _ _ hk2,←hc,getD_lt _ hk2]
  have zc:schE c=0:=by rw [←hc,getD_lt _ hk2];exact hkz _ (List.getElem_mem hk2)
  have ev:=evoApply_sat c st (small_of zc).fits fst
  rw [hc] at hkR
  obtain ⟨r0,hv⟩:∃r0,evoE c st=r0:=⟨_,rfl⟩
  rw [hv] at hkR ev
  repeat' (first|((first|with_reducible refine qV tyOk fun K hK=>?_|refine Q2 ?_|((with_reducible first|refine qS ?_ ?_|refine qT ?_ ?_|refine qU ?_ ?_)<;>(intro h;try simp only [NM] at h)))<;>simp -dsimp (disch:=first|exact D|fail) only [go_sem,↓reduceIte,seval,gs,eStp,eSch,Option.getD_none])|((with_reducible refine hK _ ?_);clear hK K)|refine Q1 ?_|((with_reducible refine qW (T:=TT) (b:=?_) ?_ ?_);rotate_left;exact rfl)|((with_reducible refine yS ?_ ?_)<;>(intro h;try simp only [NM] at h)))
  refine AWP.mid ⟨48,[(5,.v (oI 0)),(7,.v (.one (.ref 7 0 acc.length))),(23,.v (.one (.sl 24 (l.map eStp)))),(24,.v (oI l.length)),(25,.v (oI k)),(10,.v (.one (.ptr 10 0))),(11,.v (oI (rE r0)))],[(10,eSch (sOut r0))],[(7,⟨3,acc.map eSch,[]⟩)]⟩ ?_ ?_
  ·refine dY tyOk mixed [(0,5)] (.cons 5 [(6,3)] [] (.cons 9 [] [(6,3)] (.cons 10 [(11,1)] [(8,1)] .leaf .none) .none) (.cons 9 [] [(0,5)] (.cons 5 [(6,3)] [] (.cons 10 [(11,1)] [(8,1)] .leaf .none) .none) .none)) [5,9,10] 8 fun K hK=>?_
   simp only [segt_leaf,segt_none,segt_cons,segs,List.drop_succ_cons,List.drop_zero,List.take_succ_cons,List.take_zero,List.getElem?_cons_zero,List.getElem?_cons_succ,List.cons_append,List.nil_append,List.append_nil] at hK ⊢
   simp -dsimp (disch:=first|exact D|fail) only [go_sem,↓reduceIte,seval,ga,eSch,Option.getD_none]
   repeat' (first|((first|((fail_if_success (refine AWP.isRegion 11 ?_));(with_reducible refine qV tyOk fun K hK=>?_))|refine Q2 ?_|((with_reducible first|refine qS ?_ ?_|refine qT ?_ ?_|refine qU ?_ ?_)<;>(intro h;try simp only [NM] at h))|((with_reducible refine CallJ.is ?_);(first|refine CallJ.pure (ev) ?_|((apply CallJ.lentI);(focus (simp -dsimp (disch:=first|exact D|fail) only [go_sem,↓reduceIte,seval,ga,eSch,eStp,Option.getD_none];rfl));(focus (first|exact (ev))))))|(with_reducible first|refine VCt.some fun K hK=>?_|refine VCt.step fun K hK=>?_))<;>simp -dsimp (disch:=first|exact D|fail) only [go_sem,↓reduceIte,seval,ga,eSch,eStp,Option.getD_none])|((with_reducible refine hK _ ?_);clear hK K)|(with_reducible refine VCt.intro fun K0 hK0=>?_)|((with_reducible refine VCt.fin ?_);(refine hK0 _ ?_);clear hK0 K0)|(with_reducible first|refine VCy.quiet ?_|refine VCt.none ?_)|((with_reducible refine VCy.keep ?_ ?_);focus ((simp -dsimp (disch:=first|exact D|fail) only [go_sem,↓reduceIte,seval,Stable_cons,Stable_nil,sameA_some,sameA_none,ga,eSch,eStp,Option.getD_none]);first|done|exact E|fail))|((with_reducible refine VCt.fork (fun K hK=>?_) ?_);(focus (simp -dsimp (disch:=first|exact D|fail) only [go_sem,↓reduceIte,seval,ga,eSch,eStp,Option.getD_none])))|refine Q1 ?_|((with_reducible refine qW (T:=TT) (b:=?_) ?_ ?_);rotate_left;exact rfl)|((with_reducible refine yS ?_ ?_)<;>(intro h;try simp only [NM] at h)))
   all_goals refine Gq.done ⟨rfl,?_⟩
   all_goals refine St.le_mk ?_ ?_ ?_<;>simp only [LE,EN,Nat.reduceEqDiff,reduceIte,Nat.reduceSub,eSch]
  cases r0 with
  | error e =>
   simp only at hkR
   subst hkR
   have he:=evoE_ne hv
   unfold lOut rE eSchs sOut
   simp only
   repeat' (first|((first|with_reducible refine qV tyOk fun K hK=>?_|refine Q2 ?_|((with_reducible first|refine qS ?_ ?_|refine qT ?_ ?_|refine qU ?_ ?_)<;>(intro h;try simp only [NM] at h)))<;>simp -dsimp (disch:=first|exact D|fail) only [go_sem,↓reduceIte,seval,eSch,he,Option.getD_none])|((with_reducible refine hK _ ?_);clear hK K)|refine Q1 ?_|((with_reducible refine qW (T:=TT) (b:=?_) ?_ ?_);rotate_left;exact rfl)|((with_reducible refine yS ?_ ?_)<;>(intro h;try simp only [NM] at h)))
   simp -dsimp (disch:=first|exact D|fail) only [retQ,Tryz.results45,resVals,cellRV,resOf,St.rest,St.freeze,RT,go_sem,↓reduceIte,seval]
  | ok u =>
   simp only at hkR
   unfold sOut rE
   simp only
   repeat' (first|((first|with_reducible refine qV tyOk fun K hK=>?_|refine Q2 ?_|((with_reducible first|refine qS ?_ ?_|refine qT ?_ ?_|refine qU ?_ ?_)<;>(intro h;try simp only [NM] at h)))<;>simp -dsimp (disch:=first|exact D|fail) only [go_sem,↓reduceIte,seval,eSch,Option.getD_none])|((with_reducible refine hK _ ?_);clear hK K)|refine Q1 ?_|((with_reducible refine qW (T:=TT) (b:=?_) ?_ ?_);rotate_left;exact rfl)|((with_reducible refine yS ?_ ?_)<;>(intro h;try simp only [NM] at h)))
   refine ⟨⟨(k+1,acc++[u]),by simp only;omega,by simp;omega,fun x hx=>by
    rcases List.mem_append.1 hx with hx|hx
    ·exact hkz x hx
    ·rw [List.mem_singleton.1 hx];exact evoE_ok hv,hkR⟩,by simp only;omega,?_⟩
   refine St.le_mk ?_ ?_ ?_<;>simp only [LE,EN,Nat.reduceEqDiff,reduceIte,Nat.reduceSub,eSch,List.map_append,List.map_cons,List.map_nil,List.length_append,List.length_cons,List.length_nil,Nat.zero_add]
 ·have hk:k=l.length:=by omega
  subst hk
  rw [List.drop_length,goS] at hkR
  subst hkR
  unfold lOut rE eSchs
  simp only
  repeat' (first|((first|with_reducible refine qV tyOk fun K hK=>?_|refine Q2 ?_|((with_reducible first|refine qS ?_ ?_|refine qT ?_ ?_|refine qU ?_ ?_)<;>(intro h;try simp only [NM] at h)))<;>simp -dsimp (disch:=first|exact D|fail) only [go_sem,↓reduceIte,seval])|((with_reducible refine hK _ ?_);clear hK K)|refine Q1 ?_|((with_reducible refine qW (T:=TT) (b:=?_) ?_ ?_);rotate_left;exact rfl)|((with_reducible refine yS ?_ ?_)<;>(intro h;try simp only [NM] at h)))
  simp -dsimp (disch:=first|exact D|fail) only [retQ,Tryz.results45,resVals,cellRV,resOf,St.rest,St.freeze,RT,go_sem,↓reduceIte,seval]
  rw [frz_eSch]
set_option maxHeartbeats 16000000 in
theorem scrApply_sat (s:Sch) (l:List Stp) (hs:s.Fits) (hl:l.length≤140737488355328) (hf:∀st∈l,st.Fits):Sat Tryz.prog 26 [.agg (eSch s),.one (eScr l)] (.tup [.agg (eSch (sOut (scrApply s l))),oI (rE (scrApply s l))]):=by
 have c1:=scrSchemas_sat s l hs hl hf
 unfold eScr at c1 ⊢
 cases hR:scrSchemas s l with
 | error e =>
  have spec:scrApply s l=.error e:=by unfold scrApply;rw [hR]
  have he:=scrSchemas_ne hR
  rw [hR] at c1
  rw [spec]
  unfold lOut rE eSchs at c1
  unfold sOut rE
  simp only at c1 ⊢
  refine sS tyOk Tryz.func26 fun w0 m0 F0=>?_
  simp only [Tryz.ntmps26,envOf,Nat.reduceAdd]
  repeat' (first|((first|with_reducible refine qV tyOk fun K hK=>?_|refine Q2 ?_|((with_reducible first|refine qS ?_ ?_|refine qT ?_ ?_|refine qU ?_ ?_)<;>(intro h;try simp only [NM] at h))|((with_reducible refine CallJ.is ?_);(first|refine CallJ.pure (c1) ?_|((apply CallJ.lentI);(focus (simp -dsimp (disch:=first|exact D|fail) only [go_sem,↓reduceIte,seval,eSch,he];rfl));(focus (first|exact (c1)))))))<;>simp -dsimp (disch:=first|exact D|fail) only [go_sem,↓reduceIte,seval,eSch,he])|((with_reducible refine hK _ ?_);clear hK K)|refine Q1 ?_|((with_reducible refine qW (T:=TT) (b:=?_) ?_ ?_);rotate_left;exact rfl)|((with_reducible refine yS ?_ ?_)<;>(intro h;try simp only [NM] at h)))
  simp -dsimp (disch:=first|exact D|fail) only [retQ,Tryz.results26,resVals,cellRV,resOf,St.rest,St.freeze,RT,go_sem,↓reduceIte,seval]
 | ok O =>
  have spec:scrApply s l=.ok (O.getD (O.length - 1) zSch):=by unfold scrApply;rw [hR]
  obtain ⟨_,lO⟩:=scrSchemas_ok hR
  rw [hR] at c1
  rw [spec]
  unfold lOut rE eSchs at c1
  unfold sOut rE
  simp only at c1 ⊢
  have gO:(O.map eSch).getD (O.length - 1) []=eSch (O.getD (O.length - 1) zSch):=by rw [getD_map_lt _ _ _ (by omega),getD_lt _ (by omega)]
  have w1:((O.length:Int) - 1).toNat=O.length - 1:=by omega
  refine sS tyOk Tryz.func26 fun w0 m0 F0=>?_
  simp only [Tryz.ntmps26,envOf,Nat.reduceAdd]
  repeat' (first|((first|with_reducible refine qV tyOk fun K hK=>?_|refine Q2 ?_|((with_reducible first|refine qS ?_ ?_|refine qT ?_ ?_|refine qU ?_ ?_)<;>(intro h;try simp only [NM] at h))|((with_reducible refine CallJ.is ?_);(first|refine CallJ.pure (c1) ?_|((apply CallJ.lentI);(focus (simp -dsimp (disch:=first|exact D|fail) only [go_sem,↓reduceIte,seval,eSch,gO,w1,Option.getD_none];rfl));(focus (first|exact (c1)))))))<;>simp -dsimp (disch:=first|exact D|fail) only [go_sem,↓reduceIte,seval,eSch,gO,w1,Option.getD_none])|((with_reducible refine hK _ ?_);clear hK K)|refine Q1 ?_|((with_reducible refine qW (T:=TT) (b:=?_) ?_ ?_);rotate_left;exact rfl)|((with_reducible refine yS ?_ ?_)<;>(intro h;try simp only [NM] at h)))
  simp -dsimp (disch:=first|exact D|fail) only [retQ,Tryz.results26,resVals,cellRV,resOf,St.rest,St.freeze,RT,go_sem,↓reduceIte,seval]
end Go.Bw
