/-
  WHAT IS PROVED HERE, of this translation: unused_satX, removeTable_satM, dropTable_satM, mergeTables_satM.
  A theorem that ends in sat says what the function it names returns, whatever the state it is called in; the bounds on its arguments stand ahead of it.
-/
import Derived.Test.YtjjnchbfjbjemaaGreatVj
import Derived.Test.YtjjnchbfjbjemaaGreatVk
import Derived.Test.YtjjnchbfjbjemaaGreatVl
set_option linter.unusedSimpArgs false
set_option linter.unusedVariables false
namespace Go.Bw
open Go.Proofs
attribute [local go_sem ↓] VOps_nil VOps_cons VOp_callJ VVal_callH VOps_guard GOn_tt GOn_ff GOn_tf GOn_ft GOn_not GOn_none HOn_none HOn_tt HOn_ff HOn_tf HOn_ft HOn_not VHead_nil VHead_cons VHead_guard VVal_move VVal_assign VVal_pickE pickK_true pickK_false VVal_not VVal_neg negK_int VVal_load loadK_fz loadK_ptr loadK_eptr VVal_fieldAddr VVal_field VVal_indexAddr idxK_sl idxK_ref VVal_index indexK_str VVal_extract VVal_binOp binK_one binK_agg VVal_build VVal_buildSlice VVal_makeFunc VVal_slice sliceK_str sliceK_sl sliceK_nil sliceK_ref VVal_slice3 VVal_nilCheck VVal_convert convKk_int convKk_str VVal_len VVal_max VVal_min VOp_assign assignK_int assignK_bool assignK_str assignK_clo assignK_sl assignK_nil assignK_ref assignK_agg assignK_fz assignK_ptr assignK_eptr assignK_any VOp_box VOp_alloc VOp_store storeK_ptr storeK_eptr VOp_buildSlice VOp_append appK_rr appK_rs appK_rn appK_ri appK_nr appK_ns appK_nn appK_ni appStd_eq VOp_copy copyK_ref VOp_clear clearK_ref VOp_cap VOp_eqNil VOp_move VOp_pick VOp_not VOp_neg VOp_load VOp_fieldAddr VOp_field VOp_indexAddr VOp_index VOp_extract VOp_binTmp VOp_binInt VOp_binStr VOp_binPtr VOp_build VOp_makeFunc VOp_slice VOp_nilCheck VOp_convert VOp_len VOp_max VOp_min mO_some mT_some pk_some pk_none look_cons del_cons
attribute [local go_sem] guardB gOf int_bne beq_true beq_false Bool.not_not gSlot pickK_true pickK_false negK_int loadK_fz loadK_ptr loadK_eptr idxK_sl idxK_ref indexK_str binK_one binK_agg sliceK_str sliceK_sl sliceK_nil sliceK_ref convKk_int convKk_str maxL minL assignK_int assignK_bool assignK_str assignK_clo assignK_sl assignK_nil assignK_ref assignK_agg assignK_fz assignK_ptr assignK_eptr assignK_any nilRow_eq takeRow_eq appended_eq storeK_ptr storeK_eptr store_mk appIn_eq appMk_eq marked_eq ovOut_nil ovOut_cons ovIn_nil ovIn_cons padRow_eq ysC capK_nil capK_ref ioSt_mk outB_nil outR_nil outB outR inB_nil inB_cons inR_nil inR_cons L.kl L.kl0 L.ids L.ids0 Option.getD_some evalO constA mO_some mT_some put_mk putO_some putO_none okD_some okD_none pk_some pk_none look_nil del_nil sput noBox_mk noRow_mk newBox_eq newRow0_eq St.killRow RowC.kill rowMap_mk rowOf ovAll ovAdd ovDel ovGet ovShift dstOf ysOf overlay_nil overlay_nil' overlay A.map V.map L.noPtr L.noPtr0 L.noRow L.noRow0 L.peek L.norm L.flat clos_int clos_bool clos_str clos_sl clos_nil clos_any clos_fz L.clos L.isFz L.kd moveL fieldOff eqCells eqCell eqOp oneOf boolOf intOfA tupOf vOf aggOf isPtrLike isSlice lenKind lenL nL elemTI loadV asV binL intBin intDivL shrL boolBin strBin strAdd ptrNil boundN partCells fillL placesOf setL chunks repL capsOf capL callOf argsOf frzV_int frzV_bool frzV_str frzV_sl frzV_nil frzV_fz frzV_any frzV_own frzV_clo frzV_ref frzV_eptr frzV_ptr frzRow_nil frzRow_ov frzRs_nil frzRs_cons frzCs_nil frzCs_cons frzO_some frzO_none frzN_int frzN_bool frzN_str frzN_sl frzN_nil frzN_any frzN_own List.map_cons List.map_nil List.cons_append List.nil_append List.append_nil List.length_cons List.length_nil List.length_map List.length_append List.headD_cons List.tail_cons List.getElem?_cons_zero List.getElem?_cons_succ List.drop_zero List.drop_succ_cons List.drop_nil List.take_succ_cons List.take_zero List.take_nil List.take_length List.filter_cons List.filter_nil List.elem_cons List.elem_nil List.all_cons List.all_nil Option.bind_some Option.map_some Option.some.injEq bne_self_eq_false beq_self_eq_true if_true if_false Bool.false_eq_true true_and and_true and_self Nat.zero_add Nat.add_zero Nat.zero_le Int.toNat_natCast Int.toNat_zero Option.isSome_some List.getElem?_toArray decide_true decide_false ge_iff_le gt_iff_lt Bool.not_true Bool.not_false Nat.le_refl Bool.and_true Bool.true_and Bool.and_false Bool.false_and eVal eRow eRow1 eRows eInt1 eInts eCol eCols eTbl eTbls eFK eFKs eCon eCons eSch eRel eInst eChg eChgs szOf getD_map_lt wrap_nat wrap_in List.take_of_length_le frz_eVal frz_eRow1 frz_eInt1 frz_eCol frz_eTbl frz_eFK frz_eCon frz_eRel frz_eChg noOwn_nil noOwn_cons noOwn_append L.isOwn noOwn_eVal noOwn_eRow1 noOwn_eInt1 noOwn_eCol noOwn_eTbl noOwn_eFK noOwn_eCon noOwn_eRel noOwn_eChg convK_2 convK_3 convK_5 convK_12 convK_21 convK_32 convK_95 convK_119 convK_122 convK_152 convK_169 TT_2 TT_3 TT_4 TT_5 TT_9 TT_12 TT_13 TT_21 TT_22 TT_23 TT_24 TT_25 TT_26 TT_27 TT_28 TT_29 TT_31 TT_32 TT_36 TT_37 TT_42 TT_43 TT_44 TT_48 TT_49 TT_56 TT_61 TT_72 TT_73 TT_74 TT_85 TT_86 TT_89 TT_90 TT_91 TT_92 TT_95 TT_98 TT_113 TT_114 TT_116 TT_117 TT_119 TT_122 TT_145 TT_152 TT_169 boolTy_4 eqK_37 eqK_90 eqK_92 eqK_114
attribute [local congr] VOps.congr VHead.congr VOp.congr VVal.congr pk.congr assignK.congr appK.congr appStd.congr copyK.congr clearK.congr storeK.congr loadK.congr idxK.congr sliceK.congr indexK.congr binK.congr convKk.congr
set_option maxHeartbeats 8000000 in
theorem unused_satX (X:List (List L)) (s:Sch) (t:Tbl) (c:Int) (h1:t.pk.length≤140737488355328) (h2:s.fks.length≤140737488355328) (h3:∀f∈s.fks,f.cols.length≤140737488355328) (h4:s.cons.length≤140737488355328) :
  Sat Tryz.prog 133 [.agg [.sl 3 X,eFKs s.fks,eCons s.cons],.agg (eTbl t),oI c] (.v (oI (unusedE s t c))):=by
 have c1:=containsInt_sat t.pk c h1
 have c2:=containsFFK_sat s.fks 146 [.fz (eTbl t),.fz [.int .i64 c]] _ h2 fun f hf=>unused1_sat f t c (h3 f hf)
 have c3:=containsFCon_sat s.cons 148 [.fz (eTbl t),.fz [.int .i64 c]] _ h4 fun k hk=>unused2_sat k t c
 unfold unusedE
 generalize t.pk.elem c=x at c1 ⊢
 generalize (s.fks.any fun f=>sEq f.table t.name&&f.cols.elem c)=y at c2 ⊢
 generalize (s.cons.any fun k=>sEq k.table t.name&&(k.left==c||k.right==c))=z at c3 ⊢
 refine sS tyOk Tryz.func133 fun w0 m0 F0=>?_
 simp only [Tryz.ntmps133,envOf,Nat.reduceAdd]
 repeat' (first|((first|with_reducible refine qV tyOk fun K hK=>?_|((with_reducible refine CallJ.is ?_);(first|refine CallJ.pure (c1) ?_|((apply CallJ.lentI);(focus (simp -dsimp (disch:=first|exact D|fail) only [go_sem,↓reduceIte,seval];rfl));(focus (first|exact (c1)|exact (c2)|exact (c3)))))))<;>simp -dsimp (disch:=first|exact D|fail) only [go_sem,↓reduceIte,seval])|((with_reducible refine hK _ ?_);clear hK K)|refine Q1 ?_|((with_reducible refine qW (T:=TT) (b:=?_) ?_ ?_);rotate_left;exact rfl)|((with_reducible refine yS ?_ ?_)<;>(intro h;try simp only [NM] at h))|fail)
 all_goals simp -dsimp (disch:=first|exact D|fail) only [retQ,Tryz.results133,resVals,cellRV,resOf,St.rest,St.freeze,RT,go_sem,↓reduceIte,seval]
 all_goals simp_all
set_option maxHeartbeats 16000000 in
theorem removeTable_satM (s:Sch) (name:ByteArray) (h1:s.tables.length≤1048576) (h2:s.fks.length≤1048576) (h3:s.cons.length≤1048576) :
  SatM Tryz.prog 131 [.one (.ptr 1000 0),oS name] (iB s) (fR s) (.tup []) (oB1 (removeT s name)) (oR1 (removeT s name)):=by
 have d1:=deleteFuncTbls_satM s.tables 141 (.str name) _ (fun t _=>rm1_sat t name) h1
 have d2:=deleteFuncFKs_satM s.fks 143 (.str name) _ (fun t _=>rm2_sat t name) h2
 have d3:=deleteFuncCons_satM s.cons 145 (.str name) _ (fun t _=>rm3_sat t name) h3
 unfold iB fR oB1 oR1 removeT
 simp only
 generalize hA:(s.tables.filter fun t=>!sEq t.name name)=A at d1 ⊢
 generalize hB:(s.fks.filter fun t=>!sEq t.table name)=B at d2 ⊢
 generalize hC:(s.cons.filter fun t=>!sEq t.table name)=C at d3 ⊢
 refine sM tyOk [1000] [1,2,3] Tryz.func131 fun w0 m0 F0=>?_
 simp only [Tryz.ntmps131,envOf,Nat.reduceAdd]
 refine AWP.gq ?_
 repeat' (first|((((fail_if_success (refine AWP.isRegion 1 ?_));(with_reducible refine qV tyOk fun K hK=>?_)))<;>simp -dsimp (disch:=first|exact D|fail) only [go_sem,↓reduceIte,seval])|((with_reducible refine hK _ ?_);clear hK K)|refine Q1 ?_|fail)
 refine AWP.frz [1000] [1000,1001,1002] ?_
 simp -dsimp (disch:=first|exact D|fail) only [go_sem,↓reduceIte,seval,RT,St.rest,St.freeze]
 repeat' (first|((first|with_reducible refine qV tyOk fun K hK=>?_|((with_reducible refine CallJ.is ?_);refine CallJ.io [] [(1000,1000)] [] [(4,10)] [] [1000,10] [] [1000,10] (d1) rfl ⟨rfl,rfl,rfl,rfl⟩ ?_ ?_ ?_)|((with_reducible refine CallJ.is ?_);refine CallJ.io [] [(1000,1001)] [] [(4,19)] [] [1001,19] [] [1001,19] (d2) rfl ⟨rfl,rfl,rfl,rfl⟩ ?_ ?_ ?_)|((with_reducible refine CallJ.is ?_);refine CallJ.io [] [(1000,1002)] [] [(4,28)] [] [1002,28] [] [1002,28] (d3) rfl ⟨rfl,rfl,rfl,rfl⟩ ?_ ?_ ?_))<;>simp -dsimp (disch:=first|exact D|fail) only [go_sem,↓reduceIte,seval,Option.getD_none,dropL_nil,dropL_nil',dropL_cons])|((with_reducible refine hK _ ?_);clear hK K)|refine Q1 ?_|fail)
 refine Gq.cutR 10 (A.length) rfl rfl (by simp) ?_
 simp -dsimp (disch:=first|exact D|fail) only [go_sem,↓reduceIte,seval]
 refine Gq.cutR 19 (B.length) rfl rfl (by simp) ?_
 simp -dsimp (disch:=first|exact D|fail) only [go_sem,↓reduceIte,seval]
 refine Gq.cutR 28 (C.length) rfl rfl (by simp) ?_
 simp -dsimp (disch:=first|exact D|fail) only [go_sem,↓reduceIte,seval]
 refine Gq.renR 10 1 rfl rfl (by decide) (.inl (Nat.le_of_ble_eq_true rfl)) ?_
 simp -dsimp (disch:=first|exact D|fail) only [go_sem,↓reduceIte,seval,renR_mk,L.ren,L.ren0]
 refine Gq.renR 19 2 rfl rfl (by decide) (.inl (Nat.le_of_ble_eq_true rfl)) ?_
 simp -dsimp (disch:=first|exact D|fail) only [go_sem,↓reduceIte,seval,renR_mk,L.ren,L.ren0]
 refine Gq.renR 28 3 rfl rfl (by decide) (.inl (Nat.le_of_ble_eq_true rfl)) ?_
 simp -dsimp (disch:=first|exact D|fail) only [go_sem,↓reduceIte,seval,renR_mk,L.ren,L.ren0]
 refine Gq.done ?_
 simp -dsimp (disch:=first|exact D|fail) only [retQ,Tryz.results131,resVals,cellRV,resOf,St.rest,St.freeze,RT,go_sem,↓reduceIte,seval]
 rw [List.take_left' (by simp),List.take_left' (by simp),List.take_left' (by simp)]
 exact ⟨rfl,rfl,rfl⟩
set_option maxHeartbeats 16000000 in
theorem dropTable_satM (s:Sch) (name:ByteArray) (h1:s.tables.length≤1048576) (h2:s.fks.length≤1048576) (h3:s.cons.length≤1048576) :
  SatM Tryz.prog 103 [.one (.ptr 1000 0),oS name] (iB s) (iR s) (.v (oI (rE (dropT s name)))) (oBE (dropT s name)) (oRE (dropT s name)):=by
 have cf:=containsFFK_sat s.fks 132 [.fz [.str name]] _ (by omega) fun t _=>drop1_sat t name
 have rm:=removeTable_satM s name h1 h2 h3
 unfold dropT
 cases hx:(s.fks.any fun f=>sEq f.ref name&&!sEq f.table name) with
 | true =>
  rw [hx] at cf
  rw [if_pos rfl]
  unfold iB iR oBE oRE rE
  simp only
  refine sM tyOk [1000] [1,2,3] Tryz.func103 fun w0 m0 F0=>?_
  simp only [Tryz.ntmps103,envOf,Nat.reduceAdd]
  refine AWP.frzR 1000 rfl ?_
  simp -dsimp (disch:=first|exact D|fail) only [go_sem,↓reduceIte,seval,frzR_mk,frzTblO,frzFKO]
  refine AWP.frzR 1001 rfl ?_
  simp -dsimp (disch:=first|exact D|fail) only [go_sem,↓reduceIte,seval,frzR_mk,frzTblO,frzFKO]
  repeat' (first|((first|with_reducible refine qV tyOk fun K hK=>?_|((with_reducible refine CallJ.is ?_);(((apply CallJ.lentI);(focus (simp -dsimp (disch:=first|exact D|fail) only [go_sem,↓reduceIte,seval];rfl));(focus (first|exact (cf)))))))<;>simp -dsimp (disch:=first|exact D|fail) only [go_sem,↓reduceIte,seval])|((with_reducible refine hK _ ?_);clear hK K)|refine Q1 ?_|((with_reducible refine qW (T:=TT) (b:=?_) ?_ ?_);rotate_left;exact rfl)|fail)
  simp -dsimp (disch:=first|exact D|fail) only [retQ,Tryz.results103,resVals,cellRV,resOf,St.rest,St.freeze,RT,go_sem,↓reduceIte,seval]
 | false =>
  rw [hx] at cf
  rw [if_neg (by simp)]
  unfold iB fR oB1 oR1 at rm
  unfold iB iR oBE oRE oB1 oR1 rE
  simp only
  refine sM tyOk [1000] [1,2,3] Tryz.func103 fun w0 m0 F0=>?_
  simp only [Tryz.ntmps103,envOf,Nat.reduceAdd]
  refine AWP.frzR 1000 rfl ?_
  simp -dsimp (disch:=first|exact D|fail) only [go_sem,↓reduceIte,seval,frzR_mk,frzTblO,frzFKO]
  refine AWP.frzR 1001 rfl ?_
  simp -dsimp (disch:=first|exact D|fail) only [go_sem,↓reduceIte,seval,frzR_mk,frzTblO,frzFKO]
  repeat' (first|((first|with_reducible refine qV tyOk fun K hK=>?_|((with_reducible refine CallJ.is ?_);refine CallJ.io [(1000,1000)] [(1000,1000),(1001,1001),(1002,1002)] [(1000,1000)] [(1,1),(2,2),(3,3)] [] [1000,1001,1002,1,2,3] [1000,1000] [1000,1001,1002,1,2,3] (rm) rfl ⟨rfl,rfl,rfl,rfl⟩ ?_ ?_ ?_)|((with_reducible refine CallJ.is ?_);(((apply CallJ.lentI);(focus (simp -dsimp (disch:=first|exact D|fail) only [go_sem,↓reduceIte,seval,okIds_ref,dropL_nil,dropL_nil',dropL_cons];rfl));(focus (first|exact (cf)))))))<;>simp -dsimp (disch:=first|exact D|fail) only [go_sem,↓reduceIte,seval,okIds_ref,dropL_nil,dropL_nil',dropL_cons])|((with_reducible refine hK _ ?_);clear hK K)|refine Q1 ?_|((with_reducible refine qW (T:=TT) (b:=?_) ?_ ?_);rotate_left;exact rfl)|fail)
  simp -dsimp (disch:=first|exact D|fail) only [retQ,Tryz.results103,resVals,cellRV,resOf,St.rest,St.freeze,RT,go_sem,↓reduceIte,seval]
set_option maxHeartbeats 32000000 in
theorem mergeTables_satM (s:Sch) (i:Nat) (st:Stp) (hi:i<s.tables.length) (sm:SmallS s) :
  SatM Tryz.prog 102 [.one (.ptr 1000 0),oI i,.agg (eStp st)] (iB s) (iR s) (.v (oI (rE (mergeT s i st)))) (oBE (mergeT s i st)) (oRE (mergeT s i st)):=by
 have b1:=sm.tables
 have b2:=sm.table s.tables[i] (List.getElem_mem hi)
 have b3:=sm.fks
 have b4:=sm.cons
 have b5:∀f∈s.fks,f.cols.length≤1048576:=fun f hf=>by have:=(sm.fk f hf).1;omega
 obtain ⟨t,ht⟩:∃t,s.tables[i]=t:=⟨_,rfl⟩
 have htA:tAt s i=t:=by unfold tAt;rw [getD_lt _ hi,ht]
 rw [ht] at b2
 obtain ⟨b6,b7,_⟩:=b2
 have e0:s.tables.map eTblO=rowT s.tables i t:=by unfold rowT;rw [←ht,List.set_getElem_self]
 have ef:frzXs (rowT s.tables i t)=s.tables.map eTbl:=by rw [←e0];exact frzTblO _
 have fs:=findTable_sat s st.other (by omega)
 have lm:(s.tables.map eTbl).length=s.tables.length:=List.length_map ..
 have gi:(s.tables.map eTbl).getD i []=eTbl t:=by rw [getD_map_lt _ _ _ hi,ht]
 rcases idx_cases (fun u=>sEq u.name st.other) s.tables 0 with ⟨e1,_⟩|⟨j,hj,e1,_,_⟩
 ·have e1:tblAt s.tables st.other=-1:=e1
  rw [e1,mx0_neg] at fs
  have spec:mergeT s i st=.error 4:=by unfold mergeT;simp only [e1];rfl
  rw [spec]
  unfold iB iR oBE oRE rE
  simp only
  refine sM tyOk [1000] [1,2,3] Tryz.func102 fun w0 m0 F0=>?_
  simp only [Tryz.ntmps102,envOf,Nat.reduceAdd]
  refine AWP.frzR 1000 rfl ?_
  simp -dsimp (disch:=first|exact D|fail) only [go_sem,↓reduceIte,seval,frzR_mk,frzTblO,frzFKO]
  refine AWP.frzR 1001 rfl ?_
  simp -dsimp (disch:=first|exact D|fail) only [go_sem,↓reduceIte,seval,frzR_mk,frzTblO,frzFKO]
  repeat' (first|((first|with_reducible refine qV tyOk fun K hK=>?_|(refine AWP.isRegion 1 ?_;refine dX tyOk mixed [(0,5)] [(5,[(6,5)],[])] [5] 8 fun K hK=>?_;simp only [SG,segs] at hK ⊢)|((with_reducible refine CallJ.is ?_);(((apply CallJ.lentI);(focus (simp -dsimp (disch:=first|exact D|fail) only [go_sem,↓reduceIte,seval,eStp,Option.getD_none];rfl));(focus (first|exact (fs))))))|(with_reducible first|refine VCy.some fun K hK=>?_|refine VCy.step fun K hK=>?_))<;>simp -dsimp (disch:=first|exact D|fail) only [go_sem,↓reduceIte,seval,eStp,Option.getD_none])|((with_reducible refine hK _ ?_);clear hK K)|(with_reducible refine VCy.intro fun K0 hK0=>?_)|((with_reducible refine VCy.fin ?_);(refine hK0 _ ?_);clear hK0 K0)|(with_reducible refine VCy.quiet ?_)|refine Q1 ?_|((with_reducible refine qW (T:=TT) (b:=?_) ?_ ?_);rotate_left;exact rfl)|fail)
  simp -dsimp (disch:=first|exact D|fail) only [retQ,Tryz.results102,resVals,cellRV,resOf,St.rest,St.freeze,RT,go_sem,↓reduceIte,seval]
 have e1:tblAt s.tables st.other=(j:Int):=by unfold tblAt;simpa using e1
 rw [e1,mx0_nat] at fs
 have j0:¬ (j:Int)<0:=by omega
 obtain ⟨o,ho⟩:∃o,s.tables[j]=o:=⟨_,rfl⟩
 have hoA:tAt s j=o:=by unfold tAt;rw [getD_lt _ hj,ho]
 have gj:(s.tables.map eTbl).getD j []=eTbl o:=by rw [getD_map_lt _ _ _ hj,ho]
 have b8:=sm.table s.tables[j] (List.getElem_mem hj)
 rw [ho] at b8
 by_cases hij:i=j
 ·subst hij
  have spec:mergeT s i st=.error 7:=by
   unfold mergeT
   simp only [e1,if_neg j0,Int.toNat_natCast]
   rw [if_pos (.inl trivial)]
  rw [spec]
  unfold iB iR oBE oRE rE
  simp only
  refine sM tyOk [1000] [1,2,3] Tryz.func102 fun w0 m0 F0=>?_
  simp only [Tryz.ntmps102,envOf,Nat.reduceAdd]
  refine AWP.frzR 1000 rfl ?_
  simp -dsimp (disch:=first|exact D|fail) only [go_sem,↓reduceIte,seval,frzR_mk,frzTblO,frzFKO]
  refine AWP.frzR 1001 rfl ?_
  simp -dsimp (disch:=first|exact D|fail) only [go_sem,↓reduceIte,seval,frzR_mk,frzTblO,frzFKO]
  repeat' (first|((first|((fail_if_success (refine AWP.isRegion 4 ?_));(with_reducible refine qV tyOk fun K hK=>?_))|(refine AWP.isRegion 1 ?_;refine dX tyOk mixed [(0,5)] [(5,[(6,5)],[])] [5] 8 fun K hK=>?_;simp only [SG,segs] at hK ⊢)|((with_reducible refine CallJ.is ?_);(((apply CallJ.lentI);(focus (simp -dsimp (disch:=first|exact D|fail) only [go_sem,↓reduceIte,seval,eStp,Option.getD_none,gi,lm];rfl));(focus (first|exact (fs))))))|(with_reducible first|refine VCy.some fun K hK=>?_|refine VCy.step fun K hK=>?_))<;>simp -dsimp (disch:=first|exact D|fail) only [go_sem,↓reduceIte,seval,eStp,Option.getD_none,gi,lm])|((with_reducible refine hK _ ?_);clear hK K)|(with_reducible refine VCy.intro fun K0 hK0=>?_)|((with_reducible refine VCy.fin ?_);(refine hK0 _ ?_);clear hK0 K0)|(with_reducible refine VCy.quiet ?_)|refine Q1 ?_|((with_reducible refine qW (T:=TT) (b:=?_) ?_ ?_);rotate_left;exact rfl)|fail)
  refine dY tyOk mixed [(0,14)] (.cons 14 [] [(0,14)] (.cons 15 [] [(0,14)] (.cons 16 [] [(7,7)] (.cons 17 [] [] .leaf .none) .none) .none) (.cons 15 [] [(0,14)] (.cons 14 [] [(0,14)] (.cons 16 [] [(7,7)] (.cons 17 [] [] .leaf .none) .none) .none) .none)) [14,15,16,17] 8 fun K hK=>?_
  simp only [segt_leaf,segt_none,segt_cons,segs,List.drop_succ_cons,List.drop_zero,List.take_succ_cons,List.take_zero,List.getElem?_cons_zero,List.getElem?_cons_succ,List.cons_append,List.nil_append,List.append_nil] at hK ⊢
  simp -dsimp (disch:=first|exact D|fail) only [go_sem,↓reduceIte,seval,eStp,Option.getD_none,gi,lm]
  repeat' (first|((first|with_reducible refine qV tyOk fun K hK=>?_|(with_reducible refine VCt.step fun K hK=>?_))<;>simp -dsimp (disch:=first|exact D|fail) only [go_sem,↓reduceIte,seval,eStp,Option.getD_none,gi,lm])|((with_reducible refine hK _ ?_);clear hK K)|(with_reducible refine VCt.intro fun K0 hK0=>?_)|((with_reducible refine VCt.fin ?_);(refine hK0 _ ?_);clear hK0 K0)|(with_reducible first|refine VCy.quiet ?_|refine VCt.none ?_)|((with_reducible refine VCy.keep ?_ ?_);focus ((simp -dsimp (disch:=first|exact D|fail) only [go_sem,↓reduceIte,seval,Stable_cons,Stable_nil,sameA_some,sameA_none,eStp,Option.getD_none,gi,lm]);first|done|exact E|fail))|((with_reducible refine VCt.fork (fun K hK=>?_) ?_);(focus (simp -dsimp (disch:=first|exact D|fail) only [go_sem,↓reduceIte,seval,eStp,Option.getD_none,gi,lm])))|refine Q1 ?_|((with_reducible refine qW (T:=TT) (b:=?_) ?_ ?_);rotate_left;exact rfl)|fail)
  all_goals simp -dsimp (disch:=first|exact D|fail) only [retQ,Tryz.results102,resVals,cellRV,resOf,St.rest,St.freeze,RT,go_sem,↓reduceIte,seval]
 have hij':¬ (i:Int)=(j:Int):=by omega
 have ec:=equalCols_sat t.cols o.cols (by omega) (by omega)
 have ep:=equalInts_sat t.pk o.pk (by omega)
 by_cases hd:t.cols=o.cols∧t.pk=o.pk
 case neg =>
  have spec:mergeT s i st=.error 7:=by
   unfold mergeT
   simp only [e1,if_neg j0,Int.toNat_natCast,htA,hoA]
   rw [if_pos]
   by_cases q:t.cols=o.cols
   ·exact .inr (.inr fun q2=>hd ⟨q,q2⟩)
   ·exact .inr (.inl q)
  rw [spec]
  unfold iB iR oBE oRE rE
  simp only
  by_cases q:t.cols=o.cols
  ·have q2:¬ t.pk=o.pk:=fun q2=>hd ⟨q,q2⟩
   rw [decide_eq_true q] at ec
   rw [decide_eq_false q2] at ep
   refine sM tyOk [1000] [1,2,3] Tryz.func102 fun w0 m0 F0=>?_
   simp only [Tryz.ntmps102,envOf,Nat.reduceAdd]
   refine AWP.frzR 1000 rfl ?_
   simp -dsimp (disch:=first|exact D|fail) only [go_sem,↓reduceIte,seval,frzR_mk,frzTblO,frzFKO]
   refine AWP.frzR 1001 rfl ?_
   simp -dsimp (disch:=first|exact D|fail) only [go_sem,↓reduceIte,seval,frzR_mk,frzTblO,frzFKO]
   repeat' (first|((first|((fail_if_success (refine AWP.isRegion 4 ?_));(with_reducible refine qV tyOk fun K hK=>?_))|(refine AWP.isRegion 1 ?_;refine dX tyOk mixed [(0,5)] [(5,[(6,5)],[])] [5] 8 fun K hK=>?_;simp only [SG,segs] at hK ⊢)|((with_reducible refine CallJ.is ?_);(((apply CallJ.lentI);(focus (simp -dsimp (disch:=first|exact D|fail) only [go_sem,↓reduceIte,seval,eStp,Option.getD_none,gi,gj,lm,hij'];rfl));(focus (first|exact (fs))))))|(with_reducible first|refine VCy.some fun K hK=>?_|refine VCy.step fun K hK=>?_))<;>simp -dsimp (disch:=first|exact D|fail) only [go_sem,↓reduceIte,seval,eStp,Option.getD_none,gi,gj,lm,hij'])|((with_reducible refine hK _ ?_);clear hK K)|(with_reducible refine VCy.intro fun K0 hK0=>?_)|((with_reducible refine VCy.fin ?_);(refine hK0 _ ?_);clear hK0 K0)|(with_reducible refine VCy.quiet ?_)|refine Q1 ?_|((with_reducible refine qW (T:=TT) (b:=?_) ?_ ?_);rotate_left;exact rfl)|fail)
   refine dY tyOk mixed [(0,14)] (.cons 14 [] [(0,14)] (.cons 15 [] [(0,14)] (.cons 16 [] [(7,7)] (.cons 17 [] [] .leaf .none) .none) .none) (.cons 15 [] [(0,14)] (.cons 14 [] [(0,14)] (.cons 16 [] [(7,7)] (.cons 17 [] [] .leaf .none) .none) .none) .none)) [14,15,16,17] 8 fun K hK=>?_
   simp only [segt_leaf,segt_none,segt_cons,segs,List.drop_succ_cons,List.drop_zero,List.take_succ_cons,List.take_zero,List.getElem?_cons_zero,List.getElem?_cons_succ,List.cons_append,List.nil_append,List.append_nil] at hK ⊢
   simp -dsimp (disch:=first|exact D|fail) only [go_sem,↓reduceIte,seval,eStp,Option.getD_none,gi,gj,lm,hij']
   repeat' (first|((first|with_reducible refine qV tyOk fun K hK=>?_|refine Q2 ?_|((with_reducible refine CallJ.is ?_);(first|refine CallJ.pure (ec) ?_|refine CallJ.pure (ep) ?_))|(with_reducible refine VCt.step fun K hK=>?_))<;>simp -dsimp (disch:=first|exact D|fail) only [go_sem,↓reduceIte,seval,eStp,Option.getD_none,gi,gj,lm,hij'])|((with_reducible refine hK _ ?_);clear hK K)|(with_reducible refine VCt.intro fun K0 hK0=>?_)|((with_reducible refine VCt.fin ?_);(refine hK0 _ ?_);clear hK0 K0)|(with_reducible first|refine VCy.quiet ?_|refine VCt.none ?_)|((with_reducible refine VCy.keep ?_ ?_);focus ((simp -dsimp (disch:=first|exact D|fail) only [go_sem,↓reduceIte,seval,Stable_cons,Stable_nil,sameA_some,sameA_none,eStp,Option.getD_none,gi,gj,lm,hij']);first|done|exact E|fail))|((with_reducible refine VCt.fork (fun K hK=>?_) ?_);(focus (simp -dsimp (disch:=first|exact D|fail) only [go_sem,↓reduceIte,seval,eStp,Option.getD_none,gi,gj,lm,hij'])))|refine Q1 ?_|((with_reducible refine qW (T:=TT) (b:=?_) ?_ ?_);rotate_left;exact rfl)|fail)
   all_goals simp -dsimp (disch:=first|exact D|fail) only [retQ,Tryz.results102,resVals,cellRV,resOf,St.rest,St.freeze,RT,go_sem,↓reduceIte,seval]
  ·rw [decide_eq_false q] at ec
   refine sM tyOk [1000] [1,2,3] Tryz.func102 fun w0 m0 F0=>?_
   simp only [Tryz.ntmps102,envOf,Nat.reduceAdd]
   refine AWP.frzR 1000 rfl ?_
   simp -dsimp (disch:=first|exact D|fail) only [go_sem,↓reduceIte,seval,frzR_mk,frzTblO,frzFKO]
   refine AWP.frzR 1001 rfl ?_
   simp -dsimp (disch:=first|exact D|fail) only [go_sem,↓reduceIte,seval,frzR_mk,frzTblO,frzFKO]
   repeat' (first|((first|((fail_if_success (refine AWP.isRegion 4 ?_));(with_reducible refine qV tyOk fun K hK=>?_))|(refine AWP.isRegion 1 ?_;refine dX tyOk mixed [(0,5)] [(5,[(6,5)],[])] [5] 8 fun K hK=>?_;simp only [SG,segs] at hK ⊢)|((with_reducible refine CallJ.is ?_);(((apply CallJ.lentI);(focus (simp -dsimp (disch:=first|exact D|fail) only [go_sem,↓reduceIte,seval,eStp,Option.getD_none,gi,gj,lm,hij'];rfl));(focus (first|exact (fs))))))|(with_reducible first|refine VCy.some fun K hK=>?_|refine VCy.step fun K hK=>?_))<;>simp -dsimp (disch:=first|exact D|fail) only [go_sem,↓reduceIte,seval,eStp,Option.getD_none,gi,gj,lm,hij'])|((with_reducible refine hK _ ?_);clear hK K)|(with_reducible refine VCy.intro fun K0 hK0=>?_)|((with_reducible refine VCy.fin ?_);(refine hK0 _ ?_);clear hK0 K0)|(with_reducible refine VCy.quiet ?_)|refine Q1 ?_|((with_reducible refine qW (T:=TT) (b:=?_) ?_ ?_);rotate_left;exact rfl)|fail)
   refine dY tyOk mixed [(0,14)] (.cons 14 [] [(0,14)] (.cons 15 [] [(0,14)] (.cons 16 [] [(7,7)] (.cons 17 [] [] .leaf .none) .none) .none) (.cons 15 [] [(0,14)] (.cons 14 [] [(0,14)] (.cons 16 [] [(7,7)] (.cons 17 [] [] .leaf .none) .none) .none) .none)) [14,15,16,17] 8 fun K hK=>?_
   simp only [segt_leaf,segt_none,segt_cons,segs,List.drop_succ_cons,List.drop_zero,List.take_succ_cons,List.take_zero,List.getElem?_cons_zero,List.getElem?_cons_succ,List.cons_append,List.nil_append,List.append_nil] at hK ⊢
   simp -dsimp (disch:=first|exact D|fail) only [go_sem,↓reduceIte,seval,eStp,Option.getD_none,gi,gj,lm,hij']
   repeat' (first|((first|with_reducible refine qV tyOk fun K hK=>?_|refine Q2 ?_|((with_reducible refine CallJ.is ?_);(refine CallJ.pure (ec) ?_))|(with_reducible refine VCt.step fun K hK=>?_))<;>simp -dsimp (disch:=first|exact D|fail) only [go_sem,↓reduceIte,seval,eStp,Option.getD_none,gi,gj,lm,hij'])|((with_reducible refine hK _ ?_);clear hK K)|(with_reducible refine VCt.intro fun K0 hK0=>?_)|((with_reducible refine VCt.fin ?_);(refine hK0 _ ?_);clear hK0 K0)|(with_reducible first|refine VCy.quiet ?_|refine VCt.none ?_)|((with_reducible refine VCy.keep ?_ ?_);focus ((simp -dsimp (disch:=first|exact D|fail) only [go_sem,↓reduceIte,seval,Stable_cons,Stable_nil,sameA_some,sameA_none,eStp,Option.getD_none,gi,gj,lm,hij']);first|done|exact E|fail))|((with_reducible refine VCt.fork (fun K hK=>?_) ?_);(focus (simp -dsimp (disch:=first|exact D|fail) only [go_sem,↓reduceIte,seval,eStp,Option.getD_none,gi,gj,lm,hij'])))|refine Q1 ?_|((with_reducible refine qW (T:=TT) (b:=?_) ?_ ?_);rotate_left;exact rfl)|fail)
   all_goals simp -dsimp (disch:=first|exact D|fail) only [retQ,Tryz.results102,resVals,cellRV,resOf,St.rest,St.freeze,RT,go_sem,↓reduceIte,seval]
 obtain ⟨hd1,hd2⟩:=hd
 rw [decide_eq_true hd1] at ec
 rw [decide_eq_true hd2] at ep
 obtain ⟨u,hu⟩:∃u,sameE s t.name o.name=u:=⟨_,rfl⟩
 have hnd:¬ ((i:Int)=(j:Int)∨t.cols≠o.cols∨t.pk≠o.pk):=by
  rintro (q|q|q)
  ·exact hij' q
  ·exact q hd1
  ·exact q hd2
 by_cases hu0:u=0
 case neg =>
  have spec:mergeT s i st=.error u:=by
   unfold mergeT
   simp only [e1,if_neg j0,Int.toNat_natCast,htA,hoA]
   rw [if_neg hnd,hu,if_pos hu0]
  rw [spec]
  unfold iB iR oBE oRE rE
  simp only
  refine sM tyOk [1000] [1,2,3] Tryz.func102 fun w0 m0 F0=>?_
  simp only [Tryz.ntmps102,envOf,Nat.reduceAdd]
  refine AWP.frzR 1000 rfl ?_
  simp -dsimp (disch:=first|exact D|fail) only [go_sem,↓reduceIte,seval,frzR_mk,frzTblO,frzFKO]
  refine AWP.frzR 1001 rfl ?_
  simp -dsimp (disch:=first|exact D|fail) only [go_sem,↓reduceIte,seval,frzR_mk,frzTblO,frzFKO]
  repeat' (first|((first|((fail_if_success (refine AWP.isRegion 4 ?_));(with_reducible refine qV tyOk fun K hK=>?_))|(refine AWP.isRegion 1 ?_;refine dX tyOk mixed [(0,5)] [(5,[(6,5)],[])] [5] 8 fun K hK=>?_;simp only [SG,segs] at hK ⊢)|((with_reducible refine CallJ.is ?_);(((apply CallJ.lentI);(focus (simp -dsimp (disch:=first|exact D|fail) only [go_sem,↓reduceIte,seval,eStp,Option.getD_none,gi,gj,lm,hij',hu0];rfl));(focus (first|exact (fs))))))|(with_reducible first|refine VCy.some fun K hK=>?_|refine VCy.step fun K hK=>?_))<;>simp -dsimp (disch:=first|exact D|fail) only [go_sem,↓reduceIte,seval,eStp,Option.getD_none,gi,gj,lm,hij',hu0])|((with_reducible refine hK _ ?_);clear hK K)|(with_reducible refine VCy.intro fun K0 hK0=>?_)|((with_reducible refine VCy.fin ?_);(refine hK0 _ ?_);clear hK0 K0)|(with_reducible refine VCy.quiet ?_)|refine Q1 ?_|((with_reducible refine qW (T:=TT) (b:=?_) ?_ ?_);rotate_left;exact rfl)|fail)
  refine dY tyOk mixed [(0,14)] (.cons 14 [] [(0,14)] (.cons 15 [] [(0,14)] (.cons 16 [] [(7,7)] (.cons 17 [] [] .leaf .none) .none) .none) (.cons 15 [] [(0,14)] (.cons 14 [] [(0,14)] (.cons 16 [] [(7,7)] (.cons 17 [] [] .leaf .none) .none) .none) .none)) [14,15,16,17] 8 fun K hK=>?_
  simp only [segt_leaf,segt_none,segt_cons,segs,List.drop_succ_cons,List.drop_zero,List.take_succ_cons,List.take_zero,List.getElem?_cons_zero,List.getElem?_cons_succ,List.cons_append,List.nil_append,List.append_nil] at hK ⊢
  simp -dsimp (disch:=first|exact D|fail) only [go_sem,↓reduceIte,seval,eStp,Option.getD_none,gi,gj,lm,hij',hu0]
  repeat' (first|((first|((fail_if_success (refine AWP.isRegion 7 ?_));(with_reducible refine qV tyOk fun K hK=>?_))|refine Q2 ?_|((with_reducible refine CallJ.is ?_);(first|refine CallJ.pure (ec) ?_|refine CallJ.pure (ep) ?_))|(with_reducible refine VCt.step fun K hK=>?_))<;>simp -dsimp (disch:=first|exact D|fail) only [go_sem,↓reduceIte,seval,eStp,Option.getD_none,gi,gj,lm,hij',hu0])|((with_reducible refine hK _ ?_);clear hK K)|(with_reducible refine VCt.intro fun K0 hK0=>?_)|((with_reducible refine VCt.fin ?_);(refine hK0 _ ?_);clear hK0 K0)|(with_reducible first|refine VCy.quiet ?_|refine VCt.none ?_)|((with_reducible refine VCy.keep ?_ ?_);focus ((simp -dsimp (disch:=first|exact D|fail) only [go_sem,↓reduceIte,seval,Stable_cons,Stable_nil,sameA_some,sameA_none,eStp,Option.getD_none,gi,gj,lm,hij',hu0]);first|done|exact E|fail))|((with_reducible refine VCt.fork (fun K hK=>?_) ?_);(focus (simp -dsimp (disch:=first|exact D|fail) only [go_sem,↓reduceIte,seval,eStp,Option.getD_none,gi,gj,lm,hij',hu0])))|refine Q1 ?_|((with_reducible refine qW (T:=TT) (b:=?_) ?_ ?_);rotate_left;exact rfl)|fail)
  ·
   repeat' (first|((first|with_reducible refine qV tyOk fun K hK=>?_|(refine AWP.isRegion 7 ?_;refine dX tyOk mixed [(0,7)] [(7,[(8,1)],[])] [7] 8 fun K hK=>?_;simp only [SG,segs] at hK ⊢)|((with_reducible refine CallJ.is ?_);(((apply CallJ.lentI);(focus (simp -dsimp (disch:=first|exact D|fail) only [go_sem,↓reduceIte,seval,eStp,Option.getD_none,gi,gj,lm,hij',hu0];rfl));(focus (first|exact ((hu▸same_satX _ s t.name o.name (by omega) b5 (by omega))))))))|(with_reducible first|refine VCy.some fun K hK=>?_|refine VCy.step fun K hK=>?_))<;>simp -dsimp (disch:=first|exact D|fail) only [go_sem,↓reduceIte,seval,eStp,Option.getD_none,gi,gj,lm,hij',hu0])|((with_reducible refine hK _ ?_);clear hK K)|(with_reducible refine VCy.intro fun K0 hK0=>?_)|((with_reducible refine VCy.fin ?_);(refine hK0 _ ?_);clear hK0 K0)|(with_reducible refine VCy.quiet ?_)|refine Q1 ?_|((with_reducible refine qW (T:=TT) (b:=?_) ?_ ?_);rotate_left;exact rfl)|fail)
   simp -dsimp (disch:=first|exact D|fail) only [retQ,Tryz.results102,resVals,cellRV,resOf,St.rest,St.freeze,RT,go_sem,↓reduceIte,seval]
  ·
   repeat' (first|((first|with_reducible refine qV tyOk fun K hK=>?_|(refine AWP.isRegion 7 ?_;refine dX tyOk mixed [(0,7)] [(7,[(8,1)],[])] [7] 8 fun K hK=>?_;simp only [SG,segs] at hK ⊢)|((with_reducible refine CallJ.is ?_);(((apply CallJ.lentI);(focus (simp -dsimp (disch:=first|exact D|fail) only [go_sem,↓reduceIte,seval,eStp,Option.getD_none,gi,gj,lm,hij',hu0];rfl));(focus (first|exact ((hu▸same_satX _ s t.name o.name (by omega) b5 (by omega))))))))|(with_reducible first|refine VCy.some fun K hK=>?_|refine VCy.step fun K hK=>?_))<;>simp -dsimp (disch:=first|exact D|fail) only [go_sem,↓reduceIte,seval,eStp,Option.getD_none,gi,gj,lm,hij',hu0])|((with_reducible refine hK _ ?_);clear hK K)|(with_reducible refine VCy.intro fun K0 hK0=>?_)|((with_reducible refine VCy.fin ?_);(refine hK0 _ ?_);clear hK0 K0)|(with_reducible refine VCy.quiet ?_)|refine Q1 ?_|((with_reducible refine qW (T:=TT) (b:=?_) ?_ ?_);rotate_left;exact rfl)|fail)
   simp -dsimp (disch:=first|exact D|fail) only [retQ,Tryz.results102,resVals,cellRV,resOf,St.rest,St.freeze,RT,go_sem,↓reduceIte,seval]
 subst hu0
 obtain ⟨t',ht'⟩:∃t':Tbl,(⟨t.name,t.cols++[⟨st.column,2,false⟩],t.pk++[(t.cols.length:Int)]⟩:Tbl)=t':=⟨_,rfl⟩
 have spec:mergeT s i st=.ok (removeT (setT s i t') o.name):=by
  unfold mergeT
  simp only [e1,if_neg j0,Int.toNat_natCast,htA,hoA]
  rw [if_neg hnd,hu,←ht']
  rfl
 rw [spec]
 have rm:=removeTable_satM (setT s i t') o.name (by show (s.tables.set i t').length≤_;rw [List.length_set];omega) (by show s.fks.length≤_;omega) (by show s.cons.length≤_;omega)
 unfold iB fR oB1 oR1 at rm
 have l1:(setT s i t').tables.length=s.tables.length:=by show (s.tables.set i t').length=_;rw [List.length_set]
 have l2:(setT s i t').fks=s.fks:=rfl
 have l3:(setT s i t').cons=s.cons:=rfl
 have l4:(setT s i t').tables=s.tables.set i t':=rfl
 rw [l1,l2,l3,l4] at rm
 unfold iB iR oBE oRE oB1 oR1 rE
 simp only
 have fm:frzXs (s.tables.map eTbl)=s.tables.map eTbl:=frzTbl _
 have e3:(s.tables.map eTbl).set i [.str t.name,.sl 3 (t.cols.map eCol++[[.str st.column,.int .i64 2,.bool false]]),.sl 1 (t.pk.map eInt1++[[.int .i64 (t.cols.length:Int)]])]=(s.tables.set i t').map eTbl:=by
  rw [List.map_set,←ht']
  simp only [eTbl,eCols,eInts,List.map_append,List.map_cons,List.map_nil,eCol,eInt1]
 refine sM tyOk [1000] [1,2,3] Tryz.func102 fun w0 m0 F0=>?_
 simp only [Tryz.ntmps102,envOf,Nat.reduceAdd]
 refine AWP.gq ?_
 rw [decide_eq_true (show (0:Int)≤(j:Int) by omega)] at fs
 repeat' (first|((first|with_reducible refine qV tyOk fun K hK=>?_|(refine AWP.isRegion 1 ?_;refine dX tyOk mixed [(0,5)] [(5,[(6,5)],[])] [5] 8 fun K hK=>?_;simp only [SG,segs] at hK ⊢)|((with_reducible refine CallJ.is ?_);(((apply CallJ.lentI);(focus (simp -dsimp (disch:=first|exact D|fail) only [go_sem,↓reduceIte,seval,eStp,Option.getD_none,frz_eTblO,frz_eFKO];rfl));(focus (first|exact (fs))))))|(with_reducible first|refine VCy.some fun K hK=>?_|refine VCy.step fun K hK=>?_))<;>simp -dsimp (disch:=first|exact D|fail) only [go_sem,↓reduceIte,seval,eStp,Option.getD_none,frz_eTblO,frz_eFKO])|((with_reducible refine hK _ ?_);clear hK K)|(with_reducible refine VCy.intro fun K0 hK0=>?_)|((with_reducible refine VCy.fin ?_);(refine hK0 _ ?_);clear hK0 K0)|(with_reducible refine VCy.quiet ?_)|refine Q1 ?_|((with_reducible refine qW (T:=TT) (b:=?_) ?_ ?_);rotate_left;exact rfl)|fail)
 rw [e0]
 refine AWP.openC 1000 i 1 2000 rfl (rowT_cell1 _ hi) rfl (by decide) (by decide) ?_
 simp -dsimp (disch:=first|exact D|fail) only [go_sem,↓reduceIte,seval,openR_mk]
 refine AWP.openC 1000 i 2 2001 rfl (rowT_cell2 _ hi) (by simp [ovGet]) (by decide) (by decide) ?_
 simp -dsimp (disch:=first|exact D|fail) only [go_sem,↓reduceIte,seval,openR_mk]
 refine AWP.frzR 1000 rfl ?_
 simp -dsimp (disch:=first|exact D|fail) only [go_sem,↓reduceIte,seval,frzR_mk,frzTblO,frzFKO,ef]
 refine AWP.frzR 1001 rfl ?_
 simp -dsimp (disch:=first|exact D|fail) only [go_sem,↓reduceIte,seval,frzR_mk,frzTblO,frzFKO]
 refine dY tyOk mixed [(0,14)] (.cons 14 [] [(0,14)] (.cons 15 [] [(0,14)] (.cons 16 [] [(7,7)] (.cons 17 [] [] .leaf .none) .none) .none) (.cons 15 [] [(0,14)] (.cons 14 [] [(0,14)] (.cons 16 [] [(7,7)] (.cons 17 [] [] .leaf .none) .none) .none) .none)) [14,15,16,17] 8 fun K hK=>?_
 simp only [segt_leaf,segt_none,segt_cons,segs,List.drop_succ_cons,List.drop_zero,List.take_succ_cons,List.take_zero,List.getElem?_cons_zero,List.getElem?_cons_succ,List.cons_append,List.nil_append,List.append_nil] at hK ⊢
 simp -dsimp (disch:=first|exact D|fail) only [go_sem,↓reduceIte,seval,eStp,Option.getD_none,gi,gj,lm,hij',hij]
 repeat' (first|((first|((fail_if_success (refine AWP.isRegion 7 ?_));(with_reducible refine qV tyOk fun K hK=>?_))|refine Q2 ?_|((with_reducible refine CallJ.is ?_);(((apply CallJ.lentI);(focus (simp -dsimp (disch:=first|exact D|fail) only [go_sem,↓reduceIte,seval,eStp,Option.getD_none,gi,gj,lm,hij',hij];rfl));(focus (first|exact (ec)|exact (ep))))))|(with_reducible refine VCt.step fun K hK=>?_))<;>simp -dsimp (disch:=first|exact D|fail) only [go_sem,↓reduceIte,seval,eStp,Option.getD_none,gi,gj,lm,hij',hij])|((with_reducible refine hK _ ?_);clear hK K)|(with_reducible refine VCt.intro fun K0 hK0=>?_)|((with_reducible refine VCt.fin ?_);(refine hK0 _ ?_);clear hK0 K0)|(with_reducible first|refine VCy.quiet ?_|refine VCt.none ?_)|((with_reducible refine VCy.keep ?_ ?_);focus ((simp -dsimp (disch:=first|exact D|fail) only [go_sem,↓reduceIte,seval,Stable_cons,Stable_nil,sameA_some,sameA_none,eStp,Option.getD_none,gi,gj,lm,hij',hij]);first|done|exact E|fail))|((with_reducible refine VCt.fork (fun K hK=>?_) ?_);(focus (simp -dsimp (disch:=first|exact D|fail) only [go_sem,↓reduceIte,seval,eStp,Option.getD_none,gi,gj,lm,hij',hij])))|refine Q1 ?_|((with_reducible refine qW (T:=TT) (b:=?_) ?_ ?_);rotate_left;exact rfl)|fail)
 ·
  repeat' (first|((first|((fail_if_success (refine AWP.isRegion 12 ?_));(with_reducible refine qV tyOk fun K hK=>?_))|(refine AWP.isRegion 7 ?_;refine dX tyOk mixed [(0,7)] [(7,[(8,1)],[])] [7] 8 fun K hK=>?_;simp only [SG,segs] at hK ⊢)|(refine AWP.isRegion 10 ?_;refine dX tyOk mixed [(0,10)] [(10,[],[(0,7)]),(11,[(12,2)],[(0,5)]),(14,[],[])] [10,11,14] 8 fun K hK=>?_;simp only [SG,segs] at hK ⊢)|(refine AWP.isRegion 11 ?_;refine dX tyOk mixed [(0,10)] [(10,[],[(0,7)]),(11,[(12,2)],[(0,5)]),(14,[],[])] [10,11,14] 8 fun K hK=>?_;simp only [SG,segs] at hK ⊢)|((with_reducible refine CallJ.is ?_);(((apply CallJ.lentI);(focus (simp -dsimp (disch:=first|exact D|fail) only [go_sem,↓reduceIte,seval,eStp,Option.getD_none,gi,gj,lm,hij',hij];rfl));(focus (first|exact ((hu▸same_satX _ s t.name o.name (by omega) b5 (by omega))))))))|(with_reducible first|refine VCy.some fun K hK=>?_|refine VCy.step fun K hK=>?_))<;>simp -dsimp (disch:=first|exact D|fail) only [go_sem,↓reduceIte,seval,eStp,Option.getD_none,gi,gj,lm,hij',hij])|((with_reducible refine hK _ ?_);clear hK K)|(with_reducible refine VCy.intro fun K0 hK0=>?_)|((with_reducible refine VCy.fin ?_);(refine hK0 _ ?_);clear hK0 K0)|(with_reducible first|refine VCy.quiet ?_|refine VCy.none ?_)|((with_reducible refine VCy.keep ?_ ?_);focus ((simp -dsimp (disch:=first|exact D|fail) only [go_sem,↓reduceIte,seval,Stable_cons,Stable_nil,sameA_some,sameA_none,eStp,Option.getD_none,gi,gj,lm,hij',hij]);first|done|exact E|fail))|refine Q1 ?_|((with_reducible refine qW (T:=TT) (b:=?_) ?_ ?_);rotate_left;exact rfl)|fail)
  refine AWP.close 1000 i 1 92 rfl rfl (by decide) (by simp [ovGet]) (by simp;exact hi) (by show 1<3;decide) rfl ?_
  simp -dsimp (disch:=first|exact D|fail) only [go_sem,↓reduceIte,seval,closeR_mk,ovCut_cons,ovCut_nil,List.set_set]
  rw [setCell_set _ _ _ _ _ (by rw [lm];exact hi),getD_set1 _ _ _ (by rw [lm];exact hi)]
  simp -dsimp (disch:=first|exact D|fail) only [go_sem,↓reduceIte,seval,List.set_cons_succ,List.set_cons_zero,List.set_set]
  refine AWP.close 1000 i 2 78 rfl rfl (by decide) (by simp [ovGet]) (by simp;exact hi) (by show 2<3;decide) rfl ?_
  simp -dsimp (disch:=first|exact D|fail) only [go_sem,↓reduceIte,seval,closeR_mk,ovCut_cons,ovCut_nil,List.set_set]
  rw [setCell_set _ _ _ _ _ (by rw [lm];exact hi)]
  simp -dsimp (disch:=first|exact D|fail) only [go_sem,↓reduceIte,seval,List.set_cons_succ,List.set_cons_zero,List.set_set]
  refine AWP.frzR 1000 rfl ?_
  simp -dsimp (disch:=first|exact D|fail) only [go_sem,↓reduceIte,seval,frzR_mk,frzTblO,frzFKO,frzXs_set,fm,List.map_append,frz3c,frz3i]
  rw [e3]
  repeat' (first|((first|with_reducible refine qV tyOk fun K hK=>?_|((with_reducible refine CallJ.is ?_);refine CallJ.io [(1000,1000)] [(1000,1000),(1001,1001),(1002,1002)] [(1000,1000)] [(1,1),(2,2),(3,3)] [] [1000,1001,1002,1,2,3] [1000,1000] [1000,1001,1002,1,2,3] (rm) rfl ⟨rfl,rfl,rfl,rfl⟩ ?_ ?_ ?_))<;>simp -dsimp (disch:=first|exact D|fail) only [go_sem,↓reduceIte,seval,okIds_ref,Option.getD_none,dropL_nil,dropL_nil',dropL_cons])|((with_reducible refine hK _ ?_);clear hK K)|refine Q1 ?_|fail)
  refine Gq.done ?_
  simp -dsimp (disch:=first|exact D|fail) only [retQ,Tryz.results102,resVals,cellRV,resOf,St.rest,St.freeze,RT,go_sem,↓reduceIte,seval]
 ·
  repeat' (first|((first|((fail_if_success (refine AWP.isRegion 12 ?_));(with_reducible refine qV tyOk fun K hK=>?_))|(refine AWP.isRegion 7 ?_;refine dX tyOk mixed [(0,7)] [(7,[(8,1)],[])] [7] 8 fun K hK=>?_;simp only [SG,segs] at hK ⊢)|(refine AWP.isRegion 10 ?_;refine dX tyOk mixed [(0,10)] [(10,[],[(0,7)]),(11,[(12,2)],[(0,5)]),(14,[],[])] [10,11,14] 8 fun K hK=>?_;simp only [SG,segs] at hK ⊢)|(refine AWP.isRegion 11 ?_;refine dX tyOk mixed [(0,10)] [(10,[],[(0,7)]),(11,[(12,2)],[(0,5)]),(14,[],[])] [10,11,14] 8 fun K hK=>?_;simp only [SG,segs] at hK ⊢)|((with_reducible refine CallJ.is ?_);(((apply CallJ.lentI);(focus (simp -dsimp (disch:=first|exact D|fail) only [go_sem,↓reduceIte,seval,eStp,Option.getD_none,gi,gj,lm,hij',hij];rfl));(focus (first|exact ((hu▸same_satX _ s t.name o.name (by omega) b5 (by omega))))))))|(with_reducible first|refine VCy.some fun K hK=>?_|refine VCy.step fun K hK=>?_))<;>simp -dsimp (disch:=first|exact D|fail) only [go_sem,↓reduceIte,seval,eStp,Option.getD_none,gi,gj,lm,hij',hij])|((with_reducible refine hK _ ?_);clear hK K)|(with_reducible refine VCy.intro fun K0 hK0=>?_)|((with_reducible refine VCy.fin ?_);(refine hK0 _ ?_);clear hK0 K0)|(with_reducible first|refine VCy.quiet ?_|refine VCy.none ?_)|((with_reducible refine VCy.keep ?_ ?_);focus ((simp -dsimp (disch:=first|exact D|fail) only [go_sem,↓reduceIte,seval,Stable_cons,Stable_nil,sameA_some,sameA_none,eStp,Option.getD_none,gi,gj,lm,hij',hij]);first|done|exact E|fail))|refine Q1 ?_|((with_reducible refine qW (T:=TT) (b:=?_) ?_ ?_);rotate_left;exact rfl)|fail)
  refine AWP.close 1000 i 1 92 rfl rfl (by decide) (by simp [ovGet]) (by simp;exact hi) (by show 1<3;decide) rfl ?_
  simp -dsimp (disch:=first|exact D|fail) only [go_sem,↓reduceIte,seval,closeR_mk,ovCut_cons,ovCut_nil,List.set_set]
  rw [setCell_set _ _ _ _ _ (by rw [lm];exact hi),getD_set1 _ _ _ (by rw [lm];exact hi)]
  simp -dsimp (disch:=first|exact D|fail) only [go_sem,↓reduceIte,seval,List.set_cons_succ,List.set_cons_zero,List.set_set]
  refine AWP.close 1000 i 2 78 rfl rfl (by decide) (by simp [ovGet]) (by simp;exact hi) (by show 2<3;decide) rfl ?_
  simp -dsimp (disch:=first|exact D|fail) only [go_sem,↓reduceIte,seval,closeR_mk,ovCut_cons,ovCut_nil,List.set_set]
  rw [setCell_set _ _ _ _ _ (by rw [lm];exact hi)]
  simp -dsimp (disch:=first|exact D|fail) only [go_sem,↓reduceIte,seval,List.set_cons_succ,List.set_cons_zero,List.set_set]
  refine AWP.frzR 1000 rfl ?_
  simp -dsimp (disch:=first|exact D|fail) only [go_sem,↓reduceIte,seval,frzR_mk,frzTblO,frzFKO,frzXs_set,fm,List.map_append,frz3c,frz3i]
  rw [e3]
  repeat' (first|((first|with_reducible refine qV tyOk fun K hK=>?_|((with_reducible refine CallJ.is ?_);refine CallJ.io [(1000,1000)] [(1000,1000),(1001,1001),(1002,1002)] [(1000,1000)] [(1,1),(2,2),(3,3)] [] [1000,1001,1002,1,2,3] [1000,1000] [1000,1001,1002,1,2,3] (rm) rfl ⟨rfl,rfl,rfl,rfl⟩ ?_ ?_ ?_))<;>simp -dsimp (disch:=first|exact D|fail) only [go_sem,↓reduceIte,seval,okIds_ref,Option.getD_none,dropL_nil,dropL_nil',dropL_cons])|((with_reducible refine hK _ ?_);clear hK K)|refine Q1 ?_|fail)
  refine Gq.done ?_
  simp -dsimp (disch:=first|exact D|fail) only [retQ,Tryz.results102,resVals,cellRV,resOf,St.rest,St.freeze,RT,go_sem,↓reduceIte,seval]
end Go.Bw
