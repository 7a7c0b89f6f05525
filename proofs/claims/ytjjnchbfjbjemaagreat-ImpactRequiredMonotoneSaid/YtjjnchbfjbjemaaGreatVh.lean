/-
  WHAT IS PROVED HERE, of this translation: partitionTable_satM.
  A theorem that ends in sat says what the function it names returns, whatever the state it is called in; the bounds on its arguments stand ahead of it.
-/
import Derived.Test.YtjjnchbfjbjemaaGreatVe
set_option linter.unusedSimpArgs false
set_option linter.unusedVariables false
namespace Go.Bw
open Go.Proofs
attribute [local go_sem ↓] VOps_nil VOps_cons VOp_callJ VVal_callH VOps_guard GOn_tt GOn_ff GOn_tf GOn_ft GOn_not GOn_none HOn_none HOn_tt HOn_ff HOn_tf HOn_ft HOn_not VHead_nil VHead_cons VHead_guard VVal_move VVal_assign VVal_pickE pickK_true pickK_false VVal_not VVal_neg negK_int VVal_load loadK_fz loadK_ptr loadK_eptr VVal_fieldAddr VVal_field VVal_indexAddr idxK_sl idxK_ref VVal_index indexK_str VVal_extract VVal_binOp binK_one binK_agg VVal_build VVal_buildSlice VVal_makeFunc VVal_slice sliceK_str sliceK_sl sliceK_nil sliceK_ref VVal_slice3 VVal_nilCheck VVal_convert convKk_int convKk_str VVal_len VVal_max VVal_min VOp_assign assignK_int assignK_bool assignK_str assignK_clo assignK_sl assignK_nil assignK_ref assignK_agg assignK_fz assignK_ptr assignK_eptr assignK_any VOp_box VOp_alloc VOp_store storeK_ptr storeK_eptr VOp_buildSlice VOp_append appK_rr appK_rs appK_rn appK_ri appK_nr appK_ns appK_nn appK_ni appStd_eq VOp_copy copyK_ref VOp_clear clearK_ref VOp_cap VOp_eqNil VOp_move VOp_pick VOp_not VOp_neg VOp_load VOp_fieldAddr VOp_field VOp_indexAddr VOp_index VOp_extract VOp_binTmp VOp_binInt VOp_binStr VOp_binPtr VOp_build VOp_makeFunc VOp_slice VOp_nilCheck VOp_convert VOp_len VOp_max VOp_min mO_some mT_some pk_some pk_none look_cons del_cons
attribute [local go_sem] guardB gOf int_bne beq_true beq_false Bool.not_not gSlot pickK_true pickK_false negK_int loadK_fz loadK_ptr loadK_eptr idxK_sl idxK_ref indexK_str binK_one binK_agg sliceK_str sliceK_sl sliceK_nil sliceK_ref convKk_int convKk_str maxL minL assignK_int assignK_bool assignK_str assignK_clo assignK_sl assignK_nil assignK_ref assignK_agg assignK_fz assignK_ptr assignK_eptr assignK_any nilRow_eq takeRow_eq appended_eq storeK_ptr storeK_eptr store_mk appIn_eq appMk_eq marked_eq ovOut_nil ovOut_cons ovIn_nil ovIn_cons padRow_eq ysC capK_nil capK_ref ioSt_mk outB_nil outR_nil outB outR inB_nil inB_cons inR_nil inR_cons L.kl L.kl0 L.ids L.ids0 Option.getD_some evalO constA mO_some mT_some put_mk putO_some putO_none okD_some okD_none pk_some pk_none look_nil del_nil sput noBox_mk noRow_mk newBox_eq newRow0_eq St.killRow RowC.kill rowMap_mk rowOf ovAll ovAdd ovDel ovGet ovShift dstOf ysOf overlay_nil overlay_nil' overlay A.map V.map L.noPtr L.noPtr0 L.noRow L.noRow0 L.peek L.norm L.flat clos_int clos_bool clos_str clos_sl clos_nil clos_any clos_fz L.clos L.isFz L.kd moveL fieldOff eqCells eqCell eqOp oneOf boolOf intOfA tupOf vOf aggOf isPtrLike isSlice lenKind lenL nL elemTI loadV asV binL intBin intDivL shrL boolBin strBin strAdd ptrNil boundN partCells fillL placesOf setL chunks repL capsOf capL callOf argsOf frzV_int frzV_bool frzV_str frzV_sl frzV_nil frzV_fz frzV_any frzV_own frzV_clo frzV_ref frzV_eptr frzV_ptr frzRow_nil frzRow_ov frzRs_nil frzRs_cons frzCs_nil frzCs_cons frzO_some frzO_none frzN_int frzN_bool frzN_str frzN_sl frzN_nil frzN_any frzN_own List.map_cons List.map_nil List.cons_append List.nil_append List.append_nil List.length_cons List.length_nil List.length_map List.length_append List.headD_cons List.tail_cons List.getElem?_cons_zero List.getElem?_cons_succ List.drop_zero List.drop_succ_cons List.drop_nil List.take_succ_cons List.take_zero List.take_nil List.take_length List.filter_cons List.filter_nil List.elem_cons List.elem_nil List.all_cons List.all_nil Option.bind_some Option.map_some Option.some.injEq bne_self_eq_false beq_self_eq_true if_true if_false Bool.false_eq_true true_and and_true and_self Nat.zero_add Nat.add_zero Nat.zero_le Int.toNat_natCast Int.toNat_zero Option.isSome_some List.getElem?_toArray decide_true decide_false ge_iff_le gt_iff_lt Bool.not_true Bool.not_false Nat.le_refl Bool.and_true Bool.true_and Bool.and_false Bool.false_and eVal eRow eRow1 eRows eInt1 eInts eCol eCols eTbl eTbls eFK eFKs eCon eCons eSch eRel eInst eChg eChgs szOf getD_map_lt wrap_nat wrap_in List.take_of_length_le frz_eVal frz_eRow1 frz_eInt1 frz_eCol frz_eTbl frz_eFK frz_eCon frz_eRel frz_eChg noOwn_nil noOwn_cons noOwn_append L.isOwn noOwn_eVal noOwn_eRow1 noOwn_eInt1 noOwn_eCol noOwn_eTbl noOwn_eFK noOwn_eCon noOwn_eRel noOwn_eChg convK_2 convK_3 convK_5 convK_12 convK_21 convK_32 convK_95 convK_119 convK_122 convK_152 convK_169 TT_2 TT_3 TT_4 TT_5 TT_9 TT_12 TT_13 TT_21 TT_22 TT_23 TT_24 TT_25 TT_26 TT_27 TT_28 TT_29 TT_31 TT_32 TT_36 TT_37 TT_42 TT_43 TT_44 TT_48 TT_49 TT_56 TT_61 TT_72 TT_73 TT_74 TT_85 TT_86 TT_89 TT_90 TT_91 TT_92 TT_95 TT_98 TT_113 TT_114 TT_116 TT_117 TT_119 TT_122 TT_145 TT_152 TT_169 boolTy_4 eqK_37 eqK_90 eqK_92 eqK_114
attribute [local congr] VOps.congr VHead.congr VOp.congr VVal.congr pk.congr assignK.congr appK.congr appStd.congr copyK.congr clearK.congr storeK.congr loadK.congr idxK.congr sliceK.congr indexK.congr binK.congr convKk.congr
set_option maxHeartbeats 32000000 in
theorem partitionTable_satM (s:Sch) (i:Nat) (st:Stp) (hi:i<s.tables.length) (sm:SmallS s) :
  SatM Tryz.prog 101 [.one (.ptr 1000 0),oI i,.agg (eStp st)] (iB s) (iR s) (.v (oI (rE (partT s i st)))) (oBE (partT s i st)) (oRE (partT s i st)):=by
 have b1:=sm.tables
 have b2:=sm.table s.tables[i] (List.getElem_mem hi)
 have b3:=sm.fks
 have b4:=sm.cons
 obtain ⟨t,ht⟩:∃t,s.tables[i]=t:=⟨_,rfl⟩
 have htA:tAt s i=t:=by unfold tAt;rw [getD_lt _ hi,ht]
 rw [ht] at b2
 obtain ⟨b6,b7,_⟩:=b2
 have lm:(s.tables.map eTbl).length=s.tables.length:=List.length_map ..
 have gi:(s.tables.map eTbl).getD i []=eTbl t:=by rw [getD_map_lt _ _ _ hi,ht]
 have fc:=findColumn_sat t st.column (by omega)
 have sa:=satisfies_sat st.value st.value st.op
 have va:=validate_sat st.value
 have fs:=findTable_sat s st.other (by omega)
 have cf:=containsFFK_sat s.fks 129 [.fz (eTbl t)] _ (by omega) fun f _=>part1_sat f t
 simp only [eVal] at sa va
 obtain ⟨R,hR⟩:∃R,partT s i st=R:=⟨_,rfl⟩
 have spec:=hR
 unfold partT at spec
 simp only [htA] at spec
 rw [hR]
 unfold iB iR
 refine sM tyOk [1000] [1,2,3] Tryz.func101 fun w0 m0 F0=>?_
 simp only [Tryz.ntmps101,envOf,Nat.reduceAdd]
 refine AWP.gq ?_
 refine AWP.frzR 1000 rfl ?_
 simp -dsimp (disch:=first|exact D|fail) only [go_sem,↓reduceIte,seval,frzR_mk,frzTblO,frzFKO]
 refine AWP.frzR 1001 rfl ?_
 simp -dsimp (disch:=first|exact D|fail) only [go_sem,↓reduceIte,seval,frzR_mk,frzTblO,frzFKO]
 rcases idx_cases (fun u=>sEq u.name st.column) t.cols 0 with ⟨e1,_⟩|⟨z,hz,e1,_,_⟩
 ·have e1:colAt t.cols st.column=-1:=e1
  rw [e1,mx0_neg] at fc
  rw [e1,if_pos (by omega)] at spec
  subst spec
  unfold oBE oRE rE
  simp only
  repeat' (first|((first|with_reducible refine qV tyOk fun K hK=>?_|((with_reducible refine CallJ.is ?_);(refine CallJ.pure (fc) ?_)))<;>simp -dsimp (disch:=first|exact D|fail) only [go_sem,↓reduceIte,seval,eStp,Option.getD_none,gi,lm])|((with_reducible refine hK _ ?_);clear hK K)|refine Q1 ?_|((with_reducible refine qW (T:=TT) (b:=?_) ?_ ?_);rotate_left;exact rfl)|fail)
  refine Gq.done ?_
  simp -dsimp (disch:=first|exact D|fail) only [retQ,Tryz.results101,resVals,cellRV,resOf,St.rest,St.freeze,RT,go_sem,↓reduceIte,seval]
 have e1:colAt t.cols st.column=(z:Int):=by unfold colAt;simpa using e1
 rw [e1,mx0_nat,decide_eq_true (show (0:Int)≤(z:Int) by omega)] at fc
 rw [e1,if_neg (by omega),Int.toNat_natCast] at spec
 repeat' (first|((first|((fail_if_success (refine AWP.isRegion 5 ?_));(with_reducible refine qV tyOk fun K hK=>?_))|((with_reducible refine CallJ.is ?_);(refine CallJ.pure (fc) ?_)))<;>simp -dsimp (disch:=first|exact D|fail) only [go_sem,↓reduceIte,seval,eStp,Option.getD_none,gi,lm])|((with_reducible refine hK _ ?_);clear hK K)|refine Q1 ?_|((with_reducible refine qW (T:=TT) (b:=?_) ?_ ?_);rotate_left;exact rfl)|fail)
 by_cases h1:satE st.op=0
 case neg =>
  rw [if_pos h1] at spec
  subst spec
  unfold oBE oRE rE
  simp only
  repeat' (first|((first|with_reducible refine qV tyOk fun K hK=>?_|((with_reducible refine CallJ.is ?_);(refine CallJ.pure (sa) ?_)))<;>simp -dsimp (disch:=first|exact D|fail) only [go_sem,↓reduceIte,seval,eStp,Option.getD_none,h1])|((with_reducible refine hK _ ?_);clear hK K)|refine Q1 ?_|((with_reducible refine qW (T:=TT) (b:=?_) ?_ ?_);rotate_left;exact rfl)|fail)
  refine Gq.done ?_
  simp -dsimp (disch:=first|exact D|fail) only [retQ,Tryz.results101,resVals,cellRV,resOf,St.rest,St.freeze,RT,go_sem,↓reduceIte,seval]
 rw [if_neg (by rw [h1];simp)] at spec
 rw [h1] at sa
 by_cases h2:valE st.value=0
 case neg =>
  rw [if_pos h2] at spec
  subst spec
  unfold oBE oRE rE
  simp only
  repeat' (first|((first|with_reducible refine qV tyOk fun K hK=>?_|((with_reducible refine CallJ.is ?_);(first|refine CallJ.pure (sa) ?_|refine CallJ.pure (va) ?_)))<;>simp -dsimp (disch:=first|exact D|fail) only [go_sem,↓reduceIte,seval,eStp,Option.getD_none,h2])|((with_reducible refine hK _ ?_);clear hK K)|refine Q1 ?_|((with_reducible refine qW (T:=TT) (b:=?_) ?_ ?_);rotate_left;exact rfl)|fail)
  refine Gq.done ?_
  simp -dsimp (disch:=first|exact D|fail) only [retQ,Tryz.results101,resVals,cellRV,resOf,St.rest,St.freeze,RT,go_sem,↓reduceIte,seval]
 rw [if_neg (by rw [h2];simp)] at spec
 rw [h2] at va
 have gz:(t.cols.map eCol).getD z []=eCol (t.cols.getD z zCol):=by rw [getD_map_lt _ _ _ hz,getD_lt _ hz]
 repeat' (first|((first|((fail_if_success (refine AWP.isRegion 11 ?_));(with_reducible refine qV tyOk fun K hK=>?_))|((with_reducible refine CallJ.is ?_);(first|refine CallJ.pure (sa) ?_|refine CallJ.pure (va) ?_)))<;>simp -dsimp (disch:=first|exact D|fail) only [go_sem,↓reduceIte,seval,eStp,Option.getD_none])|((with_reducible refine hK _ ?_);clear hK K)|refine Q1 ?_|((with_reducible refine qW (T:=TT) (b:=?_) ?_ ?_);rotate_left;exact rfl)|fail)
 by_cases h3:st.value.kind=(t.cols.getD z zCol).kind
 case neg =>
  rw [if_pos h3] at spec
  subst spec
  unfold oBE oRE rE
  simp only
  repeat' (first|((first|with_reducible refine qV tyOk fun K hK=>?_|with_reducible refine yD tyOk mixed 6 (by kernel_rfl) fun K hK=>?_)<;>simp -dsimp (disch:=first|exact D|fail) only [go_sem,↓reduceIte,seval,eStp,Option.getD_none,gz,eCol,h3])|((with_reducible refine hK _ ?_);clear hK K)|refine Q1 ?_|((with_reducible refine qW (T:=TT) (b:=?_) ?_ ?_);rotate_left;exact rfl)|fail)
  refine Gq.done ?_
  simp -dsimp (disch:=first|exact D|fail) only [retQ,Tryz.results101,resVals,cellRV,resOf,St.rest,St.freeze,RT,go_sem,↓reduceIte,seval]
 rw [if_neg (by rw [h3];simp)] at spec
 have h3s:=h3.symm
 rcases idx_cases (fun u=>sEq u.name st.other) s.tables 0 with ⟨e2,_⟩|⟨j,hj,e2,_,_⟩
 case inr =>
  have e2:tblAt s.tables st.other=(j:Int):=by unfold tblAt;simpa using e2
  rw [e2,mx0_nat,decide_eq_true (show (0:Int)≤(j:Int) by omega)] at fs
  rw [e2,if_pos (by omega)] at spec
  subst spec
  unfold oBE oRE rE
  simp only
  repeat' (first|((first|with_reducible refine qV tyOk fun K hK=>?_|(refine AWP.isRegion 13 ?_;refine dX tyOk mixed [(0,5)] [(5,[(6,5)],[])] [5] 8 fun K hK=>?_;simp only [SG,segs] at hK ⊢)|with_reducible refine yD tyOk mixed 6 (by kernel_rfl) fun K hK=>?_|((with_reducible refine CallJ.is ?_);(((apply CallJ.lentI);(focus (simp -dsimp (disch:=first|exact D|fail) only [go_sem,↓reduceIte,seval,eStp,Option.getD_none,gz,eCol,h3s];rfl));(focus (first|exact (fs))))))|(with_reducible first|refine VCy.some fun K hK=>?_|refine VCy.step fun K hK=>?_))<;>simp -dsimp (disch:=first|exact D|fail) only [go_sem,↓reduceIte,seval,eStp,Option.getD_none,gz,eCol,h3s])|((with_reducible refine hK _ ?_);clear hK K)|(with_reducible refine VCy.intro fun K0 hK0=>?_)|((with_reducible refine VCy.fin ?_);(refine hK0 _ ?_);clear hK0 K0)|(with_reducible refine VCy.quiet ?_)|refine Q1 ?_|((with_reducible refine qW (T:=TT) (b:=?_) ?_ ?_);rotate_left;exact rfl)|fail)
  refine Gq.done ?_
  simp -dsimp (disch:=first|exact D|fail) only [retQ,Tryz.results101,resVals,cellRV,resOf,St.rest,St.freeze,RT,go_sem,↓reduceIte,seval]
 have e2:tblAt s.tables st.other=-1:=e2
 rw [e2,mx0_neg] at fs
 rw [e2,if_neg (by omega)] at spec
 repeat' (first|((first|((fail_if_success (refine AWP.isRegion 16 ?_));(with_reducible refine qV tyOk fun K hK=>?_))|(refine AWP.isRegion 13 ?_;refine dX tyOk mixed [(0,5)] [(5,[(6,5)],[])] [5] 8 fun K hK=>?_;simp only [SG,segs] at hK ⊢)|with_reducible refine yD tyOk mixed 6 (by kernel_rfl) fun K hK=>?_|((with_reducible refine CallJ.is ?_);(((apply CallJ.lentI);(focus (simp -dsimp (disch:=first|exact D|fail) only [go_sem,↓reduceIte,seval,eStp,Option.getD_none,gz,eCol,h3s];rfl));(focus (first|exact (fs))))))|(with_reducible first|refine VCy.some fun K hK=>?_|refine VCy.step fun K hK=>?_))<;>simp -dsimp (disch:=first|exact D|fail) only [go_sem,↓reduceIte,seval,eStp,Option.getD_none,gz,eCol,h3s])|((with_reducible refine hK _ ?_);clear hK K)|(with_reducible refine VCy.intro fun K0 hK0=>?_)|((with_reducible refine VCy.fin ?_);(refine hK0 _ ?_);clear hK0 K0)|(with_reducible refine VCy.quiet ?_)|refine Q1 ?_|((with_reducible refine qW (T:=TT) (b:=?_) ?_ ?_);rotate_left;exact rfl)|fail)
 cases h5:(s.fks.any fun f=>sEq f.ref t.name) with
 | true =>
  rw [h5] at spec cf
  rw [if_pos rfl] at spec
  subst spec
  unfold oBE oRE rE
  simp only
  repeat' (first|((first|with_reducible refine qV tyOk fun K hK=>?_|((with_reducible refine CallJ.is ?_);(((apply CallJ.lentI);(focus (simp -dsimp (disch:=first|exact D|fail) only [go_sem,↓reduceIte,seval,eStp,Option.getD_none];rfl));(focus (first|exact (cf)))))))<;>simp -dsimp (disch:=first|exact D|fail) only [go_sem,↓reduceIte,seval,eStp,Option.getD_none])|((with_reducible refine hK _ ?_);clear hK K)|refine Q1 ?_|((with_reducible refine qW (T:=TT) (b:=?_) ?_ ?_);rotate_left;exact rfl)|fail)
  refine Gq.done ?_
  simp -dsimp (disch:=first|exact D|fail) only [retQ,Tryz.results101,resVals,cellRV,resOf,St.rest,St.freeze,RT,go_sem,↓reduceIte,seval]
 | false =>
 rw [h5] at spec cf
 rw [if_neg (by simp)] at spec
 repeat' (first|((first|((fail_if_success (refine AWP.isRegion 18 ?_));(with_reducible refine qV tyOk fun K hK=>?_))|((with_reducible refine CallJ.is ?_);(((apply CallJ.lentI);(focus (simp -dsimp (disch:=first|exact D|fail) only [go_sem,↓reduceIte,seval,eStp,Option.getD_none];rfl));(focus (first|exact (cf)))))))<;>simp -dsimp (disch:=first|exact D|fail) only [go_sem,↓reduceIte,seval,eStp,Option.getD_none])|((with_reducible refine hK _ ?_);clear hK K)|refine Q1 ?_|((with_reducible refine qW (T:=TT) (b:=?_) ?_ ?_);rotate_left;exact rfl)|fail)
 refine AWP.keep [0,1,5,6,7] ?_
 simp -dsimp (disch:=first|exact D|fail) only [go_sem,↓reduceIte,seval,RT]
 refine AWP.frz [1000] [1000,1001,1002] ?_
 simp -dsimp (disch:=first|exact D|fail) only [go_sem,↓reduceIte,seval,RT,St.rest,St.freeze]
 have pf:=partFK_len t st
 have pc:=partCon_len t st
 repeat' (first|((with_reducible refine qV tyOk fun K hK=>?_)<;>simp -dsimp (disch:=first|exact D|fail) only [go_sem,↓reduceIte,seval,eTbl])|((with_reducible refine hK _ ?_);clear hK K)|refine Q1 ?_|fail)
 refine AWP.midB ⟨149,[(0,.v (.one (.ptr 1000 0))),(1,.v (oI i)),(5,.v (.one (.fz (eStp st)))),(6,.v (oI 0)),(7,.v (.one (.fz (eTbl t))))],[(1000,[.ref 1000 0 s.tables.length,.ref 2 0 (s.fks++partFK t st s.fks).length,.ref 1002 0 s.cons.length])],[(1000,⟨3,s.tables.map eTbl,[]⟩),(2,⟨3,(s.fks++partFK t st s.fks).map eFK,[]⟩),(1002,⟨7,s.cons.map eCon,[]⟩)]⟩ ?_ ?_
 ·refine AWP.loop (ι:={k:Nat // k≤s.fks.length} ⊕ {k:Nat // k≤s.fks.length}) (fun x=>match x with
   | .inl k=>⟨149,[(0,.v (.one (.ptr 1000 0))),(1,.v (oI i)),(5,.v (.one (.fz (eStp st)))),(6,.v (oI 0)),(7,.v (.one (.fz (eTbl t)))),(84,.v (.one (.ref 1001 0 s.fks.length))),(85,.v (oI s.fks.length)),(86,.v (oI k.1))],[(1000,[.ref 1000 0 s.tables.length,.ref 1001 0 (s.fks++partFK t st (s.fks.take k.1)).length,.ref 1002 0 s.cons.length])],[(1000,⟨3,s.tables.map eTbl,[]⟩),(1001,⟨3,(s.fks++partFK t st (s.fks.take k.1)).map eFK,[]⟩),(1002,⟨7,s.cons.map eCon,[]⟩)]⟩
   | .inr k=>⟨149,[(0,.v (.one (.ptr 1000 0))),(1,.v (oI i)),(5,.v (.one (.fz (eStp st)))),(6,.v (oI 0)),(7,.v (.one (.fz (eTbl t)))),(84,.v (.one (.ref 1001 0 s.fks.length))),(85,.v (oI s.fks.length)),(86,.v (oI k.1))],[(1000,[.ref 1000 0 s.tables.length,.ref 109 0 (s.fks++partFK t st (s.fks.take k.1)).length,.ref 1002 0 s.cons.length])],[(1000,⟨3,s.tables.map eTbl,[]⟩),(1001,⟨3,s.fks.map eFK,[]⟩),(109,⟨3,(s.fks++partFK t st (s.fks.take k.1)).map eFK,[]⟩),(1002,⟨7,s.cons.map eCon,[]⟩)]⟩)
   (fun x=>match x with|.inl k=>s.fks.length - k.1|.inr k=>s.fks.length - k.1) (.inl ⟨0,Nat.zero_le _⟩) ?_ fun x=>?_
  ·simp only [List.take_zero,show partFK t st []=[] from rfl,List.append_nil]
   refine St.le_mk ?_ ?_ ?_<;>simp only [LE,EN,Nat.reduceEqDiff,reduceIte,Nat.reduceSub,eStp,eTbl]
  rcases x with ⟨k,hkl⟩|⟨k,hkl⟩
  ·simp only at hkl ⊢
   rcases Nat.lt_or_ge k s.fks.length with hk|hk
   ·have sn:=partFK_snoc t st s.fks k hk
    have lk:=pf (s.fks.take k)
    rw [List.length_take] at lk
    obtain ⟨fb,hfb⟩:∃fb,s.fks[k]=fb:=⟨_,rfl⟩
    have mg:((s.fks++partFK t st (s.fks.take k)).map eFK).getD k []=eFK fb:=by
     rw [List.map_append,List.getD_eq_getElem?_getD,List.getElem?_append_left (by simpa using hk),←List.getD_eq_getElem?_getD,getD_map_lt _ _ _ hk,hfb]
    have bf:=(sm.fk s.fks[k] (List.getElem_mem hk)).1
    rw [hfb] at sn bf
    obtain ⟨N,hN⟩:∃N,partFK t st (s.fks.take k)=N:=⟨_,rfl⟩
    rw [hN] at sn mg lk ⊢
    have ci:=cloneInts_sat fb.cols (by omega)
    cases hT:sEq fb.table t.name with
    | false =>
     have hT':¬ fb.table.toList=t.name.toList:=by simpa [sEq] using hT
     rw [hT] at sn
     simp only [Bool.false_eq_true,if_false,List.append_nil] at sn
     repeat' (first|((with_reducible refine qV tyOk fun K hK=>?_)<;>simp -dsimp (disch:=first|exact D|fail) only [go_sem,↓reduceIte,seval,eTbl,eFK,mg,hT',Option.getD_none])|((with_reducible refine hK _ ?_);clear hK K)|refine Q1 ?_|((with_reducible refine qW (T:=TT) (b:=?_) ?_ ?_);rotate_left;exact rfl)|fail)
     refine ⟨.inl ⟨k+1,by omega⟩,by simp only;omega,?_⟩
     simp only [sn]
     refine St.le_mk ?_ ?_ ?_<;>simp only [LE,EN,Nat.reduceEqDiff,reduceIte,Nat.reduceSub,eStp,eTbl,eFK,List.length_append,List.length_cons,List.length_nil,Nat.zero_add,Nat.add_assoc,List.map_append,List.map_cons,List.map_nil,List.append_assoc]
    | true =>
     have hT':fb.table.toList=t.name.toList:=by simpa [sEq] using hT
     rw [hT] at sn
     simp only [if_true] at sn
     repeat' (first|((first|((fail_if_success (refine AWP.isRegion 23 ?_));(with_reducible refine qV tyOk fun K hK=>?_))|(refine AWP.isRegion 22 ?_;refine dX tyOk mixed [(0,9),(10,2)] [(9,[(12,1)],[(0,7),(10,2)]),(13,[],[(0,5)]),(14,[(15,2)],[(0,1)]),(17,[],[])] [9,13,14,17] 8 fun K hK=>?_;simp only [SG,segs] at hK ⊢)|((with_reducible refine CallJ.is ?_);(refine CallJ.pure (ci) ?_))|with_reducible refine VCy.app2 tyOk fun K hK=>?_|(with_reducible first|refine VCy.some fun K hK=>?_|refine VCy.step fun K hK=>?_))<;>simp -dsimp (disch:=first|exact D|fail) only [go_sem,↓reduceIte,seval,eTbl,eStp,eFK,mg,hT',Option.getD_none,app2K_rr])|((with_reducible refine hK _ ?_);clear hK K)|(with_reducible refine TwoK.mk ?_ ?_)|(with_reducible refine VCy.intro fun K0 hK0=>?_)|((with_reducible refine VCy.fin ?_);(refine hK0 _ ?_);clear hK0 K0)|(with_reducible first|refine VCy.quiet ?_|refine VCy.none ?_)|((with_reducible refine VCy.keep ?_ ?_);focus ((simp -dsimp (disch:=first|exact D|fail) only [go_sem,↓reduceIte,seval,Stable_cons,Stable_nil,sameA_some,sameA_none,eTbl,eStp,eFK,mg,hT',Option.getD_none,app2K_rr]);first|done|exact E|fail))|refine Q1 ?_|((with_reducible refine qW (T:=TT) (b:=?_) ?_ ?_);rotate_left;exact rfl)|fail)
     ·repeat' (first|((with_reducible refine qV tyOk fun K hK=>?_)<;>simp -dsimp (disch:=first|exact D|fail) only [go_sem,↓reduceIte,seval])|((with_reducible refine hK _ ?_);clear hK K)|refine Q1 ?_|fail)
      refine ⟨.inl ⟨k+1,by omega⟩,by simp only;omega,?_⟩
      simp only [sn]
      refine St.le_mk ?_ ?_ ?_<;>simp only [LE,EN,Nat.reduceEqDiff,reduceIte,Nat.reduceSub,eStp,eTbl,eFK,List.length_append,List.length_cons,List.length_nil,Nat.zero_add,Nat.add_assoc,List.map_append,List.map_cons,List.map_nil,List.append_assoc]
     ·refine AWP.cutR 1001 (s.fks.length) rfl rfl (by simp) ?_
      simp -dsimp (disch:=first|exact D|fail) only [go_sem,↓reduceIte,seval]
      have tk:List.take s.fks.length (List.map eFK (s.fks++N))=s.fks.map eFK:=by rw [List.map_append];exact List.take_left' (by simp)
      rw [tk]
      repeat' (first|((with_reducible refine qV tyOk fun K hK=>?_)<;>simp -dsimp (disch:=first|exact D|fail) only [go_sem,↓reduceIte,seval])|((with_reducible refine hK _ ?_);clear hK K)|refine Q1 ?_|fail)
      refine ⟨.inr ⟨k+1,by omega⟩,by simp only;omega,?_⟩
      simp only [sn]
      refine St.le_mk ?_ ?_ ?_<;>simp only [LE,EN,Nat.reduceEqDiff,reduceIte,Nat.reduceSub,eStp,eTbl,eFK,List.length_append,List.length_cons,List.length_nil,Nat.zero_add,Nat.add_assoc,List.map_append,List.map_cons,List.map_nil,List.append_assoc]
   ·have hk:k=s.fks.length:=by omega
    subst hk
    rw [List.take_length]
    repeat' (first|((with_reducible refine qV tyOk fun K hK=>?_)<;>simp -dsimp (disch:=first|exact D|fail) only [go_sem,↓reduceIte,seval])|((with_reducible refine hK _ ?_);clear hK K)|refine Q1 ?_|((with_reducible refine qW (T:=TT) (b:=?_) ?_ ?_);rotate_left;exact rfl)|fail)
    refine Gq.renR 1001 2 rfl rfl (by decide) (.inl (Nat.le_of_ble_eq_true rfl)) ?_
    simp -dsimp (disch:=first|exact D|fail) only [go_sem,↓reduceIte,seval,renR_mk,L.ren,L.ren0]
    refine Gq.done ⟨rfl,?_⟩
    refine St.le_mk ?_ ?_ ?_<;>simp only [LE,EN,Nat.reduceEqDiff,reduceIte,Nat.reduceSub,eStp,eTbl,eFK,List.length_append,List.length_cons,List.length_nil,Nat.zero_add,Nat.add_assoc,List.map_append,List.map_cons,List.map_nil,List.append_assoc]
  ·simp only at hkl ⊢
   rcases Nat.lt_or_ge k s.fks.length with hk|hk
   ·have sn:=partFK_snoc t st s.fks k hk
    have lk:=pf (s.fks.take k)
    rw [List.length_take] at lk
    obtain ⟨fb,hfb⟩:∃fb,s.fks[k]=fb:=⟨_,rfl⟩
    have mg:(s.fks.map eFK).getD k []=eFK fb:=by rw [getD_map_lt _ _ _ hk,hfb]
    have bf:=(sm.fk s.fks[k] (List.getElem_mem hk)).1
    rw [hfb] at sn bf
    obtain ⟨N,hN⟩:∃N,partFK t st (s.fks.take k)=N:=⟨_,rfl⟩
    rw [hN] at sn lk ⊢
    have ci:=cloneInts_sat fb.cols (by omega)
    cases hT:sEq fb.table t.name with
    | false =>
     have hT':¬ fb.table.toList=t.name.toList:=by simpa [sEq] using hT
     rw [hT] at sn
     simp only [Bool.false_eq_true,if_false,List.append_nil] at sn
     repeat' (first|((with_reducible refine qV tyOk fun K hK=>?_)<;>simp -dsimp (disch:=first|exact D|fail) only [go_sem,↓reduceIte,seval,eTbl,eFK,mg,hT',Option.getD_none])|((with_reducible refine hK _ ?_);clear hK K)|refine Q1 ?_|((with_reducible refine qW (T:=TT) (b:=?_) ?_ ?_);rotate_left;exact rfl)|fail)
     refine ⟨.inr ⟨k+1,by omega⟩,by simp only;omega,?_⟩
     simp only [sn]
     refine St.le_mk ?_ ?_ ?_<;>simp only [LE,EN,Nat.reduceEqDiff,reduceIte,Nat.reduceSub,eStp,eTbl,eFK,List.length_append,List.length_cons,List.length_nil,Nat.zero_add,Nat.add_assoc,List.map_append,List.map_cons,List.map_nil,List.append_assoc]
    | true =>
     have hT':fb.table.toList=t.name.toList:=by simpa [sEq] using hT
     rw [hT] at sn
     simp only [if_true] at sn
     repeat' (first|((first|with_reducible refine qV tyOk fun K hK=>?_|(refine AWP.isRegion 22 ?_;refine dX tyOk mixed [(0,9),(10,2)] [(9,[(12,1)],[(0,7),(10,2)]),(13,[],[(0,5)]),(14,[(15,2)],[(0,1)]),(17,[],[])] [9,13,14,17] 8 fun K hK=>?_;simp only [SG,segs] at hK ⊢)|((with_reducible refine CallJ.is ?_);(refine CallJ.pure (ci) ?_))|(with_reducible first|refine VCy.some fun K hK=>?_|refine VCy.step fun K hK=>?_))<;>simp -dsimp (disch:=first|exact D|fail) only [go_sem,↓reduceIte,seval,eTbl,eStp,eFK,mg,hT',Option.getD_none])|((with_reducible refine hK _ ?_);clear hK K)|(with_reducible refine VCy.intro fun K0 hK0=>?_)|((with_reducible refine VCy.fin ?_);(refine hK0 _ ?_);clear hK0 K0)|(with_reducible first|refine VCy.quiet ?_|refine VCy.none ?_)|((with_reducible refine VCy.keep ?_ ?_);focus ((simp -dsimp (disch:=first|exact D|fail) only [go_sem,↓reduceIte,seval,Stable_cons,Stable_nil,sameA_some,sameA_none,eTbl,eStp,eFK,mg,hT',Option.getD_none]);first|done|exact E|fail))|refine Q1 ?_|((with_reducible refine qW (T:=TT) (b:=?_) ?_ ?_);rotate_left;exact rfl)|fail)
     refine ⟨.inr ⟨k+1,by omega⟩,by simp only;omega,?_⟩
     simp only [sn]
     refine St.le_mk ?_ ?_ ?_<;>simp only [LE,EN,Nat.reduceEqDiff,reduceIte,Nat.reduceSub,eStp,eTbl,eFK,List.length_append,List.length_cons,List.length_nil,Nat.zero_add,Nat.add_assoc,List.map_append,List.map_cons,List.map_nil,List.append_assoc]
   ·have hk:k=s.fks.length:=by omega
    subst hk
    rw [List.take_length]
    repeat' (first|((with_reducible refine qV tyOk fun K hK=>?_)<;>simp -dsimp (disch:=first|exact D|fail) only [go_sem,↓reduceIte,seval])|((with_reducible refine hK _ ?_);clear hK K)|refine Q1 ?_|((with_reducible refine qW (T:=TT) (b:=?_) ?_ ?_);rotate_left;exact rfl)|fail)
    refine Gq.renR 109 2 rfl rfl (by decide) (.inl (Nat.le_of_ble_eq_true rfl)) ?_
    simp -dsimp (disch:=first|exact D|fail) only [go_sem,↓reduceIte,seval,renR_mk,L.ren,L.ren0]
    refine Gq.done ⟨rfl,?_⟩
    refine St.le_mk ?_ ?_ ?_<;>simp only [LE,EN,Nat.reduceEqDiff,reduceIte,Nat.reduceSub,eStp,eTbl,eFK,List.length_append,List.length_cons,List.length_nil,Nat.zero_add,Nat.add_assoc,List.map_append,List.map_cons,List.map_nil,List.append_assoc]
 repeat' (first|((with_reducible refine qV tyOk fun K hK=>?_)<;>simp -dsimp (disch:=first|exact D|fail) only [go_sem,↓reduceIte,seval,eTbl])|((with_reducible refine hK _ ?_);clear hK K)|refine Q1 ?_|fail)
 refine AWP.midB ⟨149,[(0,.v (.one (.ptr 1000 0))),(1,.v (oI i)),(5,.v (.one (.fz (eStp st)))),(6,.v (oI 0)),(7,.v (.one (.fz (eTbl t))))],[(1000,[.ref 1000 0 s.tables.length,.ref 2 0 (s.fks++partFK t st s.fks).length,.ref 3 0 (s.cons++partCon t st s.cons).length])],[(1000,⟨3,s.tables.map eTbl,[]⟩),(2,⟨3,(s.fks++partFK t st s.fks).map eFK,[]⟩),(3,⟨7,(s.cons++partCon t st s.cons).map eCon,[]⟩)]⟩ ?_ ?_
 ·refine AWP.loop (ι:={k:Nat // k≤s.cons.length} ⊕ {k:Nat // k≤s.cons.length}) (fun x=>match x with
   | .inl k=>⟨149,[(0,.v (.one (.ptr 1000 0))),(1,.v (oI i)),(5,.v (.one (.fz (eStp st)))),(6,.v (oI 0)),(7,.v (.one (.fz (eTbl t)))),(116,.v (.one (.ref 1002 0 s.cons.length))),(117,.v (oI s.cons.length)),(118,.v (oI k.1))],[(1000,[.ref 1000 0 s.tables.length,.ref 2 0 (s.fks++partFK t st s.fks).length,.ref 1002 0 (s.cons++partCon t st (s.cons.take k.1)).length])],[(1000,⟨3,s.tables.map eTbl,[]⟩),(2,⟨3,(s.fks++partFK t st s.fks).map eFK,[]⟩),(1002,⟨7,(s.cons++partCon t st (s.cons.take k.1)).map eCon,[]⟩)]⟩
   | .inr k=>⟨149,[(0,.v (.one (.ptr 1000 0))),(1,.v (oI i)),(5,.v (.one (.fz (eStp st)))),(6,.v (oI 0)),(7,.v (.one (.fz (eTbl t)))),(116,.v (.one (.ref 1002 0 s.cons.length))),(117,.v (oI s.cons.length)),(118,.v (oI k.1))],[(1000,[.ref 1000 0 s.tables.length,.ref 2 0 (s.fks++partFK t st s.fks).length,.ref 137 0 (s.cons++partCon t st (s.cons.take k.1)).length])],[(1000,⟨3,s.tables.map eTbl,[]⟩),(2,⟨3,(s.fks++partFK t st s.fks).map eFK,[]⟩),(1002,⟨7,s.cons.map eCon,[]⟩),(137,⟨7,(s.cons++partCon t st (s.cons.take k.1)).map eCon,[]⟩)]⟩)
   (fun x=>match x with|.inl k=>s.cons.length - k.1|.inr k=>s.cons.length - k.1) (.inl ⟨0,Nat.zero_le _⟩) ?_ fun x=>?_
  ·simp only [List.take_zero,show partCon t st []=[] from rfl,List.append_nil]
   refine St.le_mk ?_ ?_ ?_<;>simp only [LE,EN,Nat.reduceEqDiff,reduceIte,Nat.reduceSub,eStp,eTbl,List.length_append]
  rcases x with ⟨k,hkl⟩|⟨k,hkl⟩
  ·simp only at hkl ⊢
   rcases Nat.lt_or_ge k s.cons.length with hk|hk
   ·have sn:=partCon_snoc t st s.cons k hk
    have lk:=pc (s.cons.take k)
    rw [List.length_take] at lk
    obtain ⟨fb,hfb⟩:∃fb,s.cons[k]=fb:=⟨_,rfl⟩
    have mg:((s.cons++partCon t st (s.cons.take k)).map eCon).getD k []=eCon fb:=by
     rw [List.map_append,List.getD_eq_getElem?_getD,List.getElem?_append_left (by simpa using hk),←List.getD_eq_getElem?_getD,getD_map_lt _ _ _ hk,hfb]
    rw [hfb] at sn
    obtain ⟨N,hN⟩:∃N,partCon t st (s.cons.take k)=N:=⟨_,rfl⟩
    rw [hN] at sn mg lk ⊢
    cases hT:sEq fb.table t.name with
    | false =>
     have hT':¬ fb.table.toList=t.name.toList:=by simpa [sEq] using hT
     rw [hT] at sn
     simp only [Bool.false_eq_true,if_false,List.append_nil] at sn
     repeat' (first|((with_reducible refine qV tyOk fun K hK=>?_)<;>simp -dsimp (disch:=first|exact D|fail) only [go_sem,↓reduceIte,seval,eTbl,eCon,mg,hT',Option.getD_none])|((with_reducible refine hK _ ?_);clear hK K)|refine Q1 ?_|((with_reducible refine qW (T:=TT) (b:=?_) ?_ ?_);rotate_left;exact rfl)|fail)
     refine ⟨.inl ⟨k+1,by omega⟩,by simp only;omega,?_⟩
     simp only [sn]
     refine St.le_mk ?_ ?_ ?_<;>simp only [LE,EN,Nat.reduceEqDiff,reduceIte,Nat.reduceSub,eStp,eTbl,eCon,List.length_append,List.length_cons,List.length_nil,Nat.zero_add,Nat.add_assoc,List.map_append,List.map_cons,List.map_nil,List.append_assoc]
    | true =>
     have hT':fb.table.toList=t.name.toList:=by simpa [sEq] using hT
     rw [hT] at sn
     simp only [if_true] at sn
     repeat' (first|((first|((fail_if_success (refine AWP.isRegion 30 ?_));(with_reducible refine qV tyOk fun K hK=>?_))|(refine AWP.isRegion 29 ?_;refine dX tyOk mixed [(0,6)] [(6,[],[(0,5)]),(7,[(8,2)],[(0,1)]),(10,[],[])] [6,7,10] 8 fun K hK=>?_;simp only [SG,segs] at hK ⊢)|with_reducible refine VCy.app2 tyOk fun K hK=>?_|(with_reducible first|refine VCy.some fun K hK=>?_|refine VCy.step fun K hK=>?_))<;>simp -dsimp (disch:=first|exact D|fail) only [go_sem,↓reduceIte,seval,eTbl,eStp,eCon,mg,hT',Option.getD_none,app2K_rr])|((with_reducible refine hK _ ?_);clear hK K)|(with_reducible refine TwoK.mk ?_ ?_)|(with_reducible refine VCy.intro fun K0 hK0=>?_)|((with_reducible refine VCy.fin ?_);(refine hK0 _ ?_);clear hK0 K0)|(with_reducible first|refine VCy.quiet ?_|refine VCy.none ?_)|((with_reducible refine VCy.keep ?_ ?_);focus ((simp -dsimp (disch:=first|exact D|fail) only [go_sem,↓reduceIte,seval,Stable_cons,Stable_nil,sameA_some,sameA_none,eTbl,eStp,eCon,mg,hT',Option.getD_none,app2K_rr]);first|done|exact E|fail))|refine Q1 ?_|((with_reducible refine qW (T:=TT) (b:=?_) ?_ ?_);rotate_left;exact rfl)|fail)
     ·repeat' (first|((with_reducible refine qV tyOk fun K hK=>?_)<;>simp -dsimp (disch:=first|exact D|fail) only [go_sem,↓reduceIte,seval])|((with_reducible refine hK _ ?_);clear hK K)|refine Q1 ?_|fail)
      refine ⟨.inl ⟨k+1,by omega⟩,by simp only;omega,?_⟩
      simp only [sn]
      refine St.le_mk ?_ ?_ ?_<;>simp only [LE,EN,Nat.reduceEqDiff,reduceIte,Nat.reduceSub,eStp,eTbl,eCon,List.length_append,List.length_cons,List.length_nil,Nat.zero_add,Nat.add_assoc,List.map_append,List.map_cons,List.map_nil,List.append_assoc]
     ·refine AWP.cutR 1002 (s.cons.length) rfl rfl (by simp) ?_
      simp -dsimp (disch:=first|exact D|fail) only [go_sem,↓reduceIte,seval]
      have tk:List.take s.cons.length (List.map eCon (s.cons++N))=s.cons.map eCon:=by rw [List.map_append];exact List.take_left' (by simp)
      rw [tk]
      repeat' (first|((with_reducible refine qV tyOk fun K hK=>?_)<;>simp -dsimp (disch:=first|exact D|fail) only [go_sem,↓reduceIte,seval])|((with_reducible refine hK _ ?_);clear hK K)|refine Q1 ?_|fail)
      refine ⟨.inr ⟨k+1,by omega⟩,by simp only;omega,?_⟩
      simp only [sn]
      refine St.le_mk ?_ ?_ ?_<;>simp only [LE,EN,Nat.reduceEqDiff,reduceIte,Nat.reduceSub,eStp,eTbl,eCon,List.length_append,List.length_cons,List.length_nil,Nat.zero_add,Nat.add_assoc,List.map_append,List.map_cons,List.map_nil,List.append_assoc]
   ·have hk:k=s.cons.length:=by omega
    subst hk
    rw [List.take_length]
    repeat' (first|((with_reducible refine qV tyOk fun K hK=>?_)<;>simp -dsimp (disch:=first|exact D|fail) only [go_sem,↓reduceIte,seval])|((with_reducible refine hK _ ?_);clear hK K)|refine Q1 ?_|((with_reducible refine qW (T:=TT) (b:=?_) ?_ ?_);rotate_left;exact rfl)|fail)
    refine Gq.renR 1002 3 rfl rfl (by decide) (.inl (Nat.le_of_ble_eq_true rfl)) ?_
    simp -dsimp (disch:=first|exact D|fail) only [go_sem,↓reduceIte,seval,renR_mk,L.ren,L.ren0]
    refine Gq.done ⟨rfl,?_⟩
    refine St.le_mk ?_ ?_ ?_<;>simp only [LE,EN,Nat.reduceEqDiff,reduceIte,Nat.reduceSub,eStp,eTbl,eCon,List.length_append,List.length_cons,List.length_nil,Nat.zero_add,Nat.add_assoc,List.map_append,List.map_cons,List.map_nil,List.append_assoc]
  ·simp only at hkl ⊢
   rcases Nat.lt_or_ge k s.cons.length with hk|hk
   ·have sn:=partCon_snoc t st s.cons k hk
    have lk:=pc (s.cons.take k)
    rw [List.length_take] at lk
    obtain ⟨fb,hfb⟩:∃fb,s.cons[k]=fb:=⟨_,rfl⟩
    have mg:(s.cons.map eCon).getD k []=eCon fb:=by rw [getD_map_lt _ _ _ hk,hfb]
    rw [hfb] at sn
    obtain ⟨N,hN⟩:∃N,partCon t st (s.cons.take k)=N:=⟨_,rfl⟩
    rw [hN] at sn lk ⊢
    cases hT:sEq fb.table t.name with
    | false =>
     have hT':¬ fb.table.toList=t.name.toList:=by simpa [sEq] using hT
     rw [hT] at sn
     simp only [Bool.false_eq_true,if_false,List.append_nil] at sn
     repeat' (first|((with_reducible refine qV tyOk fun K hK=>?_)<;>simp -dsimp (disch:=first|exact D|fail) only [go_sem,↓reduceIte,seval,eTbl,eCon,mg,hT',Option.getD_none])|((with_reducible refine hK _ ?_);clear hK K)|refine Q1 ?_|((with_reducible refine qW (T:=TT) (b:=?_) ?_ ?_);rotate_left;exact rfl)|fail)
     refine ⟨.inr ⟨k+1,by omega⟩,by simp only;omega,?_⟩
     simp only [sn]
     refine St.le_mk ?_ ?_ ?_<;>simp only [LE,EN,Nat.reduceEqDiff,reduceIte,Nat.reduceSub,eStp,eTbl,eCon,List.length_append,List.length_cons,List.length_nil,Nat.zero_add,Nat.add_assoc,List.map_append,List.map_cons,List.map_nil,List.append_assoc]
    | true =>
     have hT':fb.table.toList=t.name.toList:=by simpa [sEq] using hT
     rw [hT] at sn
     simp only [if_true] at sn
     repeat' (first|((first|with_reducible refine qV tyOk fun K hK=>?_|(refine AWP.isRegion 29 ?_;refine dX tyOk mixed [(0,6)] [(6,[],[(0,5)]),(7,[(8,2)],[(0,1)]),(10,[],[])] [6,7,10] 8 fun K hK=>?_;simp only [SG,segs] at hK ⊢)|(with_reducible first|refine VCy.some fun K hK=>?_|refine VCy.step fun K hK=>?_))<;>simp -dsimp (disch:=first|exact D|fail) only [go_sem,↓reduceIte,seval,eTbl,eStp,eCon,mg,hT',Option.getD_none])|((with_reducible refine hK _ ?_);clear hK K)|(with_reducible refine VCy.intro fun K0 hK0=>?_)|((with_reducible refine VCy.fin ?_);(refine hK0 _ ?_);clear hK0 K0)|(with_reducible first|refine VCy.quiet ?_|refine VCy.none ?_)|((with_reducible refine VCy.keep ?_ ?_);focus ((simp -dsimp (disch:=first|exact D|fail) only [go_sem,↓reduceIte,seval,Stable_cons,Stable_nil,sameA_some,sameA_none,eTbl,eStp,eCon,mg,hT',Option.getD_none]);first|done|exact E|fail))|refine Q1 ?_|((with_reducible refine qW (T:=TT) (b:=?_) ?_ ?_);rotate_left;exact rfl)|fail)
     refine ⟨.inr ⟨k+1,by omega⟩,by simp only;omega,?_⟩
     simp only [sn]
     refine St.le_mk ?_ ?_ ?_<;>simp only [LE,EN,Nat.reduceEqDiff,reduceIte,Nat.reduceSub,eStp,eTbl,eCon,List.length_append,List.length_cons,List.length_nil,Nat.zero_add,Nat.add_assoc,List.map_append,List.map_cons,List.map_nil,List.append_assoc]
   ·have hk:k=s.cons.length:=by omega
    subst hk
    rw [List.take_length]
    repeat' (first|((with_reducible refine qV tyOk fun K hK=>?_)<;>simp -dsimp (disch:=first|exact D|fail) only [go_sem,↓reduceIte,seval])|((with_reducible refine hK _ ?_);clear hK K)|refine Q1 ?_|((with_reducible refine qW (T:=TT) (b:=?_) ?_ ?_);rotate_left;exact rfl)|fail)
    refine Gq.renR 137 3 rfl rfl (by decide) (.inl (Nat.le_of_ble_eq_true rfl)) ?_
    simp -dsimp (disch:=first|exact D|fail) only [go_sem,↓reduceIte,seval,renR_mk,L.ren,L.ren0]
    refine Gq.done ⟨rfl,?_⟩
    refine St.le_mk ?_ ?_ ?_<;>simp only [LE,EN,Nat.reduceEqDiff,reduceIte,Nat.reduceSub,eStp,eTbl,eCon,List.length_append,List.length_cons,List.length_nil,Nat.zero_add,Nat.add_assoc,List.map_append,List.map_cons,List.map_nil,List.append_assoc]
 have ct:=cloneTable_sat t (by omega) (by omega)
 have it:=insertTable_satM s.tables ((s.fks++partFK t st s.fks).map eFK) ((s.cons++partCon t st s.cons).map eCon) (s.fks++partFK t st s.fks).length (s.cons++partCon t st s.cons).length {t with name:=st.other} (by omega)
 have pl:=(ginsS_perm cmpT 0 (s.tables.length+1) (s.tables++[{t with name:=st.other}])).length_eq
 rw [List.length_append,List.length_singleton] at pl
 simp only [eTbl,eCols,eInts] at it ct
 have spec:.ok (insertT ⟨s.tables,s.fks++partFK t st s.fks,s.cons++partCon t st s.cons⟩ {t with name:=st.other})=R:=spec
 subst spec
 unfold oBE oRE oB1 oR1 insertT rE
 simp only [pl]
 repeat' (first|((first|with_reducible refine qV tyOk fun K hK=>?_|((with_reducible refine CallJ.is ?_);refine CallJ.io [(1000,1000)] [(1000,1000),(1001,2),(1002,3)] [(1000,1000)] [(11,11),(1001,2),(1002,3)] [] [1000,11] [1000,1000] [1000,2,3,11,2,3] (it) rfl ⟨rfl,rfl,rfl,rfl⟩ ?_ ?_ ?_)|((with_reducible refine CallJ.is ?_);(refine CallJ.pure (ct) ?_)))<;>simp -dsimp (disch:=first|exact D|fail) only [go_sem,↓reduceIte,seval,okIds_ref,Option.getD_none,eTbl,eStp,dropL_nil,dropL_nil',dropL_cons])|((with_reducible refine hK _ ?_);clear hK K)|refine Q1 ?_|fail)
 refine Gq.renR 11 1 rfl rfl (by decide) (.inl (Nat.le_of_ble_eq_true rfl)) ?_
 simp -dsimp (disch:=first|exact D|fail) only [go_sem,↓reduceIte,seval,renR_mk,L.ren,L.ren0]
 refine Gq.done ?_
 simp -dsimp (disch:=first|exact D|fail) only [retQ,Tryz.results101,resVals,cellRV,resOf,St.rest,St.freeze,RT,go_sem,↓reduceIte,seval]
end Go.Bw
