/-
  WHAT IS PROVED HERE, of this translation: equalTables_sat, equalFuncTbl_sat, schEqual_sat, stpEqual_sat, schClone_own, addColumn_satM, conE_zero, pkOk_of, smallS_of, evValidate_sat, evApply_2, evApply_5, .., scrApply_ne, goG_ok, goG_ne, verSchemas_ok, verSchemas_ne, grOk_of, getD_edge, revTo_zero, revTo_all, verSchema_ne, gr0_fits.
  A theorem that ends in sat says what the function it names returns, whatever the state it is called in; the bounds on its arguments stand ahead of it.
-/
import Derived.Test.YtjjnchbfjbjemaaGreatVo
import Derived.Test.YtjjnchbfjbjemaaGreatVp
set_option linter.unusedSimpArgs false
set_option linter.unusedVariables false
namespace Go.Bw
open Go.Proofs
attribute [local go_sem ↓] VOps_nil VOps_cons VOp_callJ VVal_callH VOps_guard GOn_tt GOn_ff GOn_tf GOn_ft GOn_not GOn_none HOn_none HOn_tt HOn_ff HOn_tf HOn_ft HOn_not VHead_nil VHead_cons VHead_guard VVal_move VVal_assign VVal_pickE pickK_true pickK_false VVal_not VVal_neg negK_int VVal_load loadK_fz loadK_ptr loadK_eptr VVal_fieldAddr VVal_field VVal_indexAddr idxK_sl idxK_ref VVal_index indexK_str VVal_extract VVal_binOp binK_one binK_agg VVal_build VVal_buildSlice VVal_makeFunc VVal_slice sliceK_str sliceK_sl sliceK_nil sliceK_ref VVal_slice3 VVal_nilCheck VVal_convert convKk_int convKk_str VVal_len VVal_max VVal_min VOp_assign assignK_int assignK_bool assignK_str assignK_clo assignK_sl assignK_nil assignK_ref assignK_agg assignK_fz assignK_ptr assignK_eptr assignK_any VOp_box VOp_alloc VOp_store storeK_ptr storeK_eptr VOp_buildSlice VOp_append appK_rr appK_rs appK_rn appK_ri appK_nr appK_ns appK_nn appK_ni appStd_eq VOp_copy copyK_ref VOp_clear clearK_ref VOp_cap VOp_eqNil VOp_move VOp_pick VOp_not VOp_neg VOp_load VOp_fieldAddr VOp_field VOp_indexAddr VOp_index VOp_extract VOp_binTmp VOp_binInt VOp_binStr VOp_binPtr VOp_build VOp_makeFunc VOp_slice VOp_nilCheck VOp_convert VOp_len VOp_max VOp_min mO_some mT_some pk_some pk_none look_cons del_cons
attribute [local go_sem] guardB gOf int_bne beq_true beq_false Bool.not_not gSlot pickK_true pickK_false negK_int loadK_fz loadK_ptr loadK_eptr idxK_sl idxK_ref indexK_str binK_one binK_agg sliceK_str sliceK_sl sliceK_nil sliceK_ref convKk_int convKk_str maxL minL assignK_int assignK_bool assignK_str assignK_clo assignK_sl assignK_nil assignK_ref assignK_agg assignK_fz assignK_ptr assignK_eptr assignK_any nilRow_eq takeRow_eq appended_eq storeK_ptr storeK_eptr store_mk appIn_eq appMk_eq marked_eq ovOut_nil ovOut_cons ovIn_nil ovIn_cons padRow_eq ysC capK_nil capK_ref ioSt_mk outB_nil outR_nil outB outR inB_nil inB_cons inR_nil inR_cons L.kl L.kl0 L.ids L.ids0 Option.getD_some evalO constA mO_some mT_some put_mk putO_some putO_none okD_some okD_none pk_some pk_none look_nil del_nil sput noBox_mk noRow_mk newBox_eq newRow0_eq St.killRow RowC.kill rowMap_mk rowOf ovAll ovAdd ovDel ovGet ovShift dstOf ysOf overlay_nil overlay_nil' overlay A.map V.map L.noPtr L.noPtr0 L.noRow L.noRow0 L.peek L.norm L.flat clos_int clos_bool clos_str clos_sl clos_nil clos_any clos_fz L.clos L.isFz L.kd moveL fieldOff eqCells eqCell eqOp oneOf boolOf intOfA tupOf vOf aggOf isPtrLike isSlice lenKind lenL nL elemTI loadV asV binL intBin intDivL shrL boolBin strBin strAdd ptrNil boundN partCells fillL placesOf setL chunks repL capsOf capL callOf argsOf frzV_int frzV_bool frzV_str frzV_sl frzV_nil frzV_fz frzV_any frzV_own frzV_clo frzV_ref frzV_eptr frzV_ptr frzRow_nil frzRow_ov frzRs_nil frzRs_cons frzCs_nil frzCs_cons frzO_some frzO_none frzN_int frzN_bool frzN_str frzN_sl frzN_nil frzN_any frzN_own List.map_cons List.map_nil List.cons_append List.nil_append List.append_nil List.length_cons List.length_nil List.length_map List.length_append List.headD_cons List.tail_cons List.getElem?_cons_zero List.getElem?_cons_succ List.drop_zero List.drop_succ_cons List.drop_nil List.take_succ_cons List.take_zero List.take_nil List.take_length List.filter_cons List.filter_nil List.elem_cons List.elem_nil List.all_cons List.all_nil Option.bind_some Option.map_some Option.some.injEq bne_self_eq_false beq_self_eq_true if_true if_false Bool.false_eq_true true_and and_true and_self Nat.zero_add Nat.add_zero Nat.zero_le Int.toNat_natCast Int.toNat_zero Option.isSome_some List.getElem?_toArray decide_true decide_false ge_iff_le gt_iff_lt Bool.not_true Bool.not_false Nat.le_refl Bool.and_true Bool.true_and Bool.and_false Bool.false_and eVal eRow eRow1 eRows eInt1 eInts eCol eCols eTbl eTbls eFK eFKs eCon eCons eSch eRel eInst eChg eChgs szOf getD_map_lt wrap_nat wrap_in List.take_of_length_le frz_eVal frz_eRow1 frz_eInt1 frz_eCol frz_eTbl frz_eFK frz_eCon frz_eRel frz_eChg noOwn_nil noOwn_cons noOwn_append L.isOwn noOwn_eVal noOwn_eRow1 noOwn_eInt1 noOwn_eCol noOwn_eTbl noOwn_eFK noOwn_eCon noOwn_eRel noOwn_eChg convK_2 convK_3 convK_5 convK_12 convK_21 convK_32 convK_95 convK_119 convK_122 convK_152 convK_169 TT_2 TT_3 TT_4 TT_5 TT_9 TT_12 TT_13 TT_21 TT_22 TT_23 TT_24 TT_25 TT_26 TT_27 TT_28 TT_29 TT_31 TT_32 TT_36 TT_37 TT_42 TT_43 TT_44 TT_48 TT_49 TT_56 TT_61 TT_72 TT_73 TT_74 TT_85 TT_86 TT_89 TT_90 TT_91 TT_92 TT_95 TT_98 TT_113 TT_114 TT_116 TT_117 TT_119 TT_122 TT_145 TT_152 TT_169 boolTy_4 eqK_37 eqK_90 eqK_92 eqK_114
attribute [local congr] VOps.congr VHead.congr VOp.congr VVal.congr pk.congr assignK.congr appK.congr appStd.congr copyK.congr clearK.congr storeK.congr loadK.congr idxK.congr sliceK.congr indexK.congr binK.congr convKk.congr
theorem equalTables_sat (a b:Tbl) (h1:a.cols.length≤140737488355328) (h2:b.cols.length≤140737488355328) (h3:a.pk.length≤140737488355328):Sat Tryz.prog 36 [.agg (eTbl a),.agg (eTbl b)] (.v (oB (decide (a=b)))):=by
 have sp:decide (a=b)=(sEq a.name b.name&&(decide (a.cols=b.cols)&&decide (a.pk=b.pk))):=by
  rw [Bool.eq_iff_iff]
  simp only [Bool.and_eq_true,sEq_iff,decide_eq_true_eq]
  constructor
  ·rintro rfl;exact ⟨rfl,rfl,rfl⟩
  ·rintro ⟨h1,h2,h3⟩;cases a;cases b;simp_all
 rw [sp]
 refine sS tyOk Tryz.func36 fun w0 m0 F0=>?_
 simp only [Tryz.ntmps36,envOf,Nat.reduceAdd]
 repeat' (first|((first|with_reducible refine qV tyOk fun K hK=>?_|refine Q2 ?_|((with_reducible refine qS ?_ ?_)<;>(intro h;try simp only [NM] at h))|((with_reducible refine CallJ.is ?_);(first|refine CallJ.pure (equalCols_sat a.cols b.cols h1 h2) ?_|refine CallJ.pure (equalInts_sat a.pk b.pk h3) ?_)))<;>simp -dsimp (disch:=first|exact D|fail) only [go_sem,↓reduceIte,seval])|((with_reducible refine hK _ ?_);clear hK K)|refine Q1 ?_|fail)
 all_goals simp -dsimp (disch:=first|exact D|fail) only [retQ,Tryz.results36,resVals,cellRV,resOf,St.rest,St.freeze,RT,go_sem,↓reduceIte,seval]
 all_goals simp_all [sEq]
set_option maxHeartbeats 8000000 in
theorem equalFuncTbl_sat (a b : List Tbl) (h1 : a.length ≤ 140737488355328) (h2 : b.length ≤ 140737488355328) (h3 : ∀ t ∈ a, t.cols.length ≤ 140737488355328 ∧ t.pk.length ≤ 140737488355328) (h4 : ∀ t ∈ b, t.cols.length ≤ 140737488355328) :
    Sat Tryz.prog 27 [.one (eTbls a), .one (eTbls b), .one (.clo 36 [])] (.v (oB (decide (a = b)))) := by
  refine sS tyOk Tryz.func27 fun w0 m0 F0 => ?_
  simp only [Tryz.ntmps27, envOf, Nat.reduceAdd]
  repeat' (first | ((with_reducible refine qV tyOk fun K hK => ?_) <;> simp -dsimp (disch := first | exact D | fail) only [go_sem, ↓reduceIte, seval]) | ((with_reducible refine hK _ ?_); clear hK K) | refine Q1 ?_ | ((with_reducible refine qW (T := TT) (b := ?_) ?_ ?_); rotate_left; exact rfl) | ((with_reducible refine yS ?_ ?_) <;> (intro h; try simp only [NM] at h)) | fail)
  rotate_left
  · simp -dsimp (disch := first | exact D | fail) only [retQ, Tryz.results27, resVals, cellRV, resOf, St.rest, St.freeze, RT, go_sem, ↓reduceIte, seval]
    have hn : ¬ a = b := fun e => by rw [e] at h; exact h rfl
    simp [hn]
  have hl : a.length = b.length := by omega
  refine AWP.loop (ι := {k : Nat // k ≤ a.length ∧ a.take k = b.take k}) (fun k => ⟨32, [(1, .v (.one (eTbls b))), (2, .v (.one (.clo 36 []))), (15, .v (.one (eTbls a))), (16, .v (oI a.length)), (17, .v (oI k.1))], [], []⟩) (fun k => a.length - k.1) ⟨0, Nat.zero_le _, rfl⟩ ?_ fun ⟨k, hkl, hi⟩ => ?_
  · refine St.le_mk ?_ ?_ ?_ <;> simp only [LE, EN, Nat.reduceEqDiff, reduceIte, Nat.reduceSub]
  rcases Nat.lt_or_ge k a.length with hc | hc
  · have hb : k < b.length := by omega
    repeat' (first | ((first | with_reducible refine qV tyOk fun K hK => ?_ | ((with_reducible refine CallJ.is ?_); (refine CallJ.pure (equalTables_sat a[k] b[k] (h3 _ (List.getElem_mem hc)).1 (h4 _ (List.getElem_mem hb)) (h3 _ (List.getElem_mem hc)).2) ?_))) <;> simp -dsimp (disch := first | exact D | fail) only [go_sem, ↓reduceIte, seval]) | ((with_reducible refine hK _ ?_); clear hK K) | refine Q1 ?_ | ((with_reducible refine qW (T := TT) (b := ?_) ?_ ?_); rotate_left; exact rfl) | ((with_reducible refine yS ?_ ?_) <;> (intro h; try simp only [NM] at h)) | fail)
    all_goals first
      | (refine ⟨⟨k + 1, by omega, take_eq_succ hc hb hi ‹_›⟩, by simp only; omega, ?_⟩
         refine St.le_mk ?_ ?_ ?_ <;> simp only [LE, EN, Nat.reduceEqDiff, reduceIte, Nat.reduceSub]
         done)
      | (have hn : ¬ a = b := fun e => ‹¬ _› (get_of_eq hc hb e)
         simp -dsimp (disch := first | exact D | fail) only [retQ, Tryz.results27, resVals, cellRV, resOf, St.rest, St.freeze, RT, go_sem, ↓reduceIte, seval]
         simp [hn])
  · have hk : a = b := by
      rw [List.take_of_length_le (by omega), List.take_of_length_le (by omega)] at hi
      exact hi
    repeat' (first | ((with_reducible refine qV tyOk fun K hK => ?_) <;> simp -dsimp (disch := first | exact D | fail) only [go_sem, ↓reduceIte, seval]) | ((with_reducible refine hK _ ?_); clear hK K) | refine Q1 ?_ | ((with_reducible refine qW (T := TT) (b := ?_) ?_ ?_); rotate_left; exact rfl) | fail)
    simp -dsimp (disch := first | exact D | fail) only [retQ, Tryz.results27, resVals, cellRV, resOf, St.rest, St.freeze, RT, go_sem, ↓reduceIte, seval]
    simp [hk]

set_option maxHeartbeats 8000000 in
theorem schEqual_sat (a b:Sch) (ha:a.Fits) (hb:b.Fits):Sat Tryz.prog 18 [.agg (eSch a),.agg (eSch b)] (.v (oB (decide (a=b)))):=by
 have sp:decide (a=b)=(decide (a.tables=b.tables)&&(decide (a.fks=b.fks)&&decide (a.cons=b.cons))):=by
  rw [Bool.eq_iff_iff]
  simp only [Bool.and_eq_true,decide_eq_true_eq]
  constructor
  ·rintro rfl;exact ⟨rfl,rfl,rfl⟩
  ·rintro ⟨h1,h2,h3⟩;cases a;cases b;simp_all
 rw [sp]
 refine sS tyOk Tryz.func18 fun w0 m0 F0=>?_
 simp only [Tryz.ntmps18,envOf,Nat.reduceAdd]
 repeat' (first|((first|with_reducible refine qV tyOk fun K hK=>?_|refine Q2 ?_|((with_reducible refine qS ?_ ?_)<;>(intro h;try simp only [NM] at h))|((with_reducible refine CallJ.is ?_);(first|refine CallJ.pure (equalFuncTbl_sat a.tables b.tables ha.tables hb.tables ha.table (fun t ht=>(hb.table t ht).1)) ?_|refine CallJ.pure (equalFuncFK_sat a.fks b.fks ha.fks hb.fks ha.fk) ?_|refine CallJ.pure (equalCons_sat a.cons b.cons ha.cons hb.cons) ?_)))<;>simp -dsimp (disch:=first|exact D|fail) only [go_sem,↓reduceIte,seval])|((with_reducible refine hK _ ?_);clear hK K)|refine Q1 ?_|fail)
 all_goals simp -dsimp (disch:=first|exact D|fail) only [retQ,Tryz.results18,resVals,cellRV,resOf,St.rest,St.freeze,RT,go_sem,↓reduceIte,seval]
 all_goals simp_all
set_option maxRecDepth 100000 in
set_option maxHeartbeats 16000000 in
theorem stpEqual_sat (a b:Stp) (ha:a.Fits) (hb:b.Fits):Sat Tryz.prog 93 [.agg (eStp a),.agg (eStp b)] (.v (oB (decide (a=b)))):=by
 have a1:=ha.cols
 have a2:=ha.ncols
 have a3:=ha.npk
 have a4:=ha.fk
 have b2:=hb.ncols
 have c1:=equalInts_sat a.cols b.cols (by omega)
 have c2:=equalTables_sat a.newTable b.newTable (by omega) (by omega) (by omega)
 have c3:=equalFKs2_sat a.fk b.fk (by omega)
 have c4:Sat Tryz.prog 28 [.agg (eTbl a.newTable),.agg (eTbl b.newTable)] (.v (oB (decide (a.newTable=b.newTable)))):=by
  refine sS tyOk Tryz.func28 fun w0 m0 F0=>?_
  simp only [Tryz.ntmps28,envOf,Nat.reduceAdd]
  repeat' (first|((first|with_reducible refine qV tyOk fun K hK=>?_|((with_reducible refine CallJ.is ?_);(refine CallJ.pure (c2) ?_)))<;>simp -dsimp (disch:=first|exact D|fail) only [go_sem,↓reduceIte,seval])|((with_reducible refine hK _ ?_);clear hK K)|refine Q1 ?_|fail)
  simp -dsimp (disch:=first|exact D|fail) only [retQ,Tryz.results28,resVals,cellRV,resOf,St.rest,St.freeze,RT,go_sem,↓reduceIte,seval]
 simp only [eTbl] at c4
 simp only [eFK] at c3
 refine sS tyOk Tryz.func93 fun w0 m0 F0=>?_
 simp only [Tryz.ntmps93,envOf,Nat.reduceAdd]
 refine qA ?_
 refine qV tyOk fun K hK=>?_
 simp -dsimp (disch:=first|exact D|fail) only [go_sem,↓reduceIte,seval,eStp]
 refine hK _ (qB ?_)
 clear hK K
 refine qA ?_
 refine qV tyOk fun K hK=>?_
 simp only [List.append_eq,List.cons_append,List.nil_append]
 simp -dsimp (disch:=first|exact D|fail) only [go_sem,↓reduceIte,seval,eStp]
 repeat' (first|((first|refine Q2 ?_|((with_reducible refine qS ?_ ?_)<;>(intro h;try simp only [NM] at h))|((with_reducible refine CallJ.is ?_);(first|refine CallJ.pure (c1) ?_|refine CallJ.pure (c4) ?_|refine CallJ.pure (c3) ?_)))<;>simp -dsimp (disch:=first|exact D|fail) only [go_sem,↓reduceIte,seval,eStp])|((with_reducible refine hK _ ?_);clear hK K)|refine Q1 ?_|fail)
 all_goals simp -dsimp (disch:=first|exact D|fail) only [retQ,Tryz.results93,resVals,cellRV,resOf,St.rest,St.freeze,RT,go_sem,↓reduceIte,seval]
 all_goals
  by_cases he:a=b
  ·have he':=stp_eq.1 he
   simp only [he,decide_true]
   all_goals simp_all
  ·have he':=fun q=>he (stp_eq.2 q)
   simp only [he,decide_false]
   all_goals simp_all
set_option maxHeartbeats 16000000 in
theorem schClone_own (s:Sch) (h1:s.tables.length≤1048576) (h2:s.fks.length≤1048576) (h3:s.cons.length≤1048576) (h4:∀t∈s.tables,t.cols.length≤1048576∧t.pk.length≤1048576) (h5:∀f∈s.fks,f.cols.length≤1048576) :
  SatM Tryz.prog 34 [.agg (eSch s)] [] [] (.v (.agg [.ref 24 0 s.tables.length,.ref 42 0 s.fks.length,.ref 10 0 s.cons.length])) [] [(24,⟨3,s.tables.map eTblO,[]⟩),(42,⟨3,s.fks.map eFKO,[]⟩),(10,⟨7,s.cons.map eCon,[]⟩)]:=by
 refine sM tyOk [] [24,42,10] Tryz.func34 fun w0 m0 F0=>?_
 simp only [Tryz.ntmps34,envOf,Nat.reduceAdd]
 repeat' (first|((first|((fail_if_success (refine AWP.isRegion 2 ?_));(with_reducible refine qV tyOk fun K hK=>?_))|((with_reducible refine CallJ.is ?_);refine CallJ.io [] [] [] [(2,10)] [] [10] [] [10] (cloneCons_own s.cons (by omega)) rfl ⟨rfl,rfl,rfl,rfl⟩ ?_ ?_ ?_))<;>simp -dsimp (disch:=first|exact D|fail) only [go_sem,↓reduceIte,seval,dropL_nil,dropL_nil',dropL_cons])|((with_reducible refine hK _ ?_);clear hK K)|refine Q1 ?_|fail)
 refine AWP.nilBox 3 0 24 rfl rfl (.inl (by show 24<46;decide)) ?_
 simp -dsimp (disch:=first|exact D|fail) only [go_sem,↓reduceIte,seval,nilBoxR_mk,List.set_cons_zero,List.set_cons_succ]
 repeat' (first|((with_reducible refine qV tyOk fun K hK=>?_)<;>simp -dsimp (disch:=first|exact D|fail) only [go_sem,↓reduceIte,seval])|((with_reducible refine hK _ ?_);clear hK K)|refine Q1 ?_|fail)
 refine AWP.loop (ι:={k:Nat // k≤s.tables.length}) (fun k=>⟨46,[(1,.v (.one (.ptr 1 0))),(2,.v (.one (.ptr 2 0))),(3,.v (.one (.ptr 3 0))),(13,.v (.one (.sl 3 (s.tables.map eTbl)))),(14,.v (oI s.tables.length)),(15,.v (oI k.1))],[(3,[.ref 24 0 k.1,.nil 3,.ref 10 0 s.cons.length]),(2,[.nil 3,.nil 3,.nil 7]),(1,eSch s)],[(24,⟨3,(s.tables.take k.1).map eTblO,[]⟩),(10,⟨7,s.cons.map eCon,[]⟩)]⟩) (fun k=>s.tables.length - k.1) ⟨0,Nat.zero_le _⟩ ?_ fun ⟨k,hkl⟩=>?_
 ·refine St.le_mk ?_ ?_ ?_<;>simp only [LE,EN,Nat.reduceEqDiff,reduceIte,Nat.reduceSub,eSch,List.map_nil]
 simp only at hkl ⊢
 have hlen:(s.tables.take k).length=k:=by simp;omega
 rcases Nat.lt_or_ge k s.tables.length with hc|hc
 ·have ht:=h4 s.tables[k] (List.getElem_mem hc)
  have es:=take_snoc s.tables k hc
  repeat' (first|((((fail_if_success (refine AWP.isRegion 5 ?_));(with_reducible refine qV tyOk fun K hK=>?_)))<;>simp -dsimp (disch:=first|exact D|fail) only [go_sem,↓reduceIte,seval])|((with_reducible refine hK _ ?_);clear hK K)|refine Q1 ?_|((with_reducible refine qW (T:=TT) (b:=?_) ?_ ?_);rotate_left;exact rfl)|fail)
  refine dX tyOk mixed [(0,3)] [(3,[],[(0,2)]),(4,[],[(0,2)]),(5,[(6,1)],[]),(7,[],[])] [3,4,5,7] 8 fun K hK=>?_
  simp only [SG,segs] at hK ⊢
  simp -dsimp (disch:=first|exact D|fail) only [go_sem,↓reduceIte,seval,hlen,Option.getD_none]
  repeat' (first|((first|((with_reducible refine CallJ.is ?_);refine CallJ.io [] [] [] [(7,22),(10,21)] [] [22,21] [] [22,21] (cloneTable_own s.tables[k] (by omega) (by omega)) rfl ⟨rfl,rfl,rfl,rfl⟩ ?_ ?_ ?_)|(with_reducible first|refine VCy.some fun K hK=>?_|refine VCy.step fun K hK=>?_))<;>simp -dsimp (disch:=first|exact D|fail) only [go_sem,↓reduceIte,seval,hlen,Option.getD_none,dropL_nil,dropL_nil',dropL_cons])|((with_reducible refine hK _ ?_);clear hK K)|(with_reducible refine VCy.intro fun K0 hK0=>?_)|((with_reducible refine VCy.fin ?_);(refine hK0 _ ?_);clear hK0 K0)|(with_reducible first|refine VCy.quiet ?_|refine VCy.none ?_)|((with_reducible refine VCy.keep ?_ ?_);focus ((simp -dsimp (disch:=first|exact D|fail) only [go_sem,↓reduceIte,seval,Stable_cons,Stable_nil,sameA_some,sameA_none,hlen,Option.getD_none,dropL_nil,dropL_nil',dropL_cons]);first|done|exact E|fail))|refine Q1 ?_|fail)
  refine AWP.close 24 k 1 22 rfl rfl (by decide) (by simp [ovGet]) (by simp;omega) (by show 1<3;decide) rfl ?_
  simp -dsimp (disch:=first|exact D|fail) only [go_sem,↓reduceIte,seval,closeR_mk,ovCut_cons,ovCut_nil]
  refine AWP.close 24 k 2 21 rfl rfl (by decide) (by simp [ovGet]) (by simp [setCell_length];omega) (by show 2<3;decide) rfl ?_
  simp -dsimp (disch:=first|exact D|fail) only [go_sem,↓reduceIte,seval,closeR_mk,ovCut_cons,ovCut_nil]
  rw [setCell_last eTblO _ k hlen.symm,setCell_last eTblO _ k hlen.symm]
  repeat' (first|((with_reducible refine qV tyOk fun K hK=>?_)<;>simp -dsimp (disch:=first|exact D|fail) only [go_sem,↓reduceIte,seval])|((with_reducible refine hK _ ?_);clear hK K)|refine Q1 ?_|fail)
  refine ⟨⟨k+1,by omega⟩,by simp only;omega,?_⟩
  refine St.le_mk ?_ ?_ ?_<;>simp only [LE,EN,Nat.reduceEqDiff,reduceIte,Nat.reduceSub,eSch,es,eTblO,List.map_append,List.map_cons,List.map_nil,List.set_cons_zero,List.set_cons_succ]
 ·have hk:k=s.tables.length:=by omega
  subst hk
  repeat' (first|((((fail_if_success (refine AWP.isRegion 7 ?_));(with_reducible refine qV tyOk fun K hK=>?_)))<;>simp -dsimp (disch:=first|exact D|fail) only [go_sem,↓reduceIte,seval])|((with_reducible refine hK _ ?_);clear hK K)|refine Q1 ?_|((with_reducible refine qW (T:=TT) (b:=?_) ?_ ?_);rotate_left;exact rfl)|fail)
  refine AWP.nilBox 3 1 42 rfl rfl (.inl (by show 42<46;decide)) ?_
  simp -dsimp (disch:=first|exact D|fail) only [go_sem,↓reduceIte,seval,nilBoxR_mk,List.set_cons_zero,List.set_cons_succ,List.take_length]
  repeat' (first|((with_reducible refine qV tyOk fun K hK=>?_)<;>simp -dsimp (disch:=first|exact D|fail) only [go_sem,↓reduceIte,seval])|((with_reducible refine hK _ ?_);clear hK K)|refine Q1 ?_|fail)
  refine AWP.loop (ι:={k:Nat // k≤s.fks.length}) (fun k=>⟨46,[(1,.v (.one (.ptr 1 0))),(2,.v (.one (.ptr 2 0))),(3,.v (.one (.ptr 3 0))),(28,.v (.one (.sl 3 (s.fks.map eFK)))),(29,.v (oI s.fks.length)),(30,.v (oI k.1))],[(3,[.ref 24 0 s.tables.length,.ref 42 0 k.1,.ref 10 0 s.cons.length]),(2,[.nil 3,.nil 3,.nil 7]),(1,eSch s)],[(42,⟨3,(s.fks.take k.1).map eFKO,[]⟩),(24,⟨3,s.tables.map eTblO,[]⟩),(10,⟨7,s.cons.map eCon,[]⟩)]⟩) (fun k=>s.fks.length - k.1) ⟨0,Nat.zero_le _⟩ ?_ fun ⟨k,hkl⟩=>?_
  ·refine St.le_mk ?_ ?_ ?_<;>simp only [LE,EN,Nat.reduceEqDiff,reduceIte,Nat.reduceSub,eSch,List.map_nil]
  simp only at hkl ⊢
  have hlen:(s.fks.take k).length=k:=by simp;omega
  rcases Nat.lt_or_ge k s.fks.length with hc|hc
  ·have hf:=h5 s.fks[k] (List.getElem_mem hc)
   have es:=take_snoc s.fks k hc
   repeat' (first|((first|((fail_if_success (refine AWP.isRegion 12 ?_));(with_reducible refine qV tyOk fun K hK=>?_))|((with_reducible refine CallJ.is ?_);refine CallJ.io [] [] [] [(2,36)] [] [36] [] [36] (cloneInts_own s.fks[k].cols (by omega)) rfl ⟨rfl,rfl,rfl,rfl⟩ ?_ ?_ ?_))<;>simp -dsimp (disch:=first|exact D|fail) only [go_sem,↓reduceIte,seval,hlen,dropL_nil,dropL_nil',dropL_cons])|((with_reducible refine hK _ ?_);clear hK K)|refine Q1 ?_|((with_reducible refine qW (T:=TT) (b:=?_) ?_ ?_);rotate_left;exact rfl)|fail)
   refine AWP.close 42 k 1 36 rfl rfl (by decide) (by simp [ovGet]) (by simp;omega) (by show 1<3;decide) rfl ?_
   simp -dsimp (disch:=first|exact D|fail) only [go_sem,↓reduceIte,seval,closeR_mk,ovCut_cons,ovCut_nil]
   rw [setCell_last eFKO _ k hlen.symm]
   repeat' (first|((with_reducible refine qV tyOk fun K hK=>?_)<;>simp -dsimp (disch:=first|exact D|fail) only [go_sem,↓reduceIte,seval])|((with_reducible refine hK _ ?_);clear hK K)|refine Q1 ?_|fail)
   refine ⟨⟨k+1,by omega⟩,by simp only;omega,?_⟩
   refine St.le_mk ?_ ?_ ?_<;>simp only [LE,EN,Nat.reduceEqDiff,reduceIte,Nat.reduceSub,eSch,es,eFKO,List.map_append,List.map_cons,List.map_nil,List.set_cons_zero,List.set_cons_succ]
  ·have hk:k=s.fks.length:=by omega
   subst hk
   repeat' (first|((with_reducible refine qV tyOk fun K hK=>?_)<;>simp -dsimp (disch:=first|exact D|fail) only [go_sem,↓reduceIte,seval])|((with_reducible refine hK _ ?_);clear hK K)|refine Q1 ?_|((with_reducible refine qW (T:=TT) (b:=?_) ?_ ?_);rotate_left;exact rfl)|fail)
   simp -dsimp (disch:=first|exact D|fail) only [retQ,Tryz.results34,resVals,cellRV,resOf,St.rest,St.freeze,RT,go_sem,↓reduceIte,seval]
   all_goals rw [List.take_length]
set_option maxHeartbeats 16000000 in
theorem addColumn_satM (s:Sch) (i:Nat) (st:Stp) (hi:i<s.tables.length) (sm:SmallS s) :
  SatM Tryz.prog 105 [.one (.ptr 1000 0),oI i,.agg (eStp st)] (iB s) (iR s) (.v (oI (rE (addC s i st)))) (oBE (addC s i st)) (oRE (addC s i st)):=by
 have df:=default_sat st.value ⟨st.column,st.typ,st.value.kind==0⟩
 have b1:=sm.tables
 have b2:=(sm.table s.tables[i] (List.getElem_mem hi)).1
 obtain ⟨t,ht⟩:∃t,s.tables[i]=t:=⟨_,rfl⟩
 have htA:tAt s i=t:=by unfold tAt;rw [getD_lt _ hi,ht]
 rw [ht] at b2
 have e0:s.tables.map eTblO=rowT s.tables i t:=by unfold rowT;rw [←ht,List.set_getElem_self]
 have rl:=rowT_len s.tables i t
 have rg:=fun t=>rowT_get (l:=s.tables) (k:=i) t hi
 unfold addC
 simp only
 by_cases hE:defaultE st.value ⟨st.column,st.typ,st.value.kind==0⟩=0
 ·rw [if_neg (by simpa using hE),htA]
  rw [hE] at df
  unfold iB iR oBE oRE oB1 oR1 rE setT
  simp only [List.length_set]
  rw [e0]
  refine sM tyOk [1000] [1,2,3] Tryz.func105 fun w0 m0 F0=>?_
  simp only [Tryz.ntmps105,envOf,Nat.reduceAdd]
  refine AWP.gq ?_
  repeat' (first|((first|((fail_if_success (refine AWP.isRegion 5 ?_));(with_reducible refine qV tyOk fun K hK=>?_))|((with_reducible refine CallJ.is ?_);(refine CallJ.pure (df) ?_)))<;>simp -dsimp (disch:=first|exact D|fail) only [go_sem,↓reduceIte,seval,eStp])|((with_reducible refine hK _ ?_);clear hK K)|refine Q1 ?_|((with_reducible refine qW (T:=TT) (b:=?_) ?_ ?_);rotate_left;exact rfl)|fail)
  refine AWP.openC 1000 i 1 2000 rfl (rowT_cell1 _ hi) rfl (by decide) (by decide) ?_
  simp -dsimp (disch:=first|exact D|fail) only [go_sem,↓reduceIte,seval,openR_mk]
  repeat' (first|((first|with_reducible refine qV tyOk fun K hK=>?_|(refine AWP.isRegion 5 ?_;refine dX tyOk mixed [(0,14)] [(14,[],[(0,13)]),(15,[(16,2)],[(0,5)]),(18,[],[])] [14,15,18] 8 fun K hK=>?_;simp only [SG,segs] at hK ⊢)|(with_reducible first|refine VCy.some fun K hK=>?_|refine VCy.step fun K hK=>?_))<;>simp -dsimp (disch:=first|exact D|fail) only [go_sem,↓reduceIte,seval,rl,rg,eTblO,Option.getD_none])|((with_reducible refine hK _ ?_);clear hK K)|(with_reducible refine VCy.intro fun K0 hK0=>?_)|((with_reducible refine VCy.fin ?_);(refine hK0 _ ?_);clear hK0 K0)|(with_reducible first|refine VCy.quiet ?_|refine VCy.none ?_)|((with_reducible refine VCy.keep ?_ ?_);focus ((simp -dsimp (disch:=first|exact D|fail) only [go_sem,↓reduceIte,seval,Stable_cons,Stable_nil,sameA_some,sameA_none,rl,rg,eTblO,Option.getD_none]);first|done|exact E|fail))|refine Q1 ?_|fail)
  refine Gq.close 1000 i 1 40 rfl rfl (by decide) (by simp [ovGet]) (by simp [rl];exact hi) (by show 1<3;decide) rfl ?_
  simp -dsimp (disch:=first|exact D|fail) only [go_sem,↓reduceIte,seval,closeR_mk,ovCut_cons,ovCut_nil]
  rw [setCell_set _ _ _ _ _ (by rw [rl];exact hi)]
  have e1:=rowT_set s.tables i t ⟨t.name,t.cols++[⟨st.column,st.typ,st.value.kind==0⟩],t.pk⟩
  simp only [eTblO,List.map_append,List.map_cons,List.map_nil,eCol] at e1
  simp only [List.set_cons_succ,List.set_cons_zero,e1]
  refine Gq.frzR 1000 rfl ?_
  simp -dsimp (disch:=first|exact D|fail) only [go_sem,↓reduceIte,seval,frzR_mk,frzTblO,frzFKO,frzXs_rowT]
  refine Gq.frzR 1001 rfl ?_
  simp -dsimp (disch:=first|exact D|fail) only [go_sem,↓reduceIte,seval,frzR_mk,frzTblO,frzFKO]
  refine Gq.renR 1000 1 rfl rfl (by decide) (.inl (Nat.le_of_ble_eq_true rfl)) ?_
  simp -dsimp (disch:=first|exact D|fail) only [go_sem,↓reduceIte,seval,renR_mk,L.ren,L.ren0]
  refine Gq.renR 1001 2 rfl rfl (by decide) (.inl (Nat.le_of_ble_eq_true rfl)) ?_
  simp -dsimp (disch:=first|exact D|fail) only [go_sem,↓reduceIte,seval,renR_mk,L.ren,L.ren0]
  refine Gq.renR 1002 3 rfl rfl (by decide) (.inl (Nat.le_of_ble_eq_true rfl)) ?_
  simp -dsimp (disch:=first|exact D|fail) only [go_sem,↓reduceIte,seval,renR_mk,L.ren,L.ren0]
  refine Gq.done ?_
  simp -dsimp (disch:=first|exact D|fail) only [retQ,Tryz.results105,resVals,cellRV,resOf,St.rest,St.freeze,RT,go_sem,↓reduceIte,seval]
  skip
 ·rw [if_pos hE]
  unfold iB iR oBE oRE rE
  simp only
  refine sM tyOk [1000] [1,2,3] Tryz.func105 fun w0 m0 F0=>?_
  simp only [Tryz.ntmps105,envOf,Nat.reduceAdd]
  repeat' (first|((first|with_reducible refine qV tyOk fun K hK=>?_|((with_reducible refine CallJ.is ?_);(refine CallJ.pure (df) ?_)))<;>simp -dsimp (disch:=first|exact D|fail) only [go_sem,↓reduceIte,seval,eStp,hE])|((with_reducible refine hK _ ?_);clear hK K)|refine Q1 ?_|((with_reducible refine qW (T:=TT) (b:=?_) ?_ ?_);rotate_left;exact rfl)|fail)
  simp -dsimp (disch:=first|exact D|fail) only [retQ,Tryz.results105,resVals,cellRV,resOf,St.rest,St.freeze,RT,go_sem,↓reduceIte,seval]
theorem conE_zero {s:Sch} {c:Con} (h:conE s c=0):∃i,∃hi:i<s.tables.length,tblAt s.tables c.table=(i:Int)∧0≤c.left∧c.left<s.tables[i].cols.length∧-1≤c.right∧c.right<s.tables[i].cols.length:=by
 unfold conE at h
 split at h
 ·cases h
 rename_i h0
 rcases idx_cases (fun t=>sEq t.name c.table) s.tables 0 with ⟨e1,_⟩|⟨i,hi,e1,_⟩
 ·have e1:tblAt s.tables c.table=-1:=e1
  omega
 have e1:tblAt s.tables c.table=(i:Int):=by unfold tblAt;simpa using e1
 simp only [e1,Int.toNat_natCast,getD_lt _ hi] at h
 split at h
 ·cases h
 rename_i h1
 refine ⟨i,hi,e1,?_⟩
 omega
theorem pkOk_of {s:Sch} (h:schE s=0):∀t∈s.tables,∀c∈t.pk,0≤c∧c<(t.cols.length:Int):=by
 intro t ht c hc
 have o:=(okSch_of h).tbl t ht
 obtain ⟨k,hk,rfl⟩:=List.mem_iff_getElem.1 hc
 have:=o.key k hk
 exact ⟨this.1,this.2.1⟩
theorem smallS_of {s:Sch} (h:schE s=0):SmallS s:=by
 have sm:=small_of h
 have ok:=okSch_of h
 obtain ⟨h1,h2,h3,h4⟩:=(schE_zero s).1 h
 refine ⟨sm.tables,fun t ht=>⟨(sm.table t ht).1,(sm.table t ht).2,fun c hc=>?_⟩,sm.fks,fun f hf=>⟨sm.fk f hf,fun c hc=>?_⟩,sm.cons,fun c hc=>?_⟩
 ·have:=pkOk_of h t ht c hc
  have:=(sm.table t ht).1
  omega
 ·obtain ⟨j,hj,rfl⟩:=List.mem_iff_getElem.1 hf
  have h5:=h3 j hj
  unfold fksE at h5
  split at h5
  ·cases h5
  rename_i h6
  obtain ⟨i,q,hi,hq,_,_,_,h8⟩:=fkE_zero (s:=s) (f:=s.fks[j]) (by simpa using h6)
  obtain ⟨k,hk,rfl⟩:=List.mem_iff_getElem.1 hc
  have:=h8 k hk
  have:=(sm.table _ (List.getElem_mem hi)).1
  omega
 ·obtain ⟨j,hj,rfl⟩:=List.mem_iff_getElem.1 hc
  have h5:=h4 j hj
  unfold consE at h5
  split at h5
  ·cases h5
  rename_i h6
  obtain ⟨i,hi,_,h7⟩:=conE_zero (s:=s) (c:=s.cons[j]) (by simpa using h6)
  have:=(sm.table _ (List.getElem_mem hi)).1
  omega
set_option maxHeartbeats 16000000 in
theorem evValidate_sat (st:Stp) (h:st.Fits):Sat Tryz.prog 75 [.agg (eStp st)] (.v (oI (evValE st))):=by
 have c1:=normalized_sat st
 have c2:=stpEqual_sat st (evNorm st) h (evNorm_fits h)
 by_cases k1:st.kind<1
 ·have spec:evValE st=3:=by unfold evValE;rw [if_pos (.inl k1)]
  rw [spec]
  obtain ⟨bx,hbx⟩:∃bx,eStp st=.int .i64 st.kind::bx:=⟨_,rfl⟩
  rw [hbx]
  refine sS tyOk Tryz.func75 fun w0 m0 F0=>?_
  simp only [Tryz.ntmps75,envOf,Nat.reduceAdd]
  repeat' (first|((first|with_reducible refine qV tyOk fun K hK=>?_|refine Q2 ?_|((with_reducible first|refine qS ?_ ?_|refine qT ?_ ?_|refine qU ?_ ?_)<;>(intro h;try simp only [NM] at h))|with_reducible refine yD tyOk mixed 6 (by kernel_rfl) fun K hK=>?_|((with_reducible refine CallJ.is ?_);(first|refine CallJ.pure (c1) ?_|refine CallJ.pure (c2) ?_|((apply CallJ.lentI);(focus (simp -dsimp (disch:=first|exact D|fail) only [go_sem,↓reduceIte,seval];rfl));(focus (first|exact (c1)|exact (c2))))))|((with_reducible refine CallH.is ?_);(first|refine CallH.intro (c1) ?_|refine CallH.intro (c2) ?_)))<;>simp -dsimp (disch:=first|exact D|fail) only [go_sem,↓reduceIte,seval])|((with_reducible refine hK _ ?_);clear hK K)|refine Q1 ?_|((with_reducible refine qW (T:=TT) (b:=?_) ?_ ?_);rotate_left;exact rfl)|((with_reducible refine yS ?_ ?_)<;>(intro h;try simp only [NM] at h)))
  simp -dsimp (disch:=first|exact D|fail) only [retQ,Tryz.results75,resVals,cellRV,resOf,St.rest,St.freeze,RT,go_sem,↓reduceIte,seval]
 by_cases k2:16<st.kind
 ·have spec:evValE st=3:=by unfold evValE;rw [if_pos (.inr (.inl k2))]
  rw [spec]
  obtain ⟨bx,hbx⟩:∃bx,eStp st=.int .i64 st.kind::bx:=⟨_,rfl⟩
  rw [hbx]
  refine sS tyOk Tryz.func75 fun w0 m0 F0=>?_
  simp only [Tryz.ntmps75,envOf,Nat.reduceAdd]
  repeat' (first|((first|with_reducible refine qV tyOk fun K hK=>?_|refine Q2 ?_|((with_reducible first|refine qS ?_ ?_|refine qT ?_ ?_|refine qU ?_ ?_)<;>(intro h;try simp only [NM] at h))|with_reducible refine yD tyOk mixed 6 (by kernel_rfl) fun K hK=>?_|((with_reducible refine CallJ.is ?_);(first|refine CallJ.pure (c1) ?_|refine CallJ.pure (c2) ?_|((apply CallJ.lentI);(focus (simp -dsimp (disch:=first|exact D|fail) only [go_sem,↓reduceIte,seval];rfl));(focus (first|exact (c1)|exact (c2))))))|((with_reducible refine CallH.is ?_);(first|refine CallH.intro (c1) ?_|refine CallH.intro (c2) ?_)))<;>simp -dsimp (disch:=first|exact D|fail) only [go_sem,↓reduceIte,seval])|((with_reducible refine hK _ ?_);clear hK K)|refine Q1 ?_|((with_reducible refine qW (T:=TT) (b:=?_) ?_ ?_);rotate_left;exact rfl)|((with_reducible refine yS ?_ ?_)<;>(intro h;try simp only [NM] at h)))
  simp -dsimp (disch:=first|exact D|fail) only [retQ,Tryz.results75,resVals,cellRV,resOf,St.rest,St.freeze,RT,go_sem,↓reduceIte,seval]
 by_cases k3:st=evNorm st
 ·have spec:evValE st=0:=by unfold evValE;rw [if_neg (by rintro (q|q|q);exact k1 q;exact k2 q;exact q k3)]
  rw [spec]
  rw [decide_eq_true k3] at c2
  refine sS tyOk Tryz.func75 fun w0 m0 F0=>?_
  simp only [Tryz.ntmps75,envOf,Nat.reduceAdd]
  repeat' (first|((first|with_reducible refine qV tyOk fun K hK=>?_|refine Q2 ?_|((with_reducible first|refine qS ?_ ?_|refine qT ?_ ?_|refine qU ?_ ?_)<;>(intro h;try simp only [NM] at h))|with_reducible refine yD tyOk mixed 6 (by kernel_rfl) fun K hK=>?_|((with_reducible refine CallJ.is ?_);(first|refine CallJ.pure (c1) ?_|refine CallJ.pure (c2) ?_|((apply CallJ.lentI);(focus (simp -dsimp (disch:=first|exact D|fail) only [go_sem,↓reduceIte,seval,eStp];rfl));(focus (first|exact (c1)|exact (c2))))))|((with_reducible refine CallH.is ?_);(first|refine CallH.intro (c1) ?_|refine CallH.intro (c2) ?_)))<;>simp -dsimp (disch:=first|exact D|fail) only [go_sem,↓reduceIte,seval,eStp])|((with_reducible refine hK _ ?_);clear hK K)|refine Q1 ?_|((with_reducible refine qW (T:=TT) (b:=?_) ?_ ?_);rotate_left;exact rfl)|((with_reducible refine yS ?_ ?_)<;>(intro h;try simp only [NM] at h)))
  simp -dsimp (disch:=first|exact D|fail) only [retQ,Tryz.results75,resVals,cellRV,resOf,St.rest,St.freeze,RT,go_sem,↓reduceIte,seval]
 ·have spec:evValE st=3:=by unfold evValE;rw [if_pos (.inr (.inr k3))]
  rw [spec]
  rw [decide_eq_false k3] at c2
  refine sS tyOk Tryz.func75 fun w0 m0 F0=>?_
  simp only [Tryz.ntmps75,envOf,Nat.reduceAdd]
  repeat' (first|((first|with_reducible refine qV tyOk fun K hK=>?_|refine Q2 ?_|((with_reducible first|refine qS ?_ ?_|refine qT ?_ ?_|refine qU ?_ ?_)<;>(intro h;try simp only [NM] at h))|with_reducible refine yD tyOk mixed 6 (by kernel_rfl) fun K hK=>?_|((with_reducible refine CallJ.is ?_);(first|refine CallJ.pure (c1) ?_|refine CallJ.pure (c2) ?_|((apply CallJ.lentI);(focus (simp -dsimp (disch:=first|exact D|fail) only [go_sem,↓reduceIte,seval,eStp];rfl));(focus (first|exact (c1)|exact (c2))))))|((with_reducible refine CallH.is ?_);(first|refine CallH.intro (c1) ?_|refine CallH.intro (c2) ?_)))<;>simp -dsimp (disch:=first|exact D|fail) only [go_sem,↓reduceIte,seval,eStp])|((with_reducible refine hK _ ?_);clear hK K)|refine Q1 ?_|((with_reducible refine qW (T:=TT) (b:=?_) ?_ ?_);rotate_left;exact rfl)|((with_reducible refine yS ?_ ?_)<;>(intro h;try simp only [NM] at h)))
  simp -dsimp (disch:=first|exact D|fail) only [retQ,Tryz.results75,resVals,cellRV,resOf,St.rest,St.freeze,RT,go_sem,↓reduceIte,seval]
set_option maxHeartbeats 32000000 in
theorem evApply_2 (s:Sch) (st:Stp) (sm:SmallS s) (hf:st.Fits) (hk:st.kind≠13∧st.kind≠14∧st.kind≠15∧st.kind≠16∧st.kind≠10) (h0:tblAt s.tables st.table=-1) :
  SatM Tryz.prog 76 [.one (.ptr 1000 0),.agg (eStp st)] (iB s) (iR s) (.v (oI (rE (evApply s st)))) (oBE (evApply s st)) (oRE (evApply s st)):=by
 have b1:=sm.tables
 have b3:=sm.fks
 have b4:=sm.cons
 have b5:∀f∈s.fks,f.cols.length≤1048576:=fun f hf=>by have:=(sm.fk f hf).1;omega
 have hc:=hf.cols
 have spec:evApply s st=.error 4:=by unfold evApply;rw [if_neg hk.1,if_neg hk.2.1,if_neg hk.2.2.1,if_neg hk.2.2.2.1,if_neg hk.2.2.2.2,h0];rfl
 have fs:=findTable_sat s st.table (by omega)
 rw [h0,mx0_neg] at fs
 obtain ⟨n1,n2,n3,n4,n5⟩:=hk
 rw [spec]
 unfold iB iR oBE oRE rE
 simp only
 refine sM tyOk [1000] [1,2,3] Tryz.func76 fun w0 m0 F0=>?_
 simp only [Tryz.ntmps76,envOf,Nat.reduceAdd]
 repeat' (first|((first|with_reducible refine qV tyOk fun K hK=>?_|(refine AWP.isRegion 14 ?_;refine dX tyOk mixed [(0,5)] [(5,[(6,5)],[])] [5] 8 fun K hK=>?_;simp only [SG,segs] at hK ⊢)|((with_reducible refine CallJ.is ?_);(((apply CallJ.lentI);(focus (simp -dsimp (disch:=first|exact D|fail) only [go_sem,↓reduceIte,seval,eStp,Option.getD_none,frz_eTblO,frz_eFKO];rfl));(focus (first|exact (fs))))))|(with_reducible first|refine VCy.some fun K hK=>?_|refine VCy.step fun K hK=>?_))<;>simp -dsimp (disch:=first|exact D|fail) only [go_sem,↓reduceIte,seval,eStp,Option.getD_none,frz_eTblO,frz_eFKO])|((with_reducible refine hK _ ?_);clear hK K)|(with_reducible refine VCy.intro fun K0 hK0=>?_)|((with_reducible refine VCy.fin ?_);(refine hK0 _ ?_);clear hK0 K0)|(with_reducible refine VCy.quiet ?_)|refine Q1 ?_|((with_reducible refine qW (T:=TT) (b:=?_) ?_ ?_);rotate_left;exact rfl)|fail)
 simp -dsimp (disch:=first|exact D|fail) only [retQ,Tryz.results76,resVals,cellRV,resOf,St.rest,St.freeze,RT,go_sem,↓reduceIte,seval]
set_option maxHeartbeats 32000000 in
theorem evApply_5 (s:Sch) (st:Stp) (sm:SmallS s) (hf:st.Fits) (hpk:∀t∈s.tables,PkOk t) (hk:st.kind≠13∧st.kind≠14∧st.kind≠15∧st.kind≠16∧st.kind≠10) (j:Nat) (hj:j<s.tables.length) (h0:tblAt s.tables st.table=(j:Int)) (hq:st.kind=12∨st.kind=1) :
  SatM Tryz.prog 76 [.one (.ptr 1000 0),.agg (eStp st)] (iB s) (iR s) (.v (oI (rE (evApply s st)))) (oBE (evApply s st)) (oRE (evApply s st)):=by
 have b1:=sm.tables
 have b3:=sm.fks
 have b4:=sm.cons
 have b5:∀f∈s.fks,f.cols.length≤1048576:=fun f hf=>by have:=(sm.fk f hf).1;omega
 have hc:=hf.cols
 have fs:=findTable_sat s st.table (by omega)
 rw [h0,mx0_nat,decide_eq_true (show (0:Int)≤(j:Int) by omega)] at fs
 have s0:evApply s st=(if st.kind=4 then renameT s j st.newName else if st.kind=6 then splitT s j st else if st.kind=7 then joinT s j st.other else if st.kind=8 then partT s j st else if st.kind=9 then mergeT s j st else if st.kind=11 then dropT s st.table else if st.kind=12 then concatC s j st else if st.kind=1 then addC s j st else alterC s j st):=by
  unfold evApply;rw [if_neg hk.1,if_neg hk.2.1,if_neg hk.2.2.1,if_neg hk.2.2.2.1,if_neg hk.2.2.2.2];simp only [h0,Int.toNat_natCast];rw [if_neg (by omega)]
 obtain ⟨n1,n2,n3,n4,n5⟩:=hk
 rcases hq with hq|hq
 ·have spec:evApply s st=concatC s j st:=by rw [s0,if_neg (by omega),if_neg (by omega),if_neg (by omega),if_neg (by omega),if_neg (by omega),if_neg (by omega),if_pos hq]
  have C:=concatColumns_satM s j st hj sm (by omega)
  rw [spec]
  generalize concatC s j st=r at C ⊢
  unfold iB iR at C ⊢
  refine sM tyOk [1000] [1,2,3] Tryz.func76 fun w0 m0 F0=>?_
  simp only [Tryz.ntmps76,envOf,Nat.reduceAdd]
  repeat' (first|((first|((fail_if_success (refine AWP.isRegion 31 ?_));(with_reducible refine qV tyOk fun K hK=>?_))|(refine AWP.isRegion 14 ?_;refine dX tyOk mixed [(0,5)] [(5,[(6,5)],[])] [5] 8 fun K hK=>?_;simp only [SG,segs] at hK ⊢)|refine Q2 ?_|((with_reducible first|refine qS ?_ ?_|refine qT ?_ ?_|refine qU ?_ ?_)<;>(intro h;try simp only [NM] at h))|((with_reducible refine CallJ.is ?_);(first|refine CallJ.pure (fs) ?_|((apply CallJ.lentI);(focus (simp -dsimp (disch:=first|exact D|fail) only [go_sem,↓reduceIte,seval,eStp,Option.getD_none,frz_eTblO,frz_eFKO];rfl));(focus (first|exact (fs))))))|(with_reducible first|refine VCy.some fun K hK=>?_|refine VCy.step fun K hK=>?_))<;>simp -dsimp (disch:=first|exact D|fail) only [go_sem,↓reduceIte,seval,eStp,Option.getD_none,frz_eTblO,frz_eFKO])|((with_reducible refine hK _ ?_);clear hK K)|(with_reducible refine VCy.intro fun K0 hK0=>?_)|((with_reducible refine VCy.fin ?_);(refine hK0 _ ?_);clear hK0 K0)|(with_reducible first|refine VCy.quiet ?_|refine VCy.none ?_)|((with_reducible refine VCy.keep ?_ ?_);focus ((simp -dsimp (disch:=first|exact D|fail) only [go_sem,↓reduceIte,seval,Stable_cons,Stable_nil,sameA_some,sameA_none,eStp,Option.getD_none,frz_eTblO,frz_eFKO]);first|done|exact E|fail))|refine Q1 ?_|((with_reducible refine qW (T:=TT) (b:=?_) ?_ ?_);rotate_left;exact rfl)|((with_reducible refine yS ?_ ?_)<;>(intro h;try simp only [NM] at h)))
  cases r with
  | error e =>
   unfold oBE oRE rE at C ⊢
   simp only [eStp] at C ⊢
   repeat' (first|((first|with_reducible refine qV tyOk fun K hK=>?_|refine Q2 ?_|((with_reducible first|refine qS ?_ ?_|refine qT ?_ ?_|refine qU ?_ ?_)<;>(intro h;try simp only [NM] at h))|((with_reducible refine CallJ.is ?_);refine CallJ.io [(1000,1000)] [(1000,1000),(1001,1001),(1002,1002)] [] [] [1000] [1000,1001,1002] [1000] [1000,1001,1002] (C) rfl ⟨rfl,rfl,rfl,rfl⟩ ?_ ?_ ?_))<;>simp -dsimp (disch:=first|exact D|fail) only [go_sem,↓reduceIte,seval,okIds_ref,Option.getD_none,eStp,eTbl,eFK,eCon,eInts,eCols,dropL_nil,dropL_nil',dropL_cons])|((with_reducible refine hK _ ?_);clear hK K)|refine Q1 ?_|((with_reducible refine qW (T:=TT) (b:=?_) ?_ ?_);rotate_left;exact rfl)|((with_reducible refine yS ?_ ?_)<;>(intro h;try simp only [NM] at h)))
   simp -dsimp (disch:=first|exact D|fail) only [retQ,Tryz.results76,resVals,cellRV,resOf,St.rest,St.freeze,RT,go_sem,↓reduceIte,seval]
  | ok R =>
   unfold oBE oRE oB1 oR1 rE at C ⊢
   simp only [eStp] at C ⊢
   repeat' (first|((first|with_reducible refine qV tyOk fun K hK=>?_|refine Q2 ?_|((with_reducible first|refine qS ?_ ?_|refine qT ?_ ?_|refine qU ?_ ?_)<;>(intro h;try simp only [NM] at h))|((with_reducible refine CallJ.is ?_);refine CallJ.io [(1000,1000)] [(1000,1000),(1001,1001),(1002,1002)] [(1000,1000)] [(1,1),(2,2),(3,3)] [] [1000,1001,1002,1,2,3] [1000,1000] [1000,1001,1002,1,2,3] (C) rfl ⟨rfl,rfl,rfl,rfl⟩ ?_ ?_ ?_))<;>simp -dsimp (disch:=first|exact D|fail) only [go_sem,↓reduceIte,seval,okIds_ref,Option.getD_none,eStp,eTbl,eFK,eCon,eInts,eCols,dropL_nil,dropL_nil',dropL_cons])|((with_reducible refine hK _ ?_);clear hK K)|refine Q1 ?_|((with_reducible refine qW (T:=TT) (b:=?_) ?_ ?_);rotate_left;exact rfl)|((with_reducible refine yS ?_ ?_)<;>(intro h;try simp only [NM] at h)))
   simp -dsimp (disch:=first|exact D|fail) only [retQ,Tryz.results76,resVals,cellRV,resOf,St.rest,St.freeze,RT,go_sem,↓reduceIte,seval]
 ·have spec:evApply s st=addC s j st:=by rw [s0,if_neg (by omega),if_neg (by omega),if_neg (by omega),if_neg (by omega),if_neg (by omega),if_neg (by omega),if_neg (by omega),if_pos hq]
  have C:=addColumn_satM s j st hj sm
  rw [spec]
  generalize addC s j st=r at C ⊢
  unfold iB iR at C ⊢
  refine sM tyOk [1000] [1,2,3] Tryz.func76 fun w0 m0 F0=>?_
  simp only [Tryz.ntmps76,envOf,Nat.reduceAdd]
  repeat' (first|((first|((fail_if_success (refine AWP.isRegion 33 ?_));(with_reducible refine qV tyOk fun K hK=>?_))|(refine AWP.isRegion 14 ?_;refine dX tyOk mixed [(0,5)] [(5,[(6,5)],[])] [5] 8 fun K hK=>?_;simp only [SG,segs] at hK ⊢)|refine Q2 ?_|((with_reducible first|refine qS ?_ ?_|refine qT ?_ ?_|refine qU ?_ ?_)<;>(intro h;try simp only [NM] at h))|((with_reducible refine CallJ.is ?_);(first|refine CallJ.pure (fs) ?_|((apply CallJ.lentI);(focus (simp -dsimp (disch:=first|exact D|fail) only [go_sem,↓reduceIte,seval,eStp,Option.getD_none,frz_eTblO,frz_eFKO];rfl));(focus (first|exact (fs))))))|(with_reducible first|refine VCy.some fun K hK=>?_|refine VCy.step fun K hK=>?_))<;>simp -dsimp (disch:=first|exact D|fail) only [go_sem,↓reduceIte,seval,eStp,Option.getD_none,frz_eTblO,frz_eFKO])|((with_reducible refine hK _ ?_);clear hK K)|(with_reducible refine VCy.intro fun K0 hK0=>?_)|((with_reducible refine VCy.fin ?_);(refine hK0 _ ?_);clear hK0 K0)|(with_reducible first|refine VCy.quiet ?_|refine VCy.none ?_)|((with_reducible refine VCy.keep ?_ ?_);focus ((simp -dsimp (disch:=first|exact D|fail) only [go_sem,↓reduceIte,seval,Stable_cons,Stable_nil,sameA_some,sameA_none,eStp,Option.getD_none,frz_eTblO,frz_eFKO]);first|done|exact E|fail))|refine Q1 ?_|((with_reducible refine qW (T:=TT) (b:=?_) ?_ ?_);rotate_left;exact rfl)|((with_reducible refine yS ?_ ?_)<;>(intro h;try simp only [NM] at h)))
  cases r with
  | error e =>
   unfold oBE oRE rE at C ⊢
   simp only [eStp] at C ⊢
   repeat' (first|((first|with_reducible refine qV tyOk fun K hK=>?_|refine Q2 ?_|((with_reducible first|refine qS ?_ ?_|refine qT ?_ ?_|refine qU ?_ ?_)<;>(intro h;try simp only [NM] at h))|((with_reducible refine CallJ.is ?_);refine CallJ.io [(1000,1000)] [(1000,1000),(1001,1001),(1002,1002)] [] [] [1000] [1000,1001,1002] [1000] [1000,1001,1002] (C) rfl ⟨rfl,rfl,rfl,rfl⟩ ?_ ?_ ?_))<;>simp -dsimp (disch:=first|exact D|fail) only [go_sem,↓reduceIte,seval,okIds_ref,Option.getD_none,eStp,eTbl,eFK,eCon,eInts,eCols,dropL_nil,dropL_nil',dropL_cons])|((with_reducible refine hK _ ?_);clear hK K)|refine Q1 ?_|((with_reducible refine qW (T:=TT) (b:=?_) ?_ ?_);rotate_left;exact rfl)|((with_reducible refine yS ?_ ?_)<;>(intro h;try simp only [NM] at h)))
   simp -dsimp (disch:=first|exact D|fail) only [retQ,Tryz.results76,resVals,cellRV,resOf,St.rest,St.freeze,RT,go_sem,↓reduceIte,seval]
  | ok R =>
   unfold oBE oRE oB1 oR1 rE at C ⊢
   simp only [eStp] at C ⊢
   repeat' (first|((first|with_reducible refine qV tyOk fun K hK=>?_|refine Q2 ?_|((with_reducible first|refine qS ?_ ?_|refine qT ?_ ?_|refine qU ?_ ?_)<;>(intro h;try simp only [NM] at h))|((with_reducible refine CallJ.is ?_);refine CallJ.io [(1000,1000)] [(1000,1000),(1001,1001),(1002,1002)] [(1000,1000)] [(1,1),(2,2),(3,3)] [] [1000,1001,1002,1,2,3] [1000,1000] [1000,1001,1002,1,2,3] (C) rfl ⟨rfl,rfl,rfl,rfl⟩ ?_ ?_ ?_))<;>simp -dsimp (disch:=first|exact D|fail) only [go_sem,↓reduceIte,seval,okIds_ref,Option.getD_none,eStp,eTbl,eFK,eCon,eInts,eCols,dropL_nil,dropL_nil',dropL_cons])|((with_reducible refine hK _ ?_);clear hK K)|refine Q1 ?_|((with_reducible refine qW (T:=TT) (b:=?_) ?_ ?_);rotate_left;exact rfl)|((with_reducible refine yS ?_ ?_)<;>(intro h;try simp only [NM] at h)))
   simp -dsimp (disch:=first|exact D|fail) only [retQ,Tryz.results76,resVals,cellRV,resOf,St.rest,St.freeze,RT,go_sem,↓reduceIte,seval]
set_option maxHeartbeats 32000000 in
theorem evApply_6 (s:Sch) (st:Stp) (sm:SmallS s) (hf:st.Fits) (hpk:∀t∈s.tables,PkOk t) (hk:st.kind≠13∧st.kind≠14∧st.kind≠15∧st.kind≠16∧st.kind≠10) (j:Nat) (hj:j<s.tables.length) (h0:tblAt s.tables st.table=(j:Int)) (hq:st.kind≠4∧st.kind≠6∧st.kind≠7∧st.kind≠8∧st.kind≠9∧st.kind≠11∧st.kind≠12∧st.kind≠1) :
  SatM Tryz.prog 76 [.one (.ptr 1000 0),.agg (eStp st)] (iB s) (iR s) (.v (oI (rE (evApply s st)))) (oBE (evApply s st)) (oRE (evApply s st)):=by
 have b1:=sm.tables
 have b3:=sm.fks
 have b4:=sm.cons
 have b5:∀f∈s.fks,f.cols.length≤1048576:=fun f hf=>by have:=(sm.fk f hf).1;omega
 have hc:=hf.cols
 have fs:=findTable_sat s st.table (by omega)
 rw [h0,mx0_nat,decide_eq_true (show (0:Int)≤(j:Int) by omega)] at fs
 have s0:evApply s st=(if st.kind=4 then renameT s j st.newName else if st.kind=6 then splitT s j st else if st.kind=7 then joinT s j st.other else if st.kind=8 then partT s j st else if st.kind=9 then mergeT s j st else if st.kind=11 then dropT s st.table else if st.kind=12 then concatC s j st else if st.kind=1 then addC s j st else alterC s j st):=by
  unfold evApply;rw [if_neg hk.1,if_neg hk.2.1,if_neg hk.2.2.1,if_neg hk.2.2.2.1,if_neg hk.2.2.2.2];simp only [h0,Int.toNat_natCast];rw [if_neg (by omega)]
 obtain ⟨n1,n2,n3,n4,n5⟩:=hk
 have spec:evApply s st=alterC s j st:=by rw [s0,if_neg (by omega),if_neg (by omega),if_neg (by omega),if_neg (by omega),if_neg (by omega),if_neg (by omega),if_neg (by omega),if_neg (by omega)]
 have C:=alterColumn_satM s j st hj sm
 rw [spec]
 generalize alterC s j st=r at C ⊢
 unfold iB iR at C ⊢
 refine sM tyOk [1000] [1,2,3] Tryz.func76 fun w0 m0 F0=>?_
 simp only [Tryz.ntmps76,envOf,Nat.reduceAdd]
 repeat' (first|((first|((fail_if_success (refine AWP.isRegion 34 ?_));(with_reducible refine qV tyOk fun K hK=>?_))|(refine AWP.isRegion 14 ?_;refine dX tyOk mixed [(0,5)] [(5,[(6,5)],[])] [5] 8 fun K hK=>?_;simp only [SG,segs] at hK ⊢)|((with_reducible refine CallJ.is ?_);(((apply CallJ.lentI);(focus (simp -dsimp (disch:=first|exact D|fail) only [go_sem,↓reduceIte,seval,eStp,Option.getD_none,frz_eTblO,frz_eFKO];rfl));(focus (first|exact (fs))))))|(with_reducible first|refine VCy.some fun K hK=>?_|refine VCy.step fun K hK=>?_))<;>simp -dsimp (disch:=first|exact D|fail) only [go_sem,↓reduceIte,seval,eStp,Option.getD_none,frz_eTblO,frz_eFKO])|((with_reducible refine hK _ ?_);clear hK K)|(with_reducible refine VCy.intro fun K0 hK0=>?_)|((with_reducible refine VCy.fin ?_);(refine hK0 _ ?_);clear hK0 K0)|(with_reducible refine VCy.quiet ?_)|refine Q1 ?_|((with_reducible refine qW (T:=TT) (b:=?_) ?_ ?_);rotate_left;exact rfl)|fail)
 cases r with
 | error e =>
  unfold oBE oRE rE at C ⊢
  simp only [eStp] at C ⊢
  repeat' (first|((first|with_reducible refine qV tyOk fun K hK=>?_|((with_reducible refine CallJ.is ?_);refine CallJ.io [(1000,1000)] [(1000,1000),(1001,1001),(1002,1002)] [] [] [1000] [1000,1001,1002] [1000] [1000,1001,1002] (C) rfl ⟨rfl,rfl,rfl,rfl⟩ ?_ ?_ ?_))<;>simp -dsimp (disch:=first|exact D|fail) only [go_sem,↓reduceIte,seval,okIds_ref,Option.getD_none,eStp,eTbl,eFK,eCon,eInts,eCols,dropL_nil,dropL_nil',dropL_cons])|((with_reducible refine hK _ ?_);clear hK K)|refine Q1 ?_|fail)
  simp -dsimp (disch:=first|exact D|fail) only [retQ,Tryz.results76,resVals,cellRV,resOf,St.rest,St.freeze,RT,go_sem,↓reduceIte,seval]
 | ok R =>
  unfold oBE oRE oB1 oR1 rE at C ⊢
  simp only [eStp] at C ⊢
  repeat' (first|((first|with_reducible refine qV tyOk fun K hK=>?_|((with_reducible refine CallJ.is ?_);refine CallJ.io [(1000,1000)] [(1000,1000),(1001,1001),(1002,1002)] [(1000,1000)] [(1,1),(2,2),(3,3)] [] [1000,1001,1002,1,2,3] [1000,1000] [1000,1001,1002,1,2,3] (C) rfl ⟨rfl,rfl,rfl,rfl⟩ ?_ ?_ ?_))<;>simp -dsimp (disch:=first|exact D|fail) only [go_sem,↓reduceIte,seval,okIds_ref,Option.getD_none,eStp,eTbl,eFK,eCon,eInts,eCols,dropL_nil,dropL_nil',dropL_cons])|((with_reducible refine hK _ ?_);clear hK K)|refine Q1 ?_|fail)
  simp -dsimp (disch:=first|exact D|fail) only [retQ,Tryz.results76,resVals,cellRV,resOf,St.rest,St.freeze,RT,go_sem,↓reduceIte,seval]
structure Sz (s:Sch) (a b:Nat):Prop where
 tables:s.tables.length≤a
 table:∀t∈s.tables,t.cols.length≤b∧t.pk.length≤b
 fks:s.fks.length≤a
 fk:∀f∈s.fks,f.cols.length≤b
 cons:s.cons.length≤a
theorem Sz.mono {s:Sch} {a b a' b':Nat} (h:Sz s a b) (ha:a≤a') (hb:b≤b'):Sz s a' b' :=
 ⟨Nat.le_trans h.tables ha,fun t ht=>⟨Nat.le_trans (h.table t ht).1 hb,Nat.le_trans (h.table t ht).2 hb⟩,Nat.le_trans h.fks ha,fun f hf=>Nat.le_trans (h.fk f hf) hb,Nat.le_trans h.cons ha⟩
theorem SmallS.sz {s:Sch} (h:SmallS s):Sz s 8 6 :=
 ⟨Nat.le_trans h.tables (by decide),fun t ht=>⟨(h.table t ht).1,(h.table t ht).2.1⟩,h.fks,fun f hf=>(h.fk f hf).1,h.cons⟩
theorem Sz.fits {s:Sch} {a b:Nat} (h:Sz s a b) (ha:a≤140737488355328) (hb:b≤140737488355328):s.Fits :=
 ⟨Nat.le_trans h.tables ha,fun t ht=>⟨Nat.le_trans (h.table t ht).1 hb,Nat.le_trans (h.table t ht).2 hb⟩,Nat.le_trans h.fks ha,fun f hf=>Nat.le_trans (h.fk f hf) hb,Nat.le_trans h.cons ha⟩
theorem Sz.tAt {s:Sch} {a b:Nat} (h:Sz s a b) (i:Nat):(tAt s i).cols.length≤b∧(tAt s i).pk.length≤b:=by
 unfold Go.Bw.tAt
 rw [List.getD_eq_getElem?_getD]
 cases hx:s.tables[i]? with
 | none=>exact ⟨Nat.zero_le _,Nat.zero_le _⟩
 | some t=>exact h.table t (List.mem_of_getElem? hx)
theorem Sz.setT {s:Sch} {a b:Nat} (h:Sz s a b) (i:Nat) {t:Tbl} (ht:t.cols.length≤b∧t.pk.length≤b):Sz (setT s i t) a b :=
 ⟨by show (s.tables.set i t).length≤a;rw [List.length_set];exact h.tables,fun x hx=>by
  rcases List.mem_or_eq_of_mem_set (show x∈s.tables.set i t from hx) with hx|rfl
  ·exact h.table x hx
  ·exact ht,h.fks,h.fk,h.cons⟩
theorem Sz.remap {s:Sch} {a b:Nat} (h:Sz s a b) (n:ByteArray) (g:Int→Int):Sz (remapS s n g) a b :=
 ⟨h.tables,h.table,by show (s.fks.map _).length≤a;rw [List.length_map];exact h.fks,fun f hf=>by
  obtain ⟨x,hx,rfl⟩:=List.mem_map.1 (show f∈s.fks.map (remapFK n g) from hf)
  have:=h.fk x hx
  unfold remapFK
  split
  ·simpa using this
  ·exact this,by show (s.cons.map _).length≤a;rw [List.length_map];exact h.cons⟩
theorem Sz.removeC {s:Sch} {a b:Nat} (h:Sz s a b) (i:Nat) (r:List Int):Sz (removeC s i r) a b:=by
 unfold Go.Bw.removeC
 refine (h.setT i ?_).remap _ _
 have:=h.tAt i
 exact ⟨Nat.le_trans (dropAt_len r _ 0) this.1,by simpa using this.2⟩
theorem Sz.insertT {s:Sch} {a b:Nat} (h:Sz s a b) {t:Tbl} (ht:t.cols.length≤b∧t.pk.length≤b):Sz (insertT s t) (a+1) b:=by
 have hp:=ginsS_perm cmpT 0 (s.tables.length+1) (s.tables++[t])
 refine ⟨?_,fun x hx=>?_,Nat.le_succ_of_le h.fks,h.fk,Nat.le_succ_of_le h.cons⟩
 ·show (ginsS cmpT 0 (s.tables.length+1) (s.tables++[t])).length≤a+1
  rw [hp.length_eq,List.length_append,List.length_singleton]
  exact Nat.succ_le_succ h.tables
 ·have:=hp.mem_iff.1 (show x∈ginsS cmpT 0 (s.tables.length+1) (s.tables++[t]) from hx)
  rcases List.mem_append.1 this with hx|hx
  ·exact h.table x hx
  ·rw [List.mem_singleton.1 hx];exact ht
theorem Sz.removeT {s:Sch} {a b:Nat} (h:Sz s a b) (n:ByteArray):Sz (removeT s n) a b :=
 ⟨Nat.le_trans (List.length_filter_le _ _) h.tables,fun t ht=>h.table t (List.mem_filter.1 (show t∈s.tables.filter _ from ht)).1,Nat.le_trans (List.length_filter_le _ _) h.fks,fun f hf=>h.fk f (List.mem_filter.1 (show f∈s.fks.filter _ from hf)).1,Nat.le_trans (List.length_filter_le _ _) h.cons⟩
theorem mem_cut {α:Type} {l:List α} {k:Nat} {x:α} (h:x∈l.take k++l.drop (k+1)):x∈l:=by
 rcases List.mem_append.1 h with h|h
 ·exact List.mem_of_mem_take h
 ·exact List.mem_of_mem_drop h
theorem len_cut {α:Type} (l:List α) (k:Nat):(l.take k++l.drop (k+1)).length≤l.length:=by simp;omega
theorem Sz.mapFK {s:Sch} {a b:Nat} (h:Sz s a b) (g:FK→FK) (g':Con→Con) (hg:∀f,(g f).cols.length=f.cols.length):Sz ⟨s.tables,s.fks.map g,s.cons.map g'⟩ a b :=
 ⟨h.tables,h.table,by simpa using h.fks,fun f hf=>by
  obtain ⟨x,hx,rfl⟩:=List.mem_map.1 hf
  rw [hg]
  exact h.fk x hx,by simpa using h.cons⟩
theorem Sz.tbls {s:Sch} {a b:Nat} (h:Sz s a b) {ts:List Tbl} (h1:ts.length≤a) (h2:∀t∈ts,t.cols.length≤b∧t.pk.length≤b):Sz ⟨ts,s.fks,s.cons⟩ a b:=⟨h1,h2,h.fks,h.fk,h.cons⟩
theorem Sz.addFK {s:Sch} {a b:Nat} (h:Sz s a b) {l:List FK} {l':List Con} (h1:l.length≤8) (h2:∀f∈l,f.cols.length≤b) (h3:l'.length≤8):Sz ⟨s.tables,s.fks++l,s.cons++l'⟩ (a+8) b:=by
 have:=h.tables
 have:=h.fks
 have:=h.cons
 refine ⟨by simp only;omega,h.table,by simp only [List.length_append];omega,fun f hf=>?_,by simp only [List.length_append];omega⟩
 rcases List.mem_append.1 hf with hf|hf
 ·exact h.fk f hf
 ·exact h2 f hf
theorem evApply_sz {s:Sch} {st:Stp} {R:Sch} (sm:SmallS s) (h1:st.cols.length≤17592186044416) (h2:st.newTable.cols.length≤17592186044416) (h3:st.newTable.pk.length≤17592186044416) (h4:st.fk.cols.length≤17592186044416) (h:evApply s st=.ok R):Sz R 32 17592186044448:=by
 have z:=sm.sz
 have z0:Sz s 8 17592186044448:=z.mono (Nat.le_refl _) (by decide)
 unfold evApply at h
 by_cases k0:st.kind=13
 ·rw [if_pos k0] at h
  injection h with h;subst h
  have:=z0.addFK (l:=[]) (l':=[st.con]) (by simp) (fun f hf=>by cases hf) (by simp)
  rw [List.append_nil] at this
  exact this.mono (by decide) (Nat.le_refl _)
 rw [if_neg k0] at h
 by_cases k1:st.kind=14
 ·rw [if_pos k1] at h
  unfold dropCon at h
  simp only at h
  split at h
  ·cases h
  injection h with h;subst h
  exact ⟨Nat.le_trans z0.tables (by decide),z0.table,Nat.le_trans z0.fks (by decide),z0.fk,Nat.le_trans (len_cut _ _) (Nat.le_trans z0.cons (by decide))⟩
 rw [if_neg k1] at h
 by_cases k2:st.kind=15
 ·rw [if_pos k2] at h
  injection h with h;subst h
  have:=z0.addFK (l:=[st.fk]) (l':=[]) (by simp) (fun f hf=>by rw [List.mem_singleton.1 hf];omega) (by simp)
  rw [List.append_nil] at this
  exact this.mono (by decide) (Nat.le_refl _)
 rw [if_neg k2] at h
 by_cases k3:st.kind=16
 ·rw [if_pos k3] at h
  unfold dropFK at h
  simp only at h
  split at h
  ·cases h
  injection h with h;subst h
  exact ⟨Nat.le_trans z0.tables (by decide),z0.table,Nat.le_trans (len_cut _ _) (Nat.le_trans z0.fks (by decide)),fun f hf=>z0.fk f (mem_cut hf),Nat.le_trans z0.cons (by decide)⟩
 rw [if_neg k3] at h
 by_cases k4:st.kind=10
 ·rw [if_pos k4] at h
  unfold createT at h
  split at h
  ·cases h
  injection h with h;subst h
  exact (z0.insertT ⟨by omega,by omega⟩).mono (by decide) (Nat.le_refl _)
 rw [if_neg k4] at h
 simp only at h
 by_cases k5:tblAt s.tables st.table<0
 ·rw [if_pos k5] at h
  cases h
 rw [if_neg k5] at h
 generalize (tblAt s.tables st.table).toNat=i at h
 have ta:=z.tAt i
 by_cases k6:st.kind=4
 ·rw [if_pos k6] at h
  unfold renameT at h
  simp only at h
  split at h
  ·cases h
  injection h with h;subst h
  have:=(((z0.tbls (ts:=s.tables.take i++s.tables.drop (i+1)) (Nat.le_trans (len_cut _ _) z0.tables) (fun t ht=>z0.table t (mem_cut ht))).insertT (t:={tAt s i with name:=st.newName}) ⟨by simp only;omega,by simp only;omega⟩).mapFK (fun f=>{f with table:=ren (tAt s i).name st.newName f.table,ref:=ren (tAt s i).name st.newName f.ref}) (fun c=>{c with table:=ren (tAt s i).name st.newName c.table}) fun f=>rfl)
  exact this.mono (by decide) (Nat.le_refl _)
 rw [if_neg k6] at h
 by_cases k7:st.kind=6
 ·rw [if_pos k7] at h
  unfold splitT at h
  simp only at h
  split at h
  ·cases h
  split at h
  ·cases h
  split at h
  ·cases h
  injection h with h;subst h
  have a1:=(z0.mapFK (splitFK (tAt s i) st) (splitCon (tAt s i) st) (fun f=>by unfold splitFK;split<;>simp)).removeC i st.cols
  have a2:=a1.insertT (t:=⟨st.other,((tAt s i).pk++st.cols).map fun c=>(tAt s i).cols.getD c.toNat zCol,seqI (tAt s i).pk.length⟩) ⟨by simp only [List.length_map,List.length_append];omega,by simp only [seqI_len];omega⟩
  have a3:=a2.addFK (l:=[⟨st.other,seqI (tAt s i).pk.length,(tAt s i).name⟩]) (l':=[]) (by simp) (fun f hf=>by rw [List.mem_singleton.1 hf];simp only [seqI_len];omega) (by simp)
  rw [List.append_nil] at a3
  exact a3.mono (by decide) (Nat.le_refl _)
 rw [if_neg k7] at h
 by_cases k8:st.kind=7
 ·rw [if_pos k8] at h
  unfold joinT at h
  simp only at h
  split at h
  ·cases h
  split at h
  ·cases h
  split at h
  ·cases h
  split at h
  ·cases h
  rename_i s1 hd
  split at h
  ·cases h
  injection h with h;subst h
  have zd:Sz s1 8 17592186044448:=by
   unfold dropFK at hd
   simp only at hd
   split at hd
   ·cases hd
   injection hd with hd;subst hd
   exact ⟨z0.tables,z0.table,Nat.le_trans (len_cut _ _) z0.fks,fun f hf=>z0.fk f (mem_cut hf),z0.cons⟩
  have tb:=z.tAt (tblAt s.tables st.other).toNat
  have a1:=zd.remap st.other (joinG (tAt s i))
  have a2:=a1.setT i (t:={tAt s i with cols:=(tAt s i).cols++(tAt s (tblAt s.tables st.other).toNat).cols.drop (tAt s i).pk.length}) ⟨by simp only [List.length_append,List.length_drop];omega,by simp only;omega⟩
  have a3:=(a2.tbls (Nat.le_trans (len_cut _ (tblAt s.tables st.other).toNat) a2.tables) (fun t ht=>a2.table t (mem_cut ht))).mapFK (fun f=>{f with table:=ren st.other (tAt s i).name f.table}) (fun c=>{c with table:=ren st.other (tAt s i).name c.table}) fun f=>rfl
  exact a3.mono (by decide) (Nat.le_refl _)
 rw [if_neg k8] at h
 by_cases k9:st.kind=8
 ·rw [if_pos k9] at h
  unfold partT at h
  simp only at h
  split at h
  ·cases h
  split at h
  ·cases h
  split at h
  ·cases h
  split at h
  ·cases h
  split at h
  ·cases h
  split at h
  ·cases h
  injection h with h;subst h
  have f1:((s.fks.filter fun f=>sEq f.table (tAt s i).name).map fun f=>{f with table:=st.other}).length≤8:=by rw [List.length_map];exact Nat.le_trans (List.length_filter_le _ _) z0.fks
  have f2:((s.cons.filter fun c=>sEq c.table (tAt s i).name).map fun c=>{c with table:=st.other}).length≤8:=by rw [List.length_map];exact Nat.le_trans (List.length_filter_le _ _) z0.cons
  have a1:=z0.addFK f1 (fun f hf=>by
   obtain ⟨x,hx,rfl⟩:=List.mem_map.1 hf
   exact z0.fk x (List.mem_filter.1 hx).1) f2
  exact (a1.insertT (t:={tAt s i with name:=st.other}) ⟨by simp only;omega,by simp only;omega⟩).mono (by decide) (Nat.le_refl _)
 rw [if_neg k9] at h
 by_cases k10:st.kind=9
 ·rw [if_pos k10] at h
  unfold mergeT at h
  simp only at h
  split at h
  ·cases h
  split at h
  ·cases h
  split at h
  ·cases h
  injection h with h;subst h
  exact ((z0.setT i ⟨by simp only [List.length_append,List.length_cons,List.length_nil];omega,by simp only [List.length_append,List.length_cons,List.length_nil];omega⟩).removeT _).mono (by decide) (Nat.le_refl _)
 rw [if_neg k10] at h
 by_cases k11:st.kind=11
 ·rw [if_pos k11] at h
  unfold dropT at h
  split at h
  ·cases h
  injection h with h;subst h
  exact (z0.removeT _).mono (by decide) (Nat.le_refl _)
 rw [if_neg k11] at h
 by_cases k12:st.kind=12
 ·rw [if_pos k12] at h
  unfold concatC at h
  split at h
  ·simp only at h
   split at h
   ·cases h
   split at h
   ·cases h
   split at h
   ·cases h
   split at h
   ·cases h
   injection h with h;subst h
   rename_i x y _ _ _ _ _
   have a1:=z.removeC i [x,y]
   have ta1:=a1.tAt i
   exact ((a1.mono (Nat.le_refl _) (by decide:6≤17592186044448)).setT i ⟨by simp only [List.length_append,List.length_cons,List.length_nil];omega,by simp only;omega⟩).mono (by decide) (Nat.le_refl _)
  ·cases h
 rw [if_neg k12] at h
 by_cases k13:st.kind=1
 ·rw [if_pos k13] at h
  unfold addC at h
  simp only at h
  split at h
  ·cases h
  injection h with h;subst h
  exact (z0.setT i ⟨by simp only [List.length_append,List.length_cons,List.length_nil];omega,by simp only;omega⟩).mono (by decide) (Nat.le_refl _)
 ·rw [if_neg k13] at h
  unfold alterC at h
  simp only at h
  split at h
  ·cases h
  split at h
  ·split at h
   ·cases h
   injection h with h;subst h
   exact (z0.setT i ⟨by simp only [setC,List.length_set];omega,by simp only [setC];omega⟩).mono (by decide) (Nat.le_refl _)
  split at h
  ·cases h
  split at h
  ·injection h with h;subst h
   exact (z0.setT i ⟨by simp only [setC,List.length_set];omega,by simp only [setC];omega⟩).mono (by decide) (Nat.le_refl _)
  split at h
  ·cases h
  injection h with h;subst h
  exact (z0.removeC i _).mono (by decide) (Nat.le_refl _)
theorem join_scan {t o:Tbl} {e:Int}:∀{l:List Int} {k:Nat},scan (fun j c=>if (t.cols.getD c.toNat zCol).kind≠(o.cols.getD j zCol).kind then some 9 else none) l k=some e→e≠0:=by
 intro l k h
 exact scan_ne (fun k x e he=>by
  split at he
  ·injection he with he;omega
  ·cases he) h
theorem evApply_ne {s:Sch} {st:Stp} {e:Int} (h:evApply s st=.error e):e≠0:=by
 unfold evApply at h
 by_cases k0:st.kind=13
 ·rw [if_pos k0] at h;cases h
 rw [if_neg k0] at h
 by_cases k1:st.kind=14
 ·rw [if_pos k1] at h
  unfold dropCon at h
  simp only at h
  split at h
  ·injection h with h;omega
  ·cases h
 rw [if_neg k1] at h
 by_cases k2:st.kind=15
 ·rw [if_pos k2] at h;cases h
 rw [if_neg k2] at h
 by_cases k3:st.kind=16
 ·rw [if_pos k3] at h
  unfold dropFK at h
  simp only at h
  split at h
  ·injection h with h;omega
  ·cases h
 rw [if_neg k3] at h
 by_cases k4:st.kind=10
 ·rw [if_pos k4] at h
  unfold createT at h
  split at h
  ·injection h with h;omega
  ·cases h
 rw [if_neg k4] at h
 simp only at h
 by_cases k5:tblAt s.tables st.table<0
 ·rw [if_pos k5] at h;injection h with h;omega
 rw [if_neg k5] at h
 generalize (tblAt s.tables st.table).toNat=i at h
 by_cases k6:st.kind=4
 ·rw [if_pos k6] at h
  unfold renameT at h
  simp only at h
  split at h
  ·injection h with h;omega
  ·cases h
 rw [if_neg k6] at h
 by_cases k7:st.kind=6
 ·rw [if_pos k7] at h
  unfold splitT at h
  simp only at h
  split at h
  ·rename_i q;injection h with h;omega
  split at h
  ·injection h with h;omega
  split at h
  ·injection h with h;omega
  ·cases h
 rw [if_neg k7] at h
 by_cases k8:st.kind=7
 ·rw [if_pos k8] at h
  unfold joinT at h
  simp only at h
  split at h
  ·injection h with h;omega
  split at h
  ·injection h with h;omega
  split at h
  ·rename_i q;injection h with h;subst h;exact join_scan q
  split at h
  ·injection h with h;omega
  split at h
  ·injection h with h;omega
  ·cases h
 rw [if_neg k8] at h
 by_cases k9:st.kind=8
 ·rw [if_pos k9] at h
  unfold partT at h
  simp only at h
  split at h
  ·injection h with h;omega
  split at h
  ·rename_i q;injection h with h;omega
  split at h
  ·rename_i q;injection h with h;omega
  split at h
  ·injection h with h;omega
  split at h
  ·injection h with h;omega
  split at h
  ·injection h with h;omega
  ·cases h
 rw [if_neg k9] at h
 by_cases k10:st.kind=9
 ·rw [if_pos k10] at h
  unfold mergeT at h
  simp only at h
  split at h
  ·injection h with h;omega
  split at h
  ·injection h with h;omega
  split at h
  ·rename_i q;injection h with h;omega
  ·cases h
 rw [if_neg k10] at h
 by_cases k11:st.kind=11
 ·rw [if_pos k11] at h
  unfold dropT at h
  split at h
  ·injection h with h;omega
  ·cases h
 rw [if_neg k11] at h
 by_cases k12:st.kind=12
 ·rw [if_pos k12] at h
  unfold concatC at h
  split at h
  ·simp only at h
   split at h
   ·injection h with h;omega
   split at h
   ·injection h with h;omega
   split at h
   ·rename_i q;injection h with h;omega
   split at h
   ·rename_i q;injection h with h;omega
   ·cases h
  ·injection h with h;omega
 rw [if_neg k12] at h
 by_cases k13:st.kind=1
 ·rw [if_pos k13] at h
  unfold addC at h
  simp only at h
  split at h
  ·rename_i q;injection h with h;omega
  ·cases h
 rw [if_neg k13] at h
 unfold alterC at h
 simp only at h
 split at h
 ·injection h with h;omega
 split at h
 ·split at h
  ·injection h with h;omega
  ·cases h
 split at h
 ·rename_i q;injection h with h;omega
 split at h
 ·cases h
 split at h
 ·rename_i q;injection h with h;omega
 ·cases h
def sOut:Res→Sch
 | .error _=>⟨[],[],[]⟩
 | .ok t=>t
theorem evoE_ne {s:Sch} {st:Stp} {e:Int} (h:evoE s st=.error e):e≠0:=by
 unfold evoE at h
 split at h
 ·rename_i q;injection h with h;rw [←h];exact q
 split at h
 ·rename_i q;injection h with h;rw [←h];exact q
 split at h
 ·rename_i q;injection h with h;rw [←h];exact evApply_ne q
 split at h
 ·rename_i q;injection h with h;rw [←h];exact q
 ·cases h
theorem Small.fits {s:Sch} (h:Small s):s.Fits :=
 ⟨by have:=h.tables;omega,fun t ht=>by have:=h.table t ht;omega,by have:=h.fks;omega,fun f hf=>by have:=h.fk f hf;omega,by have:=h.cons;omega⟩
theorem goS_ne:∀{l:List Stp} {acc:List Sch} {e:Int},goS acc l=.error e→e≠0
 | [],acc,e,h=>by cases h
 | st::r,acc,e,h=>by
  rw [goS] at h
  split at h
  ·rename_i q;injection h with h;rw [←h];exact evoE_ne q
  ·exact goS_ne h
theorem schClone_sat (s:Sch) (h:Small s):Sat Tryz.prog 34 [.agg (eSch s)] (.v (.agg (eSch s))):=by
 have cl:=schClone_own s (by have:=h.tables;omega) (by have:=h.fks;omega) (by have:=h.cons;omega) (fun t ht=>by have:=h.table t ht;omega) (fun f hf=>by have:=h.fk f hf;omega)
 refine cl.frz (by
  simp -dsimp (disch:=first|exact D|fail) only [go_sem,↓reduceIte,seval,topL_ref,St.rest,roots,dropL_nil,eSch,frz_eTblO,frz_eFKO]
  )
theorem scrSchemas_ne {s:Sch} {l:List Stp} {e:Int} (h:scrSchemas s l=.error e):e≠0:=by
 unfold scrSchemas at h
 split at h
 ·injection h with h;omega
 split at h
 ·rename_i q;injection h with h;rw [←h];exact q
 ·exact goS_ne h
theorem scrApply_ok {s u:Sch} {l:List Stp} (h:scrApply s l=.ok u):schE u=0:=by
 unfold scrApply at h
 split at h
 ·cases h
 ·rename_i O q
  obtain ⟨h1,h2⟩:=scrSchemas_ok q
  injection h with h
  rw [getD_lt _ (by omega)] at h
  rw [←h]
  exact h1 _ (List.getElem_mem _)
theorem scrApply_ne {s:Sch} {l:List Stp} {e:Int} (h:scrApply s l=.error e):e≠0:=by
 unfold scrApply at h
 split at h
 ·rename_i q;injection h with h;rw [←h];exact scrSchemas_ne q
 ·cases h
theorem goG_ok:∀{l:List Edg} {acc O:List Sch},(∀x∈acc,schE x=0)→goG acc l=.ok O→(∀x∈O,schE x=0)∧O.length=acc.length+l.length
 | [],acc,O,ha,h=>by injection h with h;subst h;exact ⟨ha,by simp⟩
 | e::r,acc,O,ha,h=>by
  rw [goG] at h
  split at h
  ·cases h
  split at h
  ·cases h
  ·rename_i t q
   obtain ⟨h1,h2⟩:=goG_ok (fun x hx=>by
    rcases List.mem_append.1 hx with hx|hx
    ·exact ha x hx
    ·rw [List.mem_singleton.1 hx];exact scrApply_ok q) h
   exact ⟨h1,by rw [h2];simp;omega⟩
theorem goG_ne:∀{l:List Edg} {acc:List Sch} {e:Int},goG acc l=.error e→e≠0
 | [],acc,e,h=>by cases h
 | st::r,acc,e,h=>by
  rw [goG] at h
  split at h
  ·injection h with h;omega
  split at h
  ·rename_i q;injection h with h;rw [←h];exact scrApply_ne q
  ·exact goG_ne h
theorem verSchemas_ok {g:Gr} {O:List Sch} (h:verSchemas g=.ok O):g.edges.length<8∧schE g.base=0∧(∀x∈O,schE x=0)∧O.length=1+g.edges.length:=by
 unfold verSchemas at h
 split at h
 ·cases h
 split at h
 ·cases h
 rename_i q0 q
 have q:schE g.base=0:=Decidable.byContradiction q
 have:=goG_ok (fun x hx=>by rw [List.mem_singleton.1 hx];exact q) h
 exact ⟨by omega,q,this.1,this.2⟩
theorem verSchemas_ne {g:Gr} {e:Int} (h:verSchemas g=.error e):e≠0:=by
 unfold verSchemas at h
 split at h
 ·injection h with h;omega
 split at h
 ·rename_i q;injection h with h;rw [←h];exact q
 ·exact goG_ne h
theorem grOk_of {g:Gr} {O:List Sch} (h:verSchemas g=.ok O):GrOk g:=by
 unfold verSchemas at h
 split at h
 ·cases h
 split at h
 ·cases h
 have hp:=goG_par h
 refine ⟨fun v h1 h2=>?_,fun k hk=>?_⟩
 ·have:=hp (v - 1) (by omega)
  unfold parN
  rw [getD_lt _ (by omega:v - 1<g.edges.length)]
  simp only [List.length_singleton] at this
  omega
 ·have:=hp k hk
  unfold parN
  rw [Nat.add_sub_cancel,getD_lt _ hk]
  omega
theorem getD_edge {g:Gr} (ok:GrOk g) {v:Nat} (h0:0<v) (hv:v≤g.edges.length):(g.edges.map eEdg).getD (v - 1) []=[.int .i64 (parN g v:Int),eScr (g.edges.getD (v - 1) zEdg).steps]:=by
 have h1:v - 1<g.edges.length:=by omega
 have:=ok.int (v - 1) h1
 rw [show v - 1+1=v by omega] at this
 rw [getD_map_lt _ _ _ h1,getD_lt _ h1]
 unfold eEdg
 rw [this]
theorem revTo_zero (l:List Hp):revTo l 0=l:=by
 refine List.ext_getElem (revTo_len l 0) fun j h1 h2=>?_
 rw [revTo_at h2,if_neg (by omega),getD_lt _ h2]
theorem revTo_all (l:List Hp) {k:Nat} (h:l.length≤2 * k+1):revTo l k=l.reverse:=by
 refine List.ext_getElem (by rw [revTo_len,List.length_reverse]) fun j h1 h2=>?_
 rw [List.length_reverse] at h2
 rw [revTo_at h2,List.getElem_reverse]
 by_cases hj:j<k∨l.length≤j+k
 ·rw [if_pos hj,getD_lt _ (by omega)]
 ·rw [if_neg hj,getD_lt _ (by omega)]
  congr 1
  omega
theorem verSchema_ne {g:Gr} {v:Int} {e:Int} (h:verSchema g v=.error e):e≠0:=by
 unfold verSchema at h
 split at h
 ·rename_i q;injection h with h;rw [←h];exact verSchemas_ne q
 ·split at h
  ·injection h with h;omega
  ·cases h
theorem gr0_fits:gr0.Fits:=by
 refine ⟨(small_of sch0).fits,by simp [gr0],fun e he=>?_⟩
 have:e=zEdg:=by simpa [gr0] using he
 subst this
 exact ⟨by simp [zEdg],fun s hs=>by cases hs⟩
end Go.Bw
