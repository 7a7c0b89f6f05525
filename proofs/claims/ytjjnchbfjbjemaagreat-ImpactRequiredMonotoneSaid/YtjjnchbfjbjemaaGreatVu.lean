/-
  WHAT IS PROVED HERE, of this translation: verSchemas_sat, verValidate_sat, verSchema_sat.
  A theorem that ends in sat says what the function it names returns, whatever the state it is called in; the bounds on its arguments stand ahead of it.
-/
import Derived.Test.YtjjnchbfjbjemaaGreatVt
set_option linter.unusedSimpArgs false
set_option linter.unusedVariables false
namespace Go.Bw
open Go.Proofs
attribute [local go_sem ↓] VOps_nil VOps_cons VOp_callJ VVal_callH VOps_guard GOn_tt GOn_ff GOn_tf GOn_ft GOn_not GOn_none HOn_none HOn_tt HOn_ff HOn_tf HOn_ft HOn_not VHead_nil VHead_cons VHead_guard VVal_move VVal_assign VVal_pickE pickK_true pickK_false VVal_not VVal_neg negK_int VVal_load loadK_fz loadK_ptr loadK_eptr VVal_fieldAddr VVal_field VVal_indexAddr idxK_sl idxK_ref VVal_index indexK_str VVal_extract VVal_binOp binK_one binK_agg VVal_build VVal_buildSlice VVal_makeFunc VVal_slice sliceK_str sliceK_sl sliceK_nil sliceK_ref VVal_slice3 VVal_nilCheck VVal_convert convKk_int convKk_str VVal_len VVal_max VVal_min VOp_assign assignK_int assignK_bool assignK_str assignK_clo assignK_sl assignK_nil assignK_ref assignK_agg assignK_fz assignK_ptr assignK_eptr assignK_any VOp_box VOp_alloc VOp_store storeK_ptr storeK_eptr VOp_buildSlice VOp_append appK_rr appK_rs appK_rn appK_ri appK_nr appK_ns appK_nn appK_ni appStd_eq VOp_copy copyK_ref VOp_clear clearK_ref VOp_cap VOp_eqNil VOp_move VOp_pick VOp_not VOp_neg VOp_load VOp_fieldAddr VOp_field VOp_indexAddr VOp_index VOp_extract VOp_binTmp VOp_binInt VOp_binStr VOp_binPtr VOp_build VOp_makeFunc VOp_slice VOp_nilCheck VOp_convert VOp_len VOp_max VOp_min mO_some mT_some pk_some pk_none look_cons del_cons
attribute [local go_sem] guardB gOf int_bne beq_true beq_false Bool.not_not gSlot pickK_true pickK_false negK_int loadK_fz loadK_ptr loadK_eptr idxK_sl idxK_ref indexK_str binK_one binK_agg sliceK_str sliceK_sl sliceK_nil sliceK_ref convKk_int convKk_str maxL minL assignK_int assignK_bool assignK_str assignK_clo assignK_sl assignK_nil assignK_ref assignK_agg assignK_fz assignK_ptr assignK_eptr assignK_any nilRow_eq takeRow_eq appended_eq storeK_ptr storeK_eptr store_mk appIn_eq appMk_eq marked_eq ovOut_nil ovOut_cons ovIn_nil ovIn_cons padRow_eq ysC capK_nil capK_ref ioSt_mk outB_nil outR_nil outB outR inB_nil inB_cons inR_nil inR_cons L.kl L.kl0 L.ids L.ids0 Option.getD_some evalO constA mO_some mT_some put_mk putO_some putO_none okD_some okD_none pk_some pk_none look_nil del_nil sput noBox_mk noRow_mk newBox_eq newRow0_eq St.killRow RowC.kill rowMap_mk rowOf ovAll ovAdd ovDel ovGet ovShift dstOf ysOf overlay_nil overlay_nil' overlay A.map V.map L.noPtr L.noPtr0 L.noRow L.noRow0 L.peek L.norm L.flat clos_int clos_bool clos_str clos_sl clos_nil clos_any clos_fz L.clos L.isFz L.kd moveL fieldOff eqCells eqCell eqOp oneOf boolOf intOfA tupOf vOf aggOf isPtrLike isSlice lenKind lenL nL elemTI loadV asV binL intBin intDivL shrL boolBin strBin strAdd ptrNil boundN partCells fillL placesOf setL chunks repL capsOf capL callOf argsOf frzV_int frzV_bool frzV_str frzV_sl frzV_nil frzV_fz frzV_any frzV_own frzV_clo frzV_ref frzV_eptr frzV_ptr frzRow_nil frzRow_ov frzRs_nil frzRs_cons frzCs_nil frzCs_cons frzO_some frzO_none frzN_int frzN_bool frzN_str frzN_sl frzN_nil frzN_any frzN_own List.map_cons List.map_nil List.cons_append List.nil_append List.append_nil List.length_cons List.length_nil List.length_map List.length_append List.headD_cons List.tail_cons List.getElem?_cons_zero List.getElem?_cons_succ List.drop_zero List.drop_succ_cons List.drop_nil List.take_succ_cons List.take_zero List.take_nil List.take_length List.filter_cons List.filter_nil List.elem_cons List.elem_nil List.all_cons List.all_nil Option.bind_some Option.map_some Option.some.injEq bne_self_eq_false beq_self_eq_true if_true if_false Bool.false_eq_true true_and and_true and_self Nat.zero_add Nat.add_zero Nat.zero_le Int.toNat_natCast Int.toNat_zero Option.isSome_some List.getElem?_toArray decide_true decide_false ge_iff_le gt_iff_lt Bool.not_true Bool.not_false Nat.le_refl Bool.and_true Bool.true_and Bool.and_false Bool.false_and eVal eRow eRow1 eRows eInt1 eInts eCol eCols eTbl eTbls eFK eFKs eCon eCons eSch eRel eInst eChg eChgs szOf getD_map_lt wrap_nat wrap_in List.take_of_length_le frz_eVal frz_eRow1 frz_eInt1 frz_eCol frz_eTbl frz_eFK frz_eCon frz_eRel frz_eChg noOwn_nil noOwn_cons noOwn_append L.isOwn noOwn_eVal noOwn_eRow1 noOwn_eInt1 noOwn_eCol noOwn_eTbl noOwn_eFK noOwn_eCon noOwn_eRel noOwn_eChg convK_2 convK_3 convK_5 convK_12 convK_21 convK_32 convK_95 convK_119 convK_122 convK_152 convK_169 TT_2 TT_3 TT_4 TT_5 TT_9 TT_12 TT_13 TT_21 TT_22 TT_23 TT_24 TT_25 TT_26 TT_27 TT_28 TT_29 TT_31 TT_32 TT_36 TT_37 TT_42 TT_43 TT_44 TT_48 TT_49 TT_56 TT_61 TT_72 TT_73 TT_74 TT_85 TT_86 TT_89 TT_90 TT_91 TT_92 TT_95 TT_98 TT_113 TT_114 TT_116 TT_117 TT_119 TT_122 TT_145 TT_152 TT_169 boolTy_4 eqK_37 eqK_90 eqK_92 eqK_114
attribute [local congr] VOps.congr VHead.congr VOp.congr VVal.congr pk.congr assignK.congr appK.congr appStd.congr copyK.congr clearK.congr storeK.congr loadK.congr idxK.congr sliceK.congr indexK.congr binK.congr convKk.congr
set_option maxHeartbeats 16000000 in
theorem verSchemas_sat (g:Gr) (hg:g.Fits):Sat Tryz.prog 14 [.agg (eGr g)] (.tup [.one (eSchs (lOut (verSchemas g))),oI (rE (verSchemas g))]):=by
 have c1:=schValidate_sat g.base hg.base
 have hl:=hg.len
 by_cases h0:8≤g.edges.length
 ·have spec:verSchemas g=.error 2:=by unfold verSchemas;rw [if_pos h0]
  rw [spec]
  unfold lOut rE eSchs eGr eEdgs
  refine sS tyOk Tryz.func14 fun w0 m0 F0=>?_
  simp only [Tryz.ntmps14,envOf,Nat.reduceAdd]
  repeat' (first|((first|with_reducible refine qV tyOk fun K hK=>?_|refine Q2 ?_|((with_reducible first|refine qS ?_ ?_|refine qT ?_ ?_|refine qU ?_ ?_)<;>(intro h;try simp only [NM] at h)))<;>simp -dsimp (disch:=first|exact D|fail) only [go_sem,↓reduceIte,seval])|((with_reducible refine hK _ ?_);clear hK K)|refine Q1 ?_|((with_reducible refine qW (T:=TT) (b:=?_) ?_ ?_);rotate_left;exact rfl)|((with_reducible refine yS ?_ ?_)<;>(intro h;try simp only [NM] at h)))
  simp -dsimp (disch:=first|exact D|fail) only [retQ,Tryz.results14,resVals,cellRV,resOf,St.rest,St.freeze,RT,go_sem,↓reduceIte,seval]
 by_cases h1:schE g.base=0
 case neg =>
  have spec:verSchemas g=.error (schE g.base):=by unfold verSchemas;rw [if_neg h0,if_pos h1]
  rw [spec]
  unfold lOut rE eSchs eGr eEdgs
  refine sS tyOk Tryz.func14 fun w0 m0 F0=>?_
  simp only [Tryz.ntmps14,envOf,Nat.reduceAdd]
  repeat' (first|((first|with_reducible refine qV tyOk fun K hK=>?_|refine Q2 ?_|((with_reducible first|refine qS ?_ ?_|refine qT ?_ ?_|refine qU ?_ ?_)<;>(intro h;try simp only [NM] at h))|((with_reducible refine CallJ.is ?_);(first|refine CallJ.pure (c1) ?_|((apply CallJ.lentI);(focus (simp -dsimp (disch:=first|exact D|fail) only [go_sem,↓reduceIte,seval,eSch,h1];rfl));(focus (first|exact (c1)))))))<;>simp -dsimp (disch:=first|exact D|fail) only [go_sem,↓reduceIte,seval,eSch,h1])|((with_reducible refine hK _ ?_);clear hK K)|refine Q1 ?_|((with_reducible refine qW (T:=TT) (b:=?_) ?_ ?_);rotate_left;exact rfl)|((with_reducible refine yS ?_ ?_)<;>(intro h;try simp only [NM] at h)))
  simp -dsimp (disch:=first|exact D|fail) only [retQ,Tryz.results14,resVals,cellRV,resOf,St.rest,St.freeze,RT,go_sem,↓reduceIte,seval]
 rw [h1] at c1
 have c2:=schClone_sat g.base (small_of h1)
 obtain ⟨R,hR⟩:∃R,goG [g.base] g.edges=R:=⟨_,rfl⟩
 have spec:verSchemas g=R:=by unfold verSchemas;rw [if_neg h0,if_neg (by rw [h1];simp),hR]
 rw [spec]
 unfold eGr eEdgs
 refine sS tyOk Tryz.func14 fun w0 m0 F0=>?_
 simp only [Tryz.ntmps14,envOf,Nat.reduceAdd]
 repeat' (first|((first|with_reducible refine qV tyOk fun K hK=>?_|refine Q2 ?_|((with_reducible first|refine qS ?_ ?_|refine qT ?_ ?_|refine qU ?_ ?_)<;>(intro h;try simp only [NM] at h))|((with_reducible refine CallJ.is ?_);(first|refine CallJ.pure (c1) ?_|refine CallJ.pure (c2) ?_|((apply CallJ.lentI);(focus (simp -dsimp (disch:=first|exact D|fail) only [go_sem,↓reduceIte,seval,eSch];rfl));(focus (first|exact (c1)|exact (c2)))))))<;>simp -dsimp (disch:=first|exact D|fail) only [go_sem,↓reduceIte,seval,eSch])|((with_reducible refine hK _ ?_);clear hK K)|refine Q1 ?_|((with_reducible refine qW (T:=TT) (b:=?_) ?_ ?_);rotate_left;exact rfl)|((with_reducible refine yS ?_ ?_)<;>(intro h;try simp only [NM] at h)))
 refine AWP.loop (ι:={p:Nat×List Sch // p.1≤g.edges.length∧p.2.length=p.1+1∧(∀x∈p.2,schE x=0)∧goG p.2 (g.edges.drop p.1)=R}) (fun p=>⟨61,[(3,.v (oI 0)),(5,.v (.one (.ref 5 0 p.1.2.length))),(25,.v (.one (.sl 2 (g.edges.map eEdg)))),(26,.v (oI g.edges.length)),(27,.v (oI p.1.1))],[],[(5,⟨3,p.1.2.map eSch,[]⟩)]⟩) (fun p=>g.edges.length - p.1.1) ⟨(0,[g.base]),Nat.zero_le _,rfl,fun x hx=>by rw [List.mem_singleton.1 hx];exact h1,hR⟩ ?_ fun ⟨⟨k,acc⟩,hkl,hka,hkz,hkR⟩=>?_
 ·refine St.le_mk ?_ ?_ ?_<;>simp only [LE,EN,Nat.reduceEqDiff,reduceIte,Nat.reduceSub,eSch,List.length_cons,List.length_nil,Nat.zero_add]
 simp only at hkl hka hkz hkR ⊢
 rcases Nat.lt_or_ge k g.edges.length with hk|hk
 ·obtain ⟨ed,hed⟩:∃ed,g.edges[k]=ed:=⟨_,rfl⟩
  have gs:(g.edges.map eEdg).getD k []=eEdg ed:=by rw [getD_map_lt _ _ _ hk,hed]
  have fe:=hg.edge g.edges[k] (List.getElem_mem hk)
  rw [List.drop_eq_getElem_cons hk,goG,hka] at hkR
  rw [hed] at hkR fe
  by_cases hp:ed.parent<0∨((k+1:Nat):Int) - 1<ed.parent
  ·rw [if_pos hp] at hkR
   subst hkR
   unfold lOut rE eSchs
   simp only
   by_cases hp1:ed.parent<0
   ·repeat' (first|((first|with_reducible refine qV tyOk fun K hK=>?_|refine Q2 ?_|((with_reducible first|refine qS ?_ ?_|refine qT ?_ ?_|refine qU ?_ ?_)<;>(intro h;try simp only [NM] at h))|with_reducible refine yD tyOk mixed 6 (by kernel_rfl) fun K hK=>?_)<;>simp -dsimp (disch:=first|exact D|fail) only [go_sem,↓reduceIte,seval,gs,eEdg,Option.getD_none])|((with_reducible refine hK _ ?_);clear hK K)|refine Q1 ?_|((with_reducible refine qW (T:=TT) (b:=?_) ?_ ?_);rotate_left;exact rfl)|((with_reducible refine yS ?_ ?_)<;>(intro h;try simp only [NM] at h)))
    simp -dsimp (disch:=first|exact D|fail) only [retQ,Tryz.results14,resVals,cellRV,resOf,St.rest,St.freeze,RT,go_sem,↓reduceIte,seval]
   ·have hp2:(k:Int)<ed.parent:=by omega
    repeat' (first|((first|with_reducible refine qV tyOk fun K hK=>?_|refine Q2 ?_|((with_reducible first|refine qS ?_ ?_|refine qT ?_ ?_|refine qU ?_ ?_)<;>(intro h;try simp only [NM] at h))|with_reducible refine yD tyOk mixed 6 (by kernel_rfl) fun K hK=>?_)<;>simp -dsimp (disch:=first|exact D|fail) only [go_sem,↓reduceIte,seval,gs,eEdg,Option.getD_none])|((with_reducible refine hK _ ?_);clear hK K)|refine Q1 ?_|((with_reducible refine qW (T:=TT) (b:=?_) ?_ ?_);rotate_left;exact rfl)|((with_reducible refine yS ?_ ?_)<;>(intro h;try simp only [NM] at h)))
    simp -dsimp (disch:=first|exact D|fail) only [retQ,Tryz.results14,resVals,cellRV,resOf,St.rest,St.freeze,RT,go_sem,↓reduceIte,seval]
  rw [if_neg hp] at hkR
  obtain ⟨q,hq⟩:∃q:Nat,ed.parent=(q:Int):=⟨ed.parent.toNat,by omega⟩
  rw [hq,Int.toNat_natCast] at hkR
  obtain ⟨c,hc⟩:∃c,acc.getD q zSch=c:=⟨_,rfl⟩
  have hk2:q<acc.length:=by omega
  have ga:(acc.map eSch).getD q []=eSch c:=by rw [getD_map_lt _ _ _ hk2,←hc,getD_lt _ hk2]
  have zc:schE c=0:=by rw [←hc,getD_lt _ hk2];exact hkz _ (List.getElem_mem hk2)
  have ev:=scrApply_sat c ed.steps (small_of zc).fits (by have:=fe.len;omega) fe.step
  unfold eScr at ev
  rw [hc] at hkR
  have q1:¬ (q:Int)<0:=by omega
  have q2:¬ (k:Int)<(q:Int):=by omega
  obtain ⟨r0,hv⟩:∃r0,scrApply c ed.steps=r0:=⟨_,rfl⟩
  rw [hv] at hkR ev
  repeat' (first|((first|with_reducible refine qV tyOk fun K hK=>?_|refine Q2 ?_|((with_reducible first|refine qS ?_ ?_|refine qT ?_ ?_|refine qU ?_ ?_)<;>(intro h;try simp only [NM] at h)))<;>simp -dsimp (disch:=first|exact D|fail) only [go_sem,↓reduceIte,seval,gs,eEdg,eScr,eSch,Option.getD_none,hq,q1,q2])|((with_reducible refine hK _ ?_);clear hK K)|refine Q1 ?_|((with_reducible refine qW (T:=TT) (b:=?_) ?_ ?_);rotate_left;exact rfl)|((with_reducible refine yS ?_ ?_)<;>(intro h;try simp only [NM] at h)))
  refine AWP.mid ⟨61,[(3,.v (oI 0)),(5,.v (.one (.ref 5 0 acc.length))),(25,.v (.one (.sl 2 (g.edges.map eEdg)))),(26,.v (oI g.edges.length)),(27,.v (oI k)),(8,.v (.one (.ptr 8 0))),(9,.v (oI (rE r0)))],[(8,eSch (sOut r0))],[(5,⟨3,acc.map eSch,[]⟩)]⟩ ?_ ?_
  ·refine dY tyOk mixed [(0,7)] (.cons 7 [(8,3)] [] (.cons 11 [] [(8,3)] (.cons 12 [(13,1)] [(10,1)] .leaf .none) .none) (.cons 11 [] [(0,7)] (.cons 7 [(8,3)] [] (.cons 12 [(13,1)] [(10,1)] .leaf .none) .none) .none)) [7,11,12] 8 fun K hK=>?_
   simp only [segt_leaf,segt_none,segt_cons,segs,List.drop_succ_cons,List.drop_zero,List.take_succ_cons,List.take_zero,List.getElem?_cons_zero,List.getElem?_cons_succ,List.cons_append,List.nil_append,List.append_nil] at hK ⊢
   simp -dsimp (disch:=first|exact D|fail) only [go_sem,↓reduceIte,seval,ga,eSch,eEdg,eScr,Option.getD_none,hq,q1,q2]
   repeat' (first|((first|((fail_if_success (refine AWP.isRegion 13 ?_));(with_reducible refine qV tyOk fun K hK=>?_))|refine Q2 ?_|((with_reducible first|refine qS ?_ ?_|refine qT ?_ ?_|refine qU ?_ ?_)<;>(intro h;try simp only [NM] at h))|((with_reducible refine CallJ.is ?_);(first|refine CallJ.pure (ev) ?_|((apply CallJ.lentI);(focus (simp -dsimp (disch:=first|exact D|fail) only [go_sem,↓reduceIte,seval,ga,eSch,eEdg,eScr,Option.getD_none,hq,q1,q2];rfl));(focus (first|exact (ev))))))|(with_reducible first|refine VCt.some fun K hK=>?_|refine VCt.step fun K hK=>?_))<;>simp -dsimp (disch:=first|exact D|fail) only [go_sem,↓reduceIte,seval,ga,eSch,eEdg,eScr,Option.getD_none,hq,q1,q2])|((with_reducible refine hK _ ?_);clear hK K)|(with_reducible refine VCt.intro fun K0 hK0=>?_)|((with_reducible refine VCt.fin ?_);(refine hK0 _ ?_);clear hK0 K0)|(with_reducible first|refine VCy.quiet ?_|refine VCt.none ?_)|((with_reducible refine VCy.keep ?_ ?_);focus ((simp -dsimp (disch:=first|exact D|fail) only [go_sem,↓reduceIte,seval,Stable_cons,Stable_nil,sameA_some,sameA_none,ga,eSch,eEdg,eScr,Option.getD_none,hq,q1,q2]);first|done|exact E|fail))|((with_reducible refine VCt.fork (fun K hK=>?_) ?_);(focus (simp -dsimp (disch:=first|exact D|fail) only [go_sem,↓reduceIte,seval,ga,eSch,eEdg,eScr,Option.getD_none,hq,q1,q2])))|refine Q1 ?_|((with_reducible refine qW (T:=TT) (b:=?_) ?_ ?_);rotate_left;exact rfl)|((with_reducible refine yS ?_ ?_)<;>(intro h;try simp only [NM] at h)))
   all_goals refine Gq.done ⟨rfl,?_⟩
   all_goals refine St.le_mk ?_ ?_ ?_<;>simp only [LE,EN,Nat.reduceEqDiff,reduceIte,Nat.reduceSub,eSch]
  cases r0 with
  | error e =>
   simp only at hkR
   subst hkR
   have he:=scrApply_ne hv
   unfold lOut rE eSchs sOut
   simp only
   repeat' (first|((first|with_reducible refine qV tyOk fun K hK=>?_|refine Q2 ?_|((with_reducible first|refine qS ?_ ?_|refine qT ?_ ?_|refine qU ?_ ?_)<;>(intro h;try simp only [NM] at h)))<;>simp -dsimp (disch:=first|exact D|fail) only [go_sem,↓reduceIte,seval,eSch,he,Option.getD_none])|((with_reducible refine hK _ ?_);clear hK K)|refine Q1 ?_|((with_reducible refine qW (T:=TT) (b:=?_) ?_ ?_);rotate_left;exact rfl)|((with_reducible refine yS ?_ ?_)<;>(intro h;try simp only [NM] at h)))
   simp -dsimp (disch:=first|exact D|fail) only [retQ,Tryz.results14,resVals,cellRV,resOf,St.rest,St.freeze,RT,go_sem,↓reduceIte,seval]
  | ok u =>
   simp only at hkR
   unfold sOut rE
   simp only
   repeat' (first|((first|with_reducible refine qV tyOk fun K hK=>?_|refine Q2 ?_|((with_reducible first|refine qS ?_ ?_|refine qT ?_ ?_|refine qU ?_ ?_)<;>(intro h;try simp only [NM] at h)))<;>simp -dsimp (disch:=first|exact D|fail) only [go_sem,↓reduceIte,seval,eSch,Option.getD_none])|((with_reducible refine hK _ ?_);clear hK K)|refine Q1 ?_|((with_reducible refine qW (T:=TT) (b:=?_) ?_ ?_);rotate_left;exact rfl)|((with_reducible refine yS ?_ ?_)<;>(intro h;try simp only [NM] at h)))
   refine ⟨⟨(k+1,acc++[u]),by simp only;omega,by simp;omega,fun x hx=>by
    rcases List.mem_append.1 hx with hx|hx
    ·exact hkz x hx
    ·rw [List.mem_singleton.1 hx];exact scrApply_ok hv,hkR⟩,by simp only;omega,?_⟩
   refine St.le_mk ?_ ?_ ?_<;>simp only [LE,EN,Nat.reduceEqDiff,reduceIte,Nat.reduceSub,eSch,List.map_append,List.map_cons,List.map_nil,List.length_append,List.length_cons,List.length_nil,Nat.zero_add]
 ·have hk:k=g.edges.length:=by omega
  subst hk
  rw [List.drop_length,goG] at hkR
  subst hkR
  unfold lOut rE eSchs
  simp only
  repeat' (first|((first|with_reducible refine qV tyOk fun K hK=>?_|refine Q2 ?_|((with_reducible first|refine qS ?_ ?_|refine qT ?_ ?_|refine qU ?_ ?_)<;>(intro h;try simp only [NM] at h)))<;>simp -dsimp (disch:=first|exact D|fail) only [go_sem,↓reduceIte,seval])|((with_reducible refine hK _ ?_);clear hK K)|refine Q1 ?_|((with_reducible refine qW (T:=TT) (b:=?_) ?_ ?_);rotate_left;exact rfl)|((with_reducible refine yS ?_ ?_)<;>(intro h;try simp only [NM] at h)))
  simp -dsimp (disch:=first|exact D|fail) only [retQ,Tryz.results14,resVals,cellRV,resOf,St.rest,St.freeze,RT,go_sem,↓reduceIte,seval]
  rw [frz_eSch]
theorem verValidate_sat (g:Gr) (hg:g.Fits):Sat Tryz.prog 29 [.agg (eGr g)] (.v (oI (rE (verSchemas g)))):=by
 have c:=verSchemas_sat g hg
 unfold eSchs at c
 refine sS tyOk Tryz.func29 fun w0 m0 F0=>?_
 simp only [Tryz.ntmps29,envOf,Nat.reduceAdd]
 repeat' (first|((first|with_reducible refine qV tyOk fun K hK=>?_|refine Q2 ?_|((with_reducible first|refine qS ?_ ?_|refine qT ?_ ?_|refine qU ?_ ?_)<;>(intro h;try simp only [NM] at h))|((with_reducible refine CallJ.is ?_);(first|refine CallJ.pure (c) ?_|((apply CallJ.lentI);(focus (simp -dsimp (disch:=first|exact D|fail) only [go_sem,↓reduceIte,seval,eGr,eEdgs];rfl));(focus (first|exact (c)))))))<;>simp -dsimp (disch:=first|exact D|fail) only [go_sem,↓reduceIte,seval,eGr,eEdgs])|((with_reducible refine hK _ ?_);clear hK K)|refine Q1 ?_|((with_reducible refine qW (T:=TT) (b:=?_) ?_ ?_);rotate_left;exact rfl)|((with_reducible refine yS ?_ ?_)<;>(intro h;try simp only [NM] at h)))
 simp -dsimp (disch:=first|exact D|fail) only [retQ,Tryz.results29,resVals,cellRV,resOf,St.rest,St.freeze,RT,go_sem,↓reduceIte,seval]
set_option maxHeartbeats 16000000 in
theorem verSchema_sat (g:Gr) (v:Int) (hg:g.Fits):Sat Tryz.prog 31 [.agg (eGr g),oI v] (.tup [.agg (eSch (sOut (verSchema g v))),oI (rE (verSchema g v))]):=by
 have c:=verSchemas_sat g hg
 unfold eSchs at c
 cases hR:verSchemas g with
 | error e =>
  have spec:verSchema g v=.error e:=by unfold verSchema;rw [hR]
  have he:=verSchemas_ne hR
  rw [hR] at c
  rw [spec]
  unfold lOut rE at c
  unfold sOut rE
  simp only at c ⊢
  refine sS tyOk Tryz.func31 fun w0 m0 F0=>?_
  simp only [Tryz.ntmps31,envOf,Nat.reduceAdd]
  repeat' (first|((first|with_reducible refine qV tyOk fun K hK=>?_|refine Q2 ?_|((with_reducible first|refine qS ?_ ?_|refine qT ?_ ?_|refine qU ?_ ?_)<;>(intro h;try simp only [NM] at h))|with_reducible refine yD tyOk mixed 6 (by kernel_rfl) fun K hK=>?_|((with_reducible refine CallJ.is ?_);(first|refine CallJ.pure (c) ?_|((apply CallJ.lentI);(focus (simp -dsimp (disch:=first|exact D|fail) only [go_sem,↓reduceIte,seval,eGr,eEdgs,eSch,he];rfl));(focus (first|exact (c))))))|((with_reducible refine CallH.is ?_);(first|refine CallH.intro (c) ?_)))<;>simp -dsimp (disch:=first|exact D|fail) only [go_sem,↓reduceIte,seval,eGr,eEdgs,eSch,he])|((with_reducible refine hK _ ?_);clear hK K)|refine Q1 ?_|((with_reducible refine qW (T:=TT) (b:=?_) ?_ ?_);rotate_left;exact rfl)|((with_reducible refine yS ?_ ?_)<;>(intro h;try simp only [NM] at h)))
  simp -dsimp (disch:=first|exact D|fail) only [retQ,Tryz.results31,resVals,cellRV,resOf,St.rest,St.freeze,RT,go_sem,↓reduceIte,seval]
 | ok O =>
  obtain ⟨_,_,hz,lO⟩:=verSchemas_ok hR
  rw [hR] at c
  unfold lOut rE at c
  simp only at c
  by_cases h1:v<0
  ·have spec:verSchema g v=.error 1:=by unfold verSchema;rw [hR];simp only;rw [if_pos (.inl h1)]
   rw [spec]
   unfold sOut rE
   simp only
   refine sS tyOk Tryz.func31 fun w0 m0 F0=>?_
   simp only [Tryz.ntmps31,envOf,Nat.reduceAdd]
   repeat' (first|((first|with_reducible refine qV tyOk fun K hK=>?_|refine Q2 ?_|((with_reducible first|refine qS ?_ ?_|refine qT ?_ ?_|refine qU ?_ ?_)<;>(intro h;try simp only [NM] at h))|with_reducible refine yD tyOk mixed 6 (by kernel_rfl) fun K hK=>?_|((with_reducible refine CallJ.is ?_);(first|refine CallJ.pure (c) ?_|((apply CallJ.lentI);(focus (simp -dsimp (disch:=first|exact D|fail) only [go_sem,↓reduceIte,seval,eGr,eEdgs,eSch];rfl));(focus (first|exact (c))))))|((with_reducible refine CallH.is ?_);(first|refine CallH.intro (c) ?_)))<;>simp -dsimp (disch:=first|exact D|fail) only [go_sem,↓reduceIte,seval,eGr,eEdgs,eSch])|((with_reducible refine hK _ ?_);clear hK K)|refine Q1 ?_|((with_reducible refine qW (T:=TT) (b:=?_) ?_ ?_);rotate_left;exact rfl)|((with_reducible refine yS ?_ ?_)<;>(intro h;try simp only [NM] at h)))
   simp -dsimp (disch:=first|exact D|fail) only [retQ,Tryz.results31,resVals,cellRV,resOf,St.rest,St.freeze,RT,go_sem,↓reduceIte,seval]
  by_cases h2:(O.length:Int)≤v
  ·have spec:verSchema g v=.error 1:=by unfold verSchema;rw [hR];simp only;rw [if_pos (.inr h2)]
   rw [spec]
   unfold sOut rE
   simp only
   refine sS tyOk Tryz.func31 fun w0 m0 F0=>?_
   simp only [Tryz.ntmps31,envOf,Nat.reduceAdd]
   repeat' (first|((first|with_reducible refine qV tyOk fun K hK=>?_|refine Q2 ?_|((with_reducible first|refine qS ?_ ?_|refine qT ?_ ?_|refine qU ?_ ?_)<;>(intro h;try simp only [NM] at h))|with_reducible refine yD tyOk mixed 6 (by kernel_rfl) fun K hK=>?_|((with_reducible refine CallJ.is ?_);(first|refine CallJ.pure (c) ?_|((apply CallJ.lentI);(focus (simp -dsimp (disch:=first|exact D|fail) only [go_sem,↓reduceIte,seval,eGr,eEdgs,eSch];rfl));(focus (first|exact (c))))))|((with_reducible refine CallH.is ?_);(first|refine CallH.intro (c) ?_)))<;>simp -dsimp (disch:=first|exact D|fail) only [go_sem,↓reduceIte,seval,eGr,eEdgs,eSch])|((with_reducible refine hK _ ?_);clear hK K)|refine Q1 ?_|((with_reducible refine qW (T:=TT) (b:=?_) ?_ ?_);rotate_left;exact rfl)|((with_reducible refine yS ?_ ?_)<;>(intro h;try simp only [NM] at h)))
   simp -dsimp (disch:=first|exact D|fail) only [retQ,Tryz.results31,resVals,cellRV,resOf,St.rest,St.freeze,RT,go_sem,↓reduceIte,seval]
  obtain ⟨q,rfl⟩:∃q:Nat,v=(q:Int):=⟨v.toNat,by omega⟩
  have hq:q<O.length:=by omega
  have spec:verSchema g (q:Int)=.ok (O.getD q zSch):=by unfold verSchema;rw [hR];simp only;rw [if_neg (by omega),Int.toNat_natCast]
  have gO:(O.map eSch).getD q []=eSch (O.getD q zSch):=by rw [getD_map_lt _ _ _ hq,getD_lt _ hq]
  rw [spec]
  unfold sOut rE
  simp only
  refine sS tyOk Tryz.func31 fun w0 m0 F0=>?_
  simp only [Tryz.ntmps31,envOf,Nat.reduceAdd]
  repeat' (first|((first|with_reducible refine qV tyOk fun K hK=>?_|refine Q2 ?_|((with_reducible first|refine qS ?_ ?_|refine qT ?_ ?_|refine qU ?_ ?_)<;>(intro h;try simp only [NM] at h))|with_reducible refine yD tyOk mixed 6 (by kernel_rfl) fun K hK=>?_|((with_reducible refine CallJ.is ?_);(first|refine CallJ.pure (c) ?_|((apply CallJ.lentI);(focus (simp -dsimp (disch:=first|exact D|fail) only [go_sem,↓reduceIte,seval,eGr,eEdgs,eSch,gO,Option.getD_none];rfl));(focus (first|exact (c))))))|((with_reducible refine CallH.is ?_);(first|refine CallH.intro (c) ?_)))<;>simp -dsimp (disch:=first|exact D|fail) only [go_sem,↓reduceIte,seval,eGr,eEdgs,eSch,gO,Option.getD_none])|((with_reducible refine hK _ ?_);clear hK K)|refine Q1 ?_|((with_reducible refine qW (T:=TT) (b:=?_) ?_ ?_);rotate_left;exact rfl)|((with_reducible refine yS ?_ ?_)<;>(intro h;try simp only [NM] at h)))
  simp -dsimp (disch:=first|exact D|fail) only [retQ,Tryz.results31,resVals,cellRV,resOf,St.rest,St.freeze,RT,go_sem,↓reduceIte,seval]
end Go.Bw
