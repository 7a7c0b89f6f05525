/-
  WHAT IS PROVED HERE, of this translation: ancestors_sat, reverseHops_satM, equalFuncSchs_sat, Stp.Ok.fits, cells_Step, cells_s_Step, bytes_Step, rd_stp, rd_scr, Edg.Ok.fits, cells_Edge, cells_s_Edge, bytes_Edge, rd_edg, rd_edgs, Gr.Ok.fits, cells_Graph, rd_gr.
  A theorem that ends in sat says what the function it names returns, whatever the state it is called in; the bounds on its arguments stand ahead of it.
-/
import Derived.Test.YtjjnchbfjbjemaaGreatVq
set_option linter.unusedSimpArgs false
set_option linter.unusedVariables false
namespace Go.Bw
open Go.Proofs
attribute [local go_sem ↓] VOps_nil VOps_cons VOp_callJ VVal_callH VOps_guard GOn_tt GOn_ff GOn_tf GOn_ft GOn_not GOn_none HOn_none HOn_tt HOn_ff HOn_tf HOn_ft HOn_not VHead_nil VHead_cons VHead_guard VVal_move VVal_assign VVal_pickE pickK_true pickK_false VVal_not VVal_neg negK_int VVal_load loadK_fz loadK_ptr loadK_eptr VVal_fieldAddr VVal_field VVal_indexAddr idxK_sl idxK_ref VVal_index indexK_str VVal_extract VVal_binOp binK_one binK_agg VVal_build VVal_buildSlice VVal_makeFunc VVal_slice sliceK_str sliceK_sl sliceK_nil sliceK_ref VVal_slice3 VVal_nilCheck VVal_convert convKk_int convKk_str VVal_len VVal_max VVal_min VOp_assign assignK_int assignK_bool assignK_str assignK_clo assignK_sl assignK_nil assignK_ref assignK_agg assignK_fz assignK_ptr assignK_eptr assignK_any VOp_box VOp_alloc VOp_store storeK_ptr storeK_eptr VOp_buildSlice VOp_append appK_rr appK_rs appK_rn appK_ri appK_nr appK_ns appK_nn appK_ni appStd_eq VOp_copy copyK_ref VOp_clear clearK_ref VOp_cap VOp_eqNil VOp_move VOp_pick VOp_not VOp_neg VOp_load VOp_fieldAddr VOp_field VOp_indexAddr VOp_index VOp_extract VOp_binTmp VOp_binInt VOp_binStr VOp_binPtr VOp_build VOp_makeFunc VOp_slice VOp_nilCheck VOp_convert VOp_len VOp_max VOp_min mO_some mT_some pk_some pk_none look_cons del_cons
attribute [local go_sem] guardB gOf int_bne beq_true beq_false Bool.not_not gSlot pickK_true pickK_false negK_int loadK_fz loadK_ptr loadK_eptr idxK_sl idxK_ref indexK_str binK_one binK_agg sliceK_str sliceK_sl sliceK_nil sliceK_ref convKk_int convKk_str maxL minL assignK_int assignK_bool assignK_str assignK_clo assignK_sl assignK_nil assignK_ref assignK_agg assignK_fz assignK_ptr assignK_eptr assignK_any nilRow_eq takeRow_eq appended_eq storeK_ptr storeK_eptr store_mk appIn_eq appMk_eq marked_eq ovOut_nil ovOut_cons ovIn_nil ovIn_cons padRow_eq ysC capK_nil capK_ref ioSt_mk outB_nil outR_nil outB outR inB_nil inB_cons inR_nil inR_cons L.kl L.kl0 L.ids L.ids0 Option.getD_some evalO constA mO_some mT_some put_mk putO_some putO_none okD_some okD_none pk_some pk_none look_nil del_nil sput noBox_mk noRow_mk newBox_eq newRow0_eq St.killRow RowC.kill rowMap_mk rowOf ovAll ovAdd ovDel ovGet ovShift dstOf ysOf overlay_nil overlay_nil' overlay A.map V.map L.noPtr L.noPtr0 L.noRow L.noRow0 L.peek L.norm L.flat clos_int clos_bool clos_str clos_sl clos_nil clos_any clos_fz L.clos L.isFz L.kd moveL fieldOff eqCells eqCell eqOp oneOf boolOf intOfA tupOf vOf aggOf isPtrLike isSlice lenKind lenL nL elemTI loadV asV binL intBin intDivL shrL boolBin strBin strAdd ptrNil boundN partCells fillL placesOf setL chunks repL capsOf capL callOf argsOf frzV_int frzV_bool frzV_str frzV_sl frzV_nil frzV_fz frzV_any frzV_own frzV_clo frzV_ref frzV_eptr frzV_ptr frzRow_nil frzRow_ov frzRs_nil frzRs_cons frzCs_nil frzCs_cons frzO_some frzO_none frzN_int frzN_bool frzN_str frzN_sl frzN_nil frzN_any frzN_own List.map_cons List.map_nil List.cons_append List.nil_append List.append_nil List.length_cons List.length_nil List.length_map List.length_append List.headD_cons List.tail_cons List.getElem?_cons_zero List.getElem?_cons_succ List.drop_zero List.drop_succ_cons List.drop_nil List.take_succ_cons List.take_zero List.take_nil List.take_length List.filter_cons List.filter_nil List.elem_cons List.elem_nil List.all_cons List.all_nil Option.bind_some Option.map_some Option.some.injEq bne_self_eq_false beq_self_eq_true if_true if_false Bool.false_eq_true true_and and_true and_self Nat.zero_add Nat.add_zero Nat.zero_le Int.toNat_natCast Int.toNat_zero Option.isSome_some List.getElem?_toArray decide_true decide_false ge_iff_le gt_iff_lt Bool.not_true Bool.not_false Nat.le_refl Bool.and_true Bool.true_and Bool.and_false Bool.false_and eVal eRow eRow1 eRows eInt1 eInts eCol eCols eTbl eTbls eFK eFKs eCon eCons eSch eRel eInst eChg eChgs szOf getD_map_lt wrap_nat wrap_in List.take_of_length_le frz_eVal frz_eRow1 frz_eInt1 frz_eCol frz_eTbl frz_eFK frz_eCon frz_eRel frz_eChg noOwn_nil noOwn_cons noOwn_append L.isOwn noOwn_eVal noOwn_eRow1 noOwn_eInt1 noOwn_eCol noOwn_eTbl noOwn_eFK noOwn_eCon noOwn_eRel noOwn_eChg convK_2 convK_3 convK_5 convK_12 convK_21 convK_32 convK_95 convK_119 convK_122 convK_152 convK_169 TT_2 TT_3 TT_4 TT_5 TT_9 TT_12 TT_13 TT_21 TT_22 TT_23 TT_24 TT_25 TT_26 TT_27 TT_28 TT_29 TT_31 TT_32 TT_36 TT_37 TT_42 TT_43 TT_44 TT_48 TT_49 TT_56 TT_61 TT_72 TT_73 TT_74 TT_85 TT_86 TT_89 TT_90 TT_91 TT_92 TT_95 TT_98 TT_113 TT_114 TT_116 TT_117 TT_119 TT_122 TT_145 TT_152 TT_169 boolTy_4 eqK_37 eqK_90 eqK_92 eqK_114
attribute [local congr] VOps.congr VHead.congr VOp.congr VVal.congr pk.congr assignK.congr appK.congr appStd.congr copyK.congr clearK.congr storeK.congr loadK.congr idxK.congr sliceK.congr indexK.congr binK.congr convKk.congr
set_option maxHeartbeats 16000000 in
theorem ancestors_sat (g:Gr) (v:Nat) (ok:GrOk g) (hv:v≤g.edges.length) (hl:g.edges.length≤1048576):Sat Tryz.prog 32 [.agg (eGr g),oI v] (.v (.one (eInts (natI (anc (parN g) v))))):=by
 refine sS tyOk Tryz.func32 fun w0 m0 F0=>?_
 simp only [Tryz.ntmps32,envOf,Nat.reduceAdd]
 repeat' (first|((with_reducible refine qV tyOk fun K hK=>?_)<;>simp -dsimp (disch:=first|exact D|fail) only [go_sem,↓reduceIte,seval,eGr,eEdgs])|((with_reducible refine hK _ ?_);clear hK K)|refine Q1 ?_|fail)
 refine AWP.loop (ι:={p:Nat×List Nat // p.1≤g.edges.length∧p.2.length+p.1≤g.edges.length∧p.2++anc (parN g) p.1=anc (parN g) v}) (fun p=>⟨22,[(1,.v (oI p.1.1)),(2,.v (.one (.ptr 2 0))),(5,.v (.one (.ref 5 0 (p.1.2.length+1))))],[(2,eGr g)],[(5,⟨1,(natI (p.1.2++[p.1.1])).map eInt1,[]⟩)]⟩) (fun p=>p.1.1) ⟨(v,[]),hv,by simpa using hv,rfl⟩ ?_ fun ⟨⟨u,acc⟩,hu,hul,hua⟩=>?_
 ·refine St.le_mk ?_ ?_ ?_<;>simp only [LE,EN,Nat.reduceEqDiff,reduceIte,Nat.reduceSub,eGr,eEdgs,List.length_nil,Nat.zero_add,natI_snoc,natI,List.map_nil,List.nil_append]
 simp only at hu hul hua ⊢
 rcases Nat.eq_zero_or_pos u with h0|h0
 ·subst h0
  have e1:anc (parN g) 0=[0]:=by rw [anc,dif_neg (by omega)]
  rw [e1] at hua
  have l1:(natI (acc++[0])).length=acc.length+1:=by simp [natI]
  repeat' (first|((with_reducible refine qV tyOk fun K hK=>?_)<;>simp -dsimp (disch:=first|exact D|fail) only [go_sem,↓reduceIte,seval,eGr,eEdgs,l1])|((with_reducible refine hK _ ?_);clear hK K)|refine Q1 ?_|((with_reducible refine qW (T:=TT) (b:=?_) ?_ ?_);rotate_left;exact rfl)|fail)
  simp -dsimp (disch:=first|exact D|fail) only [retQ,Tryz.results32,resVals,cellRV,resOf,St.rest,St.freeze,RT,go_sem,↓reduceIte,seval]
  rw [hua,if_pos (by rw [natI_len,←hua];simp)]
 ·have hp:=ok.par u h0 hu
  have e1:anc (parN g) u=u::anc (parN g) (parN g u):=by rw [anc,dif_pos ⟨h0,hp⟩]
  have ge:=getD_edge ok h0 hu
  have w1:((u:Int) - 1).toNat=u - 1:=by omega
  have l1:(natI (acc++[u])).length=acc.length+1:=by simp [natI]
  repeat' (first|((with_reducible refine qV tyOk fun K hK=>?_)<;>simp -dsimp (disch:=first|exact D|fail) only [go_sem,↓reduceIte,seval,eGr,eEdgs,ge,w1,l1,Option.getD_none])|((with_reducible refine hK _ ?_);clear hK K)|refine Q1 ?_|((with_reducible refine qW (T:=TT) (b:=?_) ?_ ?_);rotate_left;exact rfl)|fail)
  refine ⟨⟨(parN g u,acc++[u]),by simp only;omega,by simp;omega,by rw [e1] at hua;simpa using hua⟩,by simp only;omega,?_⟩
  refine St.le_mk ?_ ?_ ?_<;>simp only [LE,EN,Nat.reduceEqDiff,reduceIte,Nat.reduceSub,eGr,eEdgs,List.length_append,List.length_cons,List.length_nil,Nat.zero_add,natI_snoc]
set_option maxHeartbeats 16000000 in
theorem reverseHops_satM (l:List Hp) (h1:l.length≤1048576):SatM Tryz.prog 11 [.one (.ref 1000 0 l.length)] [] [(1000,⟨2,l.map eHp,[]⟩)] (.tup []) [] [(1000,⟨2,l.reverse.map eHp,[]⟩)]:=by
 have lm:∀k,((revTo l k).map eHp).length=l.length:=fun k=>by rw [List.length_map,revTo_len]
 refine sM tyOk [] [1000] Tryz.func11 fun w0 m0 F0=>?_
 simp only [Tryz.ntmps11,envOf,Nat.reduceAdd]
 repeat' (first|((with_reducible refine qV tyOk fun K hK=>?_)<;>simp -dsimp (disch:=first|exact D|fail) only [go_sem,↓reduceIte,seval])|((with_reducible refine hK _ ?_);clear hK K)|refine Q1 ?_|fail)
 refine AWP.loop (ι:={k:Nat // 2 * k≤l.length+1}) (fun k=>⟨28,[(0,.v (.one (.ref 1000 0 l.length))),(2,.v (oI k.1)),(3,.v (oI ((l.length:Int) - 1 - k.1)))],[],[(1000,⟨2,(revTo l k.1).map eHp,[]⟩)]⟩) (fun k=>l.length+1 - k.1) ⟨0,by omega⟩ ?_ fun ⟨k,hk⟩=>?_
 ·refine St.le_mk ?_ ?_ ?_<;>simp only [LE,EN,Nat.reduceEqDiff,reduceIte,Nat.reduceSub,revTo_zero,Int.sub_zero,Int.natCast_zero]
 simp only at hk ⊢
 rcases Nat.lt_or_ge (2 * k+1) l.length with hc|hc
 ·have w1:((l.length:Int) - 1 - k).toNat=l.length - 1 - k:=by omega
  have g1:((revTo l k).map eHp).getD k []=eHp (l.getD k zHp):=by rw [getD_map_lt _ _ _ (by rw [revTo_len];omega),revTo_at (by omega),if_neg (by omega)]
  have g2:((revTo l k).map eHp).getD (l.length - 1 - k) []=eHp (l.getD (l.length - 1 - k) zHp):=by rw [getD_map_lt _ _ _ (by rw [revTo_len];omega),revTo_at (by omega),if_neg (by omega)]
  have g3:∀x,(((revTo l k).map eHp).set k x).getD (l.length - 1 - k) []=eHp (l.getD (l.length - 1 - k) zHp):=fun x=>by rw [List.getD_eq_getElem?_getD,List.getElem?_set_ne (by omega),←List.getD_eq_getElem?_getD,g2]
  have st:(((revTo l k).map eHp).set k (eHp (l.getD (l.length - 1 - k) zHp))).set (l.length - 1 - k) (eHp (l.getD k zHp))=(revTo l (k+1)).map eHp:=by rw [←revTo_succ l hc,List.map_set,List.map_set]
  simp only [eHp] at st
  repeat' (first|((first|with_reducible refine qV tyOk fun K hK=>?_|(refine AWP.isRegion 3 ?_;refine dX tyOk mixed [(0,13)] [(13,[(14,1)],[(2,2)]),(15,[],[])] [13,15] 8 fun K hK=>?_;simp only [SG,segs] at hK ⊢)|(with_reducible first|refine VCy.some fun K hK=>?_|refine VCy.step fun K hK=>?_))<;>simp -dsimp (disch:=first|exact D|fail) only [go_sem,↓reduceIte,seval,w1,g1,g2,g3,lm,eHp,Option.getD_none,List.length_set])|((with_reducible refine hK _ ?_);clear hK K)|(with_reducible refine VCy.intro fun K0 hK0=>?_)|((with_reducible refine VCy.fin ?_);(refine hK0 _ ?_);clear hK0 K0)|(with_reducible first|refine VCy.quiet ?_|refine VCy.none ?_)|((with_reducible refine VCy.keep ?_ ?_);focus ((simp -dsimp (disch:=first|exact D|fail) only [go_sem,↓reduceIte,seval,Stable_cons,Stable_nil,sameA_some,sameA_none,w1,g1,g2,g3,lm,eHp,Option.getD_none,List.length_set]);first|done|exact E|fail))|refine Q1 ?_|((with_reducible refine qW (T:=TT) (b:=?_) ?_ ?_);rotate_left;exact rfl)|fail)
  refine ⟨⟨k+1,by omega⟩,by simp only;omega,?_⟩
  have e3:(l.length:Int) - 1 - k - 1=l.length - 1 - ((k:Int)+1):=by omega
  refine St.le_mk ?_ ?_ ?_<;>simp only [LE,EN,Nat.reduceEqDiff,reduceIte,Nat.reduceSub,st,e3,Int.natCast_add,Int.natCast_one]
 ·repeat' (first|((with_reducible refine qV tyOk fun K hK=>?_)<;>simp -dsimp (disch:=first|exact D|fail) only [go_sem,↓reduceIte,seval,lm])|((with_reducible refine hK _ ?_);clear hK K)|refine Q1 ?_|((with_reducible refine qW (T:=TT) (b:=?_) ?_ ?_);rotate_left;exact rfl)|fail)
  simp -dsimp (disch:=first|exact D|fail) only [retQ,Tryz.results11,resVals,cellRV,resOf,St.rest,St.freeze,RT,go_sem,↓reduceIte,seval]
  rw [revTo_all l (by omega)]
set_option maxHeartbeats 8000000 in
theorem equalFuncSchs_sat (a b:List Sch) (h1:a.length≤140737488355328) (h2:b.length≤140737488355328) (h3:∀s∈a,s.Fits) (h4:∀s∈b,s.Fits) :
  Sat Tryz.prog 17 [.one (eSchs a),.one (eSchs b),.one (.clo 18 [])] (.v (oB (decide (a=b)))):=by
 unfold eSchs
 refine sS tyOk Tryz.func17 fun w0 m0 F0=>?_
 simp only [Tryz.ntmps17,envOf,Nat.reduceAdd]
 repeat' (first|((with_reducible refine qV tyOk fun K hK=>?_)<;>simp -dsimp (disch:=first|exact D|fail) only [go_sem,↓reduceIte,seval])|((with_reducible refine hK _ ?_);clear hK K)|refine Q1 ?_|((with_reducible refine qW (T:=TT) (b:=?_) ?_ ?_);rotate_left;exact rfl)|((with_reducible refine yS ?_ ?_)<;>(intro h;try simp only [NM] at h))|fail)
 rotate_left
 ·simp -dsimp (disch:=first|exact D|fail) only [retQ,Tryz.results17,resVals,cellRV,resOf,St.rest,St.freeze,RT,go_sem,↓reduceIte,seval]
  have hn:¬ a=b:=fun e=>by rw [e] at h;exact h rfl
  simp [hn]
 have hl:a.length=b.length:=by omega
 refine AWP.loop (ι:={k:Nat // k≤a.length∧a.take k=b.take k}) (fun k=>⟨32,[(1,.v (.one (.sl 3 (b.map eSch)))),(2,.v (.one (.clo 18 []))),(15,.v (.one (.sl 3 (a.map eSch)))),(16,.v (oI a.length)),(17,.v (oI k.1))],[],[]⟩) (fun k=>a.length - k.1) ⟨0,Nat.zero_le _,rfl⟩ ?_ fun ⟨k,hkl,hi⟩=>?_
 ·refine St.le_mk ?_ ?_ ?_<;>simp only [LE,EN,Nat.reduceEqDiff,reduceIte,Nat.reduceSub]
 simp only at hkl hi ⊢
 rcases Nat.lt_or_ge k a.length with hc|hc
 ·have hb:k<b.length:=by omega
  have g1:(a.map eSch).getD k []=eSch a[k]:=getD_map_lt _ _ _ hc
  have g2:(b.map eSch).getD k []=eSch b[k]:=getD_map_lt _ _ _ hb
  have c:=schEqual_sat a[k] b[k] (h3 _ (List.getElem_mem hc)) (h4 _ (List.getElem_mem hb))
  by_cases he:a[k]=b[k]
  ·rw [decide_eq_true he] at c
   repeat' (first|((first|with_reducible refine qV tyOk fun K hK=>?_|((with_reducible refine CallJ.is ?_);(refine CallJ.pure (c) ?_)))<;>simp -dsimp (disch:=first|exact D|fail) only [go_sem,↓reduceIte,seval,g1,g2,eSch,Option.getD_none])|((with_reducible refine hK _ ?_);clear hK K)|refine Q1 ?_|((with_reducible refine qW (T:=TT) (b:=?_) ?_ ?_);rotate_left;exact rfl)|fail)
   refine ⟨⟨k+1,by omega,take_eq_succ hc hb hi he⟩,by simp only;omega,?_⟩
   refine St.le_mk ?_ ?_ ?_<;>simp only [LE,EN,Nat.reduceEqDiff,reduceIte,Nat.reduceSub]
  ·rw [decide_eq_false he] at c
   have hn:¬ a=b:=fun e=>he (get_of_eq hc hb e)
   rw [decide_eq_false hn]
   repeat' (first|((first|with_reducible refine qV tyOk fun K hK=>?_|((with_reducible refine CallJ.is ?_);(refine CallJ.pure (c) ?_)))<;>simp -dsimp (disch:=first|exact D|fail) only [go_sem,↓reduceIte,seval,g1,g2,eSch,Option.getD_none])|((with_reducible refine hK _ ?_);clear hK K)|refine Q1 ?_|((with_reducible refine qW (T:=TT) (b:=?_) ?_ ?_);rotate_left;exact rfl)|fail)
   simp -dsimp (disch:=first|exact D|fail) only [retQ,Tryz.results17,resVals,cellRV,resOf,St.rest,St.freeze,RT,go_sem,↓reduceIte,seval]
 ·have hk:a=b:=by
   rw [List.take_of_length_le (by omega),List.take_of_length_le (by omega)] at hi
   exact hi
  repeat' (first|((with_reducible refine qV tyOk fun K hK=>?_)<;>simp -dsimp (disch:=first|exact D|fail) only [go_sem,↓reduceIte,seval])|((with_reducible refine hK _ ?_);clear hK K)|refine Q1 ?_|((with_reducible refine qW (T:=TT) (b:=?_) ?_ ?_);rotate_left;exact rfl)|fail)
  simp -dsimp (disch:=first|exact D|fail) only [retQ,Tryz.results17,resVals,cellRV,resOf,St.rest,St.freeze,RT,go_sem,↓reduceIte,seval]
  simp [hk]
section
structure Stp.Ok (s:Stp):Prop where
 cols:s.cols.length * 8≤reachBytes
 ncols:s.newTable.cols.length * 32≤reachBytes
 npk:s.newTable.pk.length * 8≤reachBytes
 fk:s.fk.cols.length * 8≤reachBytes
theorem Stp.Ok.fits {s:Stp} (h:s.Ok):s.Fits:=by
 obtain ⟨h1,h2,h3,h4⟩:=h
 rw [reachBytes_eq] at h1 h2 h3 h4
 exact ⟨by omega,by omega,by omega,by omega⟩
variable {w:World}
theorem cells_Step:Tryz.prog.cellsOf 117=24:=by kernel_rfl
theorem cells_s_Step:Tryz.prog.cellsOf 43=1:=by kernel_rfl
theorem bytes_Step:Tryz.prog.bytesOf 117=352:=by kernel_rfl
theorem rd_stp:Rd Tryz.prog w 117 eStp Stp.Ok :=
 (rd_struct Tryz.underlying117 (by kernel_rfl) (rdF_cons rfl cells_int rd_I (rdF_cons rfl cells_string rd_S (rdF_cons rfl cells_string rd_S (rdF_cons rfl cells_string rd_S (rdF_cons rfl cells_string rd_S (rdF_cons rfl cells_int rd_I
  (rdF_cons rfl cells_s_int rd_ints (rdF_cons rfl cells_string rd_S (rdF_cons rfl cells_Value rd_val (rdF_cons rfl cells_Table rd_tbl (rdF_cons rfl cells_Constraint rd_con (rdF_cons rfl cells_ForeignKey rd_fk rdF_nil))))))))))))).to
  (fun p=>⟨p.1,p.2.1,p.2.2.1,p.2.2.2.1,p.2.2.2.2.1,p.2.2.2.2.2.1,p.2.2.2.2.2.2.1,p.2.2.2.2.2.2.2.1,p.2.2.2.2.2.2.2.2.1,p.2.2.2.2.2.2.2.2.2.1,p.2.2.2.2.2.2.2.2.2.2.1,p.2.2.2.2.2.2.2.2.2.2.2.1⟩)
  (fun _=>by simp [eStp,eVal,eTbl,eCon,eFK,eInts,eCols]) fun _ h=>by
   obtain ⟨_,_,_,_,_,_,⟨h1,_⟩,_,_,h2,_,h3,_⟩:=h
   obtain ⟨_,⟨k1,_⟩,⟨k2,_⟩⟩:=h2
   obtain ⟨_,⟨k3,_⟩,_⟩:=h3
   exact ⟨h1,k1,k2,k3⟩
theorem rd_scr:Rd Tryz.prog w 43 (fun l=>[eScr l]) fun l=>l.length * 352≤reachBytes∧∀c∈l,Stp.Ok c :=
 rd_slice Tryz.underlying43 cells_Step bytes_Step (fun _=>rfl) rd_stp
structure Edg.Ok (e:Edg):Prop where
 steps:e.steps.length * 352≤reachBytes∧∀c∈e.steps,Stp.Ok c
theorem Edg.Ok.fits {e:Edg} (h:e.Ok):e.Fits:=by
 have h1:=h.steps.1
 rw [reachBytes_eq] at h1
 exact ⟨by omega,fun st hs=>(h.steps.2 st hs).fits⟩
theorem cells_Edge:Tryz.prog.cellsOf 49=2:=by kernel_rfl
theorem cells_s_Edge:Tryz.prog.cellsOf 27=1:=by kernel_rfl
theorem bytes_Edge:Tryz.prog.bytesOf 49=32:=by kernel_rfl
theorem rd_edg:Rd Tryz.prog w 49 eEdg Edg.Ok :=
 (rd_struct2 Tryz.underlying49 ⟨rfl,rfl⟩ ⟨cells_int,cells_s_Step⟩ cells_Edge rd_I rd_scr).to (fun p=>⟨p.1,p.2.1⟩) (fun _=>by simp [eEdg]) fun _ h=>⟨h.2.1⟩
theorem rd_edgs:Rd Tryz.prog w 27 (fun l=>[eEdgs l]) fun l=>l.length * 32≤reachBytes∧∀c∈l,Edg.Ok c :=
 rd_slice Tryz.underlying27 cells_Edge bytes_Edge (fun _=>rfl) rd_edg
structure Gr.Ok (g:Gr):Prop where
 base:g.base.Ok
 edges:g.edges.length * 32≤reachBytes∧∀c∈g.edges,Edg.Ok c
theorem Gr.Ok.fits {g:Gr} (h:g.Ok):g.Fits:=by
 have h1:=h.edges.1
 rw [reachBytes_eq] at h1
 exact ⟨h.base.fits,by omega,fun e he=>(h.edges.2 e he).fits⟩
theorem cells_Graph:Tryz.prog.cellsOf 29=4:=by kernel_rfl
theorem rd_gr:Rd Tryz.prog w 29 eGr Gr.Ok :=
 (rd_struct2 Tryz.underlying29 ⟨rfl,rfl⟩ ⟨cells_Schema,cells_s_Edge⟩ cells_Graph rd_sch rd_edgs).to (fun p=>⟨p.1,p.2.1⟩) (fun _=>by simp [eGr,eSch]) fun _ h=>⟨h.1,h.2.1⟩
end
end Go.Bw
