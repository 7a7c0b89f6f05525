/-
  WHAT IS PROVED HERE, of this translation: path_sat, graphsWork_sat, versionsExtend_sat.
  A theorem that ends in sat says what the function it names returns, whatever the state it is called in; the bounds on its arguments stand ahead of it.
-/
import Derived.Test.YtjjnchbfjbjemaaGreatVs
import Derived.Test.YtjjnchbfjbjemaaGreatVu
set_option linter.unusedSimpArgs false
set_option linter.unusedVariables false
namespace Go.Bw
open Go.Proofs
attribute [local go_sem ↓] VOps_nil VOps_cons VOp_callJ VVal_callH VOps_guard GOn_tt GOn_ff GOn_tf GOn_ft GOn_not GOn_none HOn_none HOn_tt HOn_ff HOn_tf HOn_ft HOn_not VHead_nil VHead_cons VHead_guard VVal_move VVal_assign VVal_pickE pickK_true pickK_false VVal_not VVal_neg negK_int VVal_load loadK_fz loadK_ptr loadK_eptr VVal_fieldAddr VVal_field VVal_indexAddr idxK_sl idxK_ref VVal_index indexK_str VVal_extract VVal_binOp binK_one binK_agg VVal_build VVal_buildSlice VVal_makeFunc VVal_slice sliceK_str sliceK_sl sliceK_nil sliceK_ref VVal_slice3 VVal_nilCheck VVal_convert convKk_int convKk_str VVal_len VVal_max VVal_min VOp_assign assignK_int assignK_bool assignK_str assignK_clo assignK_sl assignK_nil assignK_ref assignK_agg assignK_fz assignK_ptr assignK_eptr assignK_any VOp_box VOp_alloc VOp_store storeK_ptr storeK_eptr VOp_buildSlice VOp_append appK_rr appK_rs appK_rn appK_ri appK_nr appK_ns appK_nn appK_ni appStd_eq VOp_copy copyK_ref VOp_clear clearK_ref VOp_cap VOp_eqNil VOp_move VOp_pick VOp_not VOp_neg VOp_load VOp_fieldAddr VOp_field VOp_indexAddr VOp_index VOp_extract VOp_binTmp VOp_binInt VOp_binStr VOp_binPtr VOp_build VOp_makeFunc VOp_slice VOp_nilCheck VOp_convert VOp_len VOp_max VOp_min mO_some mT_some pk_some pk_none look_cons del_cons
attribute [local go_sem] guardB gOf int_bne beq_true beq_false Bool.not_not gSlot pickK_true pickK_false negK_int loadK_fz loadK_ptr loadK_eptr idxK_sl idxK_ref indexK_str binK_one binK_agg sliceK_str sliceK_sl sliceK_nil sliceK_ref convKk_int convKk_str maxL minL assignK_int assignK_bool assignK_str assignK_clo assignK_sl assignK_nil assignK_ref assignK_agg assignK_fz assignK_ptr assignK_eptr assignK_any nilRow_eq takeRow_eq appended_eq storeK_ptr storeK_eptr store_mk appIn_eq appMk_eq marked_eq ovOut_nil ovOut_cons ovIn_nil ovIn_cons padRow_eq ysC capK_nil capK_ref ioSt_mk outB_nil outR_nil outB outR inB_nil inB_cons inR_nil inR_cons L.kl L.kl0 L.ids L.ids0 Option.getD_some evalO constA mO_some mT_some put_mk putO_some putO_none okD_some okD_none pk_some pk_none look_nil del_nil sput noBox_mk noRow_mk newBox_eq newRow0_eq St.killRow RowC.kill rowMap_mk rowOf ovAll ovAdd ovDel ovGet ovShift dstOf ysOf overlay_nil overlay_nil' overlay A.map V.map L.noPtr L.noPtr0 L.noRow L.noRow0 L.peek L.norm L.flat clos_int clos_bool clos_str clos_sl clos_nil clos_any clos_fz L.clos L.isFz L.kd moveL fieldOff eqCells eqCell eqOp oneOf boolOf intOfA tupOf vOf aggOf isPtrLike isSlice lenKind lenL nL elemTI loadV asV binL intBin intDivL shrL boolBin strBin strAdd ptrNil boundN partCells fillL placesOf setL chunks repL capsOf capL callOf argsOf frzV_int frzV_bool frzV_str frzV_sl frzV_nil frzV_fz frzV_any frzV_own frzV_clo frzV_ref frzV_eptr frzV_ptr frzRow_nil frzRow_ov frzRs_nil frzRs_cons frzCs_nil frzCs_cons frzO_some frzO_none frzN_int frzN_bool frzN_str frzN_sl frzN_nil frzN_any frzN_own List.map_cons List.map_nil List.cons_append List.nil_append List.append_nil List.length_cons List.length_nil List.length_map List.length_append List.headD_cons List.tail_cons List.getElem?_cons_zero List.getElem?_cons_succ List.drop_zero List.drop_succ_cons List.drop_nil List.take_succ_cons List.take_zero List.take_nil List.take_length List.filter_cons List.filter_nil List.elem_cons List.elem_nil List.all_cons List.all_nil Option.bind_some Option.map_some Option.some.injEq bne_self_eq_false beq_self_eq_true if_true if_false Bool.false_eq_true true_and and_true and_self Nat.zero_add Nat.add_zero Nat.zero_le Int.toNat_natCast Int.toNat_zero Option.isSome_some List.getElem?_toArray decide_true decide_false ge_iff_le gt_iff_lt Bool.not_true Bool.not_false Nat.le_refl Bool.and_true Bool.true_and Bool.and_false Bool.false_and eVal eRow eRow1 eRows eInt1 eInts eCol eCols eTbl eTbls eFK eFKs eCon eCons eSch eRel eInst eChg eChgs szOf getD_map_lt wrap_nat wrap_in List.take_of_length_le frz_eVal frz_eRow1 frz_eInt1 frz_eCol frz_eTbl frz_eFK frz_eCon frz_eRel frz_eChg noOwn_nil noOwn_cons noOwn_append L.isOwn noOwn_eVal noOwn_eRow1 noOwn_eInt1 noOwn_eCol noOwn_eTbl noOwn_eFK noOwn_eCon noOwn_eRel noOwn_eChg convK_2 convK_3 convK_5 convK_12 convK_21 convK_32 convK_95 convK_119 convK_122 convK_152 convK_169 TT_2 TT_3 TT_4 TT_5 TT_9 TT_12 TT_13 TT_21 TT_22 TT_23 TT_24 TT_25 TT_26 TT_27 TT_28 TT_29 TT_31 TT_32 TT_36 TT_37 TT_42 TT_43 TT_44 TT_48 TT_49 TT_56 TT_61 TT_72 TT_73 TT_74 TT_85 TT_86 TT_89 TT_90 TT_91 TT_92 TT_95 TT_98 TT_113 TT_114 TT_116 TT_117 TT_119 TT_122 TT_145 TT_152 TT_169 boolTy_4 eqK_37 eqK_90 eqK_92 eqK_114
attribute [local congr] VOps.congr VHead.congr VOp.congr VVal.congr pk.congr assignK.congr appK.congr appStd.congr copyK.congr clearK.congr storeK.congr loadK.congr idxK.congr sliceK.congr indexK.congr binK.congr convKk.congr
set_option maxHeartbeats 32000000 in
theorem path_sat (g:Gr) (a b:Int) (hg:g.Fits):Sat Tryz.prog 10 [.agg (eGr g),oI a,oI b] (.tup [.one (eHps (hOut (verPath g a b))),oI (rE (verPath g a b))]):=by
 have ca:=verSchema_sat g a hg
 have cb:=verSchema_sat g b hg
 unfold eHps
 cases ha:verSchema g a with
 | error e =>
  have spec:verPath g a b=.error e:=by unfold verPath;rw [ha]
  have he:=verSchema_ne ha
  rw [ha] at ca
  rw [spec]
  unfold sOut rE at ca
  unfold hOut rE
  simp only at ca ⊢
  refine sS tyOk Tryz.func10 fun w0 m0 F0=>?_
  simp only [Tryz.ntmps10,envOf,Nat.reduceAdd]
  repeat' (first|((first|with_reducible refine qV tyOk fun K hK=>?_|refine Q2 ?_|((with_reducible first|refine qS ?_ ?_|refine qT ?_ ?_|refine qU ?_ ?_)<;>(intro h;try simp only [NM] at h)))<;>simp -dsimp (disch:=first|exact D|fail) only [go_sem,↓reduceIte,seval,eGr,eEdgs])|((with_reducible refine hK _ ?_);clear hK K)|refine Q1 ?_|((with_reducible refine qW (T:=TT) (b:=?_) ?_ ?_);rotate_left;exact rfl)|((with_reducible refine yS ?_ ?_)<;>(intro h;try simp only [NM] at h)))
  refine AWP.loop (ι:=Unit) (fun _=>⟨78,[(3,.v (.one (.ptr 3 0))),(7,.v (oI 0)),(20,.v (.one (.ref 20 0 2))),(21,.v (oI 2)),(22,.v (oI 0))],[(3,eGr g)],[(20,⟨1,[[.int .i64 a],[.int .i64 b]],[]⟩)]⟩) (fun _=>0) () ?_ fun _=>?_
  ·refine St.le_mk ?_ ?_ ?_<;>simp only [LE,EN,Nat.reduceEqDiff,reduceIte,Nat.reduceSub,eGr,eEdgs]
  have g0:([[.int .i64 a],[.int .i64 b]]:List (List L)).getD 0 []=[.int .i64 a]:=rfl
  repeat' (first|((first|with_reducible refine qV tyOk fun K hK=>?_|refine Q2 ?_|((with_reducible first|refine qS ?_ ?_|refine qT ?_ ?_|refine qU ?_ ?_)<;>(intro h;try simp only [NM] at h))|((with_reducible refine CallJ.is ?_);(first|refine CallJ.pure (ca) ?_|((apply CallJ.lentI);(focus (simp -dsimp (disch:=first|exact D|fail) only [go_sem,↓reduceIte,seval,eGr,eEdgs,eSch,g0,he,Option.getD_none];rfl));(focus (first|exact (ca)))))))<;>simp -dsimp (disch:=first|exact D|fail) only [go_sem,↓reduceIte,seval,eGr,eEdgs,eSch,g0,he,Option.getD_none])|((with_reducible refine hK _ ?_);clear hK K)|refine Q1 ?_|((with_reducible refine qW (T:=TT) (b:=?_) ?_ ?_);rotate_left;exact rfl)|((with_reducible refine yS ?_ ?_)<;>(intro h;try simp only [NM] at h)))
  simp -dsimp (disch:=first|exact D|fail) only [retQ,Tryz.results10,resVals,cellRV,resOf,St.rest,St.freeze,RT,go_sem,↓reduceIte,seval]
 | ok sa =>
 cases hb:verSchema g b with
 | error e =>
  have spec:verPath g a b=.error e:=by unfold verPath;rw [ha];simp only;rw [hb]
  have he:=verSchema_ne hb
  rw [ha] at ca
  rw [hb] at cb
  rw [spec]
  unfold sOut rE at ca cb
  unfold hOut rE
  simp only at ca cb ⊢
  refine sS tyOk Tryz.func10 fun w0 m0 F0=>?_
  simp only [Tryz.ntmps10,envOf,Nat.reduceAdd]
  repeat' (first|((first|with_reducible refine qV tyOk fun K hK=>?_|refine Q2 ?_|((with_reducible first|refine qS ?_ ?_|refine qT ?_ ?_|refine qU ?_ ?_)<;>(intro h;try simp only [NM] at h)))<;>simp -dsimp (disch:=first|exact D|fail) only [go_sem,↓reduceIte,seval,eGr,eEdgs])|((with_reducible refine hK _ ?_);clear hK K)|refine Q1 ?_|((with_reducible refine qW (T:=TT) (b:=?_) ?_ ?_);rotate_left;exact rfl)|((with_reducible refine yS ?_ ?_)<;>(intro h;try simp only [NM] at h)))
  refine AWP.loop (ι:=Bool) (fun k=>⟨78,[(3,.v (.one (.ptr 3 0))),(7,.v (oI 0)),(20,.v (.one (.ref 20 0 2))),(21,.v (oI 2)),(22,.v (oI (if k then 1 else 0)))],[(3,eGr g)],[(20,⟨1,[[.int .i64 a],[.int .i64 b]],[]⟩)]⟩) (fun k=>if k then 0 else 1) false ?_ fun k=>?_
  ·refine St.le_mk ?_ ?_ ?_<;>simp only [LE,EN,Nat.reduceEqDiff,reduceIte,Nat.reduceSub,eGr,eEdgs,Bool.false_eq_true,if_false]
  have g0:([[.int .i64 a],[.int .i64 b]]:List (List L)).getD 0 []=[.int .i64 a]:=rfl
  have g1:([[.int .i64 a],[.int .i64 b]]:List (List L)).getD 1 []=[.int .i64 b]:=rfl
  cases k with
  | false =>
   simp only [Bool.false_eq_true,if_false]
   repeat' (first|((first|with_reducible refine qV tyOk fun K hK=>?_|refine Q2 ?_|((with_reducible first|refine qS ?_ ?_|refine qT ?_ ?_|refine qU ?_ ?_)<;>(intro h;try simp only [NM] at h))|((with_reducible refine CallJ.is ?_);(first|refine CallJ.pure (ca) ?_|((apply CallJ.lentI);(focus (simp -dsimp (disch:=first|exact D|fail) only [go_sem,↓reduceIte,seval,eGr,eEdgs,eSch,g0,Option.getD_none];rfl));(focus (first|exact (ca)))))))<;>simp -dsimp (disch:=first|exact D|fail) only [go_sem,↓reduceIte,seval,eGr,eEdgs,eSch,g0,Option.getD_none])|((with_reducible refine hK _ ?_);clear hK K)|refine Q1 ?_|((with_reducible refine qW (T:=TT) (b:=?_) ?_ ?_);rotate_left;exact rfl)|((with_reducible refine yS ?_ ?_)<;>(intro h;try simp only [NM] at h)))
   refine ⟨true,by simp,?_⟩
   refine St.le_mk ?_ ?_ ?_<;>simp only [LE,EN,Nat.reduceEqDiff,reduceIte,Nat.reduceSub,eGr,eEdgs,if_true]
  | true =>
   simp only [if_true]
   repeat' (first|((first|with_reducible refine qV tyOk fun K hK=>?_|refine Q2 ?_|((with_reducible first|refine qS ?_ ?_|refine qT ?_ ?_|refine qU ?_ ?_)<;>(intro h;try simp only [NM] at h))|((with_reducible refine CallJ.is ?_);(first|refine CallJ.pure (cb) ?_|((apply CallJ.lentI);(focus (simp -dsimp (disch:=first|exact D|fail) only [go_sem,↓reduceIte,seval,eGr,eEdgs,eSch,g1,he,Option.getD_none];rfl));(focus (first|exact (cb)))))))<;>simp -dsimp (disch:=first|exact D|fail) only [go_sem,↓reduceIte,seval,eGr,eEdgs,eSch,g1,he,Option.getD_none])|((with_reducible refine hK _ ?_);clear hK K)|refine Q1 ?_|((with_reducible refine qW (T:=TT) (b:=?_) ?_ ?_);rotate_left;exact rfl)|((with_reducible refine yS ?_ ?_)<;>(intro h;try simp only [NM] at h)))
   simp -dsimp (disch:=first|exact D|fail) only [retQ,Tryz.results10,resVals,cellRV,resOf,St.rest,St.freeze,RT,go_sem,↓reduceIte,seval]
 | ok sb =>
 obtain ⟨O,hO,a0,a1,_⟩:=verSchema_ok ha
 obtain ⟨O',hO',b0,b1,_⟩:=verSchema_ok hb
 rw [hO] at hO'
 injection hO' with hO'
 subst hO'
 obtain ⟨hlt,_,_,lO⟩:=verSchemas_ok hO
 obtain ⟨x,rfl⟩:∃x:Nat,a=(x:Int):=⟨a.toNat,by omega⟩
 obtain ⟨y,rfl⟩:∃y:Nat,b=(y:Int):=⟨b.toNat,by omega⟩
 have hx:x≤g.edges.length:=by omega
 have hy:y≤g.edges.length:=by omega
 have ok:=grOk_of hO
 have hP:Falls (parN g) g.edges.length:=ok.par
 have spec:verPath g x y=.ok (pathL (parN g) x y):=by unfold verPath;rw [ha];simp only;rw [hb];simp only [Int.toNat_natCast]
 rw [ha] at ca
 rw [hb] at cb
 rw [spec]
 unfold sOut rE at ca cb
 unfold hOut rE
 simp only at ca cb ⊢
 have an:=ancestors_sat g x ok hx (by omega)
 obtain ⟨u,hu⟩:∃u,anc (parN g) x=u:=⟨_,rfl⟩
 have u0:0∈u:=by rw [←hu];exact anc_has0 hP hx
 have lu:u.length≤8:=by have:=anc_len (parN g) x;rw [hu] at this;omega
 have ule:∀v∈u,v≤x:=fun v hv=>anc_le (hu▸hv)
 obtain ⟨Dw,hD⟩:∃Dw,(climb (parN g) u y).1=Dw:=⟨_,rfl⟩
 obtain ⟨M,hM⟩:∃M,(climb (parN g) u y).2=M:=⟨_,rfl⟩
 have Min:M∈u:=by rw [←hM];exact climb_end hP u0 hy
 have lD:Dw.length≤8:=by have:=climb_len (P:=parN g) (u:=u) y;rw [hD] at this;omega
 have ud:u.Pairwise (· > ·):=by rw [←hu];exact anc_down x
 obtain ⟨Dn,hDn⟩:∃Dn,(Dw.map fun e=>(⟨e,false⟩:Hp))=Dn:=⟨_,rfl⟩
 have lDn:Dn.length=Dw.length:=by rw [←hDn,List.length_map]
 unfold pathL
 rw [hu,hD,hM]
 rw [hu] at an
 have lnu:(natI u).length=u.length:=natI_len u
 refine sS tyOk Tryz.func10 fun w0 m0 F0=>?_
 simp only [Tryz.ntmps10,envOf,Nat.reduceAdd]
 repeat' (first|((first|with_reducible refine qV tyOk fun K hK=>?_|refine Q2 ?_|((with_reducible first|refine qS ?_ ?_|refine qT ?_ ?_|refine qU ?_ ?_)<;>(intro h;try simp only [NM] at h)))<;>simp -dsimp (disch:=first|exact D|fail) only [go_sem,↓reduceIte,seval,eGr,eEdgs])|((with_reducible refine hK _ ?_);clear hK K)|refine Q1 ?_|((with_reducible refine qW (T:=TT) (b:=?_) ?_ ?_);rotate_left;exact rfl)|((with_reducible refine yS ?_ ?_)<;>(intro h;try simp only [NM] at h)))
 refine AWP.midB ⟨78,[(1,.v (oI x)),(2,.v (oI y)),(3,.v (.one (.ptr 3 0))),(7,.v (oI 0))],[(3,eGr g)],[]⟩ ?_ ?_
 ·refine AWP.loop (ι:={k:Nat // k≤2}) (fun k=>⟨78,[(1,.v (oI x)),(2,.v (oI y)),(3,.v (.one (.ptr 3 0))),(7,.v (oI 0)),(20,.v (.one (.ref 20 0 2))),(21,.v (oI 2)),(22,.v (oI k.1))],[(3,eGr g)],[(20,⟨1,[[.int .i64 x],[.int .i64 y]],[]⟩)]⟩) (fun k=>2 - k.1) ⟨0,by omega⟩ ?_ fun ⟨k,hk⟩=>?_
  ·refine St.le_mk ?_ ?_ ?_<;>simp only [LE,EN,Nat.reduceEqDiff,reduceIte,Nat.reduceSub,eGr,eEdgs,Int.natCast_zero]
  have g0:([[.int .i64 x],[.int .i64 y]]:List (List L)).getD 0 []=[.int .i64 x]:=rfl
  have g1:([[.int .i64 x],[.int .i64 y]]:List (List L)).getD 1 []=[.int .i64 y]:=rfl
  have c2:((2:Nat):Int)=2:=rfl
  simp only at hk ⊢
  rcases (show k=0∨k=1∨k=2 by omega) with rfl|rfl|rfl
  ·repeat' (first|((first|with_reducible refine qV tyOk fun K hK=>?_|refine Q2 ?_|((with_reducible first|refine qS ?_ ?_|refine qT ?_ ?_|refine qU ?_ ?_)<;>(intro h;try simp only [NM] at h))|((with_reducible refine CallJ.is ?_);(first|refine CallJ.pure (ca) ?_|((apply CallJ.lentI);(focus (simp -dsimp (disch:=first|exact D|fail) only [go_sem,↓reduceIte,seval,eGr,eEdgs,eSch,g0,Option.getD_none,Int.natCast_zero];rfl));(focus (first|exact (ca)))))))<;>simp -dsimp (disch:=first|exact D|fail) only [go_sem,↓reduceIte,seval,eGr,eEdgs,eSch,g0,Option.getD_none,Int.natCast_zero])|((with_reducible refine hK _ ?_);clear hK K)|refine Q1 ?_|((with_reducible refine qW (T:=TT) (b:=?_) ?_ ?_);rotate_left;exact rfl)|((with_reducible refine yS ?_ ?_)<;>(intro h;try simp only [NM] at h)))
   refine ⟨⟨1,by omega⟩,by simp only;omega,?_⟩
   refine St.le_mk ?_ ?_ ?_<;>simp only [LE,EN,Nat.reduceEqDiff,reduceIte,Nat.reduceSub,eGr,eEdgs,Int.natCast_one]
  ·repeat' (first|((first|with_reducible refine qV tyOk fun K hK=>?_|refine Q2 ?_|((with_reducible first|refine qS ?_ ?_|refine qT ?_ ?_|refine qU ?_ ?_)<;>(intro h;try simp only [NM] at h))|((with_reducible refine CallJ.is ?_);(first|refine CallJ.pure (cb) ?_|((apply CallJ.lentI);(focus (simp -dsimp (disch:=first|exact D|fail) only [go_sem,↓reduceIte,seval,eGr,eEdgs,eSch,g1,Option.getD_none,Int.natCast_one];rfl));(focus (first|exact (cb)))))))<;>simp -dsimp (disch:=first|exact D|fail) only [go_sem,↓reduceIte,seval,eGr,eEdgs,eSch,g1,Option.getD_none,Int.natCast_one])|((with_reducible refine hK _ ?_);clear hK K)|refine Q1 ?_|((with_reducible refine qW (T:=TT) (b:=?_) ?_ ?_);rotate_left;exact rfl)|((with_reducible refine yS ?_ ?_)<;>(intro h;try simp only [NM] at h)))
   refine ⟨⟨2,by omega⟩,by simp only;omega,?_⟩
   refine St.le_mk ?_ ?_ ?_<;>simp only [LE,EN,Nat.reduceEqDiff,reduceIte,Nat.reduceSub,eGr,eEdgs,c2]
  ·repeat' (first|((first|with_reducible refine qV tyOk fun K hK=>?_|refine Q2 ?_|((with_reducible first|refine qS ?_ ?_|refine qT ?_ ?_|refine qU ?_ ?_)<;>(intro h;try simp only [NM] at h)))<;>simp -dsimp (disch:=first|exact D|fail) only [go_sem,↓reduceIte,seval,c2])|((with_reducible refine hK _ ?_);clear hK K)|refine Q1 ?_|((with_reducible refine qW (T:=TT) (b:=?_) ?_ ?_);rotate_left;exact rfl)|((with_reducible refine yS ?_ ?_)<;>(intro h;try simp only [NM] at h)))
   refine Gq.done ⟨rfl,?_⟩
   refine St.le_mk ?_ ?_ ?_<;>simp only [LE,EN,Nat.reduceEqDiff,reduceIte,Nat.reduceSub,eGr,eEdgs]
 repeat' (first|((first|with_reducible refine qV tyOk fun K hK=>?_|refine Q2 ?_|((with_reducible first|refine qS ?_ ?_|refine qT ?_ ?_|refine qU ?_ ?_)<;>(intro h;try simp only [NM] at h))|((with_reducible refine CallJ.is ?_);(first|refine CallJ.pure (an) ?_|((apply CallJ.lentI);(focus (simp -dsimp (disch:=first|exact D|fail) only [go_sem,↓reduceIte,seval,eGr,eEdgs];rfl));(focus (first|exact (an)))))))<;>simp -dsimp (disch:=first|exact D|fail) only [go_sem,↓reduceIte,seval,eGr,eEdgs])|((with_reducible refine hK _ ?_);clear hK K)|refine Q1 ?_|((with_reducible refine qW (T:=TT) (b:=?_) ?_ ?_);rotate_left;exact rfl)|((with_reducible refine yS ?_ ?_)<;>(intro h;try simp only [NM] at h)))
 refine AWP.midB ⟨78,[(7,.v (oI 0)),(12,.v (.one (.sl 1 ((natI u).map eInt1)))),(13,.v (.one (.ref 13 0 0))),(14,.v (.one (.ref 14 0 Dw.length))),(15,.v (oI M))],[(3,eGr g)],[(13,⟨2,[],[]⟩),(14,⟨2,(Dw.map fun e=>(⟨e,false⟩:Hp)).map eHp,[]⟩)]⟩ ?_ ?_
 ·refine AWP.loop (ι:={p:Nat×List Nat // p.1≤y∧p.2.length+p.1≤y∧p.2++(climb (parN g) u p.1).1=Dw∧(climb (parN g) u p.1).2=M}) (fun p=>⟨78,[(3,.v (.one (.ptr 3 0))),(7,.v (oI 0)),(12,.v (.one (.sl 1 ((natI u).map eInt1)))),(13,.v (.one (.ref 13 0 0))),(14,.v (.one (.ref 14 0 p.1.2.length))),(15,.v (oI p.1.1))],[(3,eGr g)],[(13,⟨2,[],[]⟩),(14,⟨2,(p.1.2.map fun e=>(⟨e,false⟩:Hp)).map eHp,[]⟩)]⟩) (fun p=>p.1.1) ⟨(y,[]),Nat.le_refl _,by simp,hD,hM⟩ ?_ fun ⟨⟨m,d⟩,hm,hd,hmD,hmM⟩=>?_
  ·refine St.le_mk ?_ ?_ ?_<;>simp only [LE,EN,Nat.reduceEqDiff,reduceIte,Nat.reduceSub,eGr,eEdgs,List.length_nil,List.map_nil]
  simp only at hm hd hmD hmM ⊢
  have ct:=containsInt_sat (natI u) m (by omega)
  rw [elem_natI] at ct
  by_cases hin:m∈u
  ·rw [decide_eq_true hin] at ct
   rw [climb_in hin] at hmD hmM
   simp only [List.append_nil] at hmD hmM
   subst hmD hmM
   repeat' (first|((first|with_reducible refine qV tyOk fun K hK=>?_|refine Q2 ?_|((with_reducible first|refine qS ?_ ?_|refine qT ?_ ?_|refine qU ?_ ?_)<;>(intro h;try simp only [NM] at h))|((with_reducible refine CallJ.is ?_);(first|refine CallJ.pure (ct) ?_|((apply CallJ.lentI);(focus (simp -dsimp (disch:=first|exact D|fail) only [go_sem,↓reduceIte,seval];rfl));(focus (first|exact (ct)))))))<;>simp -dsimp (disch:=first|exact D|fail) only [go_sem,↓reduceIte,seval])|((with_reducible refine hK _ ?_);clear hK K)|refine Q1 ?_|((with_reducible refine qW (T:=TT) (b:=?_) ?_ ?_);rotate_left;exact rfl)|((with_reducible refine yS ?_ ?_)<;>(intro h;try simp only [NM] at h)))
   refine Gq.done ⟨rfl,?_⟩
   refine St.le_mk ?_ ?_ ?_<;>simp only [LE,EN,Nat.reduceEqDiff,reduceIte,Nat.reduceSub,eGr,eEdgs]
  ·rw [decide_eq_false hin] at ct
   have m0:0<m:=by
    rcases Nat.eq_zero_or_pos m with h0|h0
    ·exact absurd (h0▸u0) hin
    ·exact h0
   have hp:=ok.par m m0 (by omega)
   rw [climb_out hin m0 hp] at hmD hmM
   simp only at hmD hmM
   have ge:=getD_edge ok m0 (by omega)
   have w1:((m:Int) - 1).toNat=m - 1:=by omega
   have w2:(m:Int) - 1=((m - 1:Nat):Int):=by omega
   repeat' (first|((first|with_reducible refine qV tyOk fun K hK=>?_|refine Q2 ?_|((with_reducible first|refine qS ?_ ?_|refine qT ?_ ?_|refine qU ?_ ?_)<;>(intro h;try simp only [NM] at h))|((with_reducible refine CallJ.is ?_);(first|refine CallJ.pure (ct) ?_|((apply CallJ.lentI);(focus (simp -dsimp (disch:=first|exact D|fail) only [go_sem,↓reduceIte,seval,eGr,eEdgs,ge,w2,Int.toNat_natCast,Option.getD_none];rfl));(focus (first|exact (ct)))))))<;>simp -dsimp (disch:=first|exact D|fail) only [go_sem,↓reduceIte,seval,eGr,eEdgs,ge,w2,Int.toNat_natCast,Option.getD_none])|((with_reducible refine hK _ ?_);clear hK K)|refine Q1 ?_|((with_reducible refine qW (T:=TT) (b:=?_) ?_ ?_);rotate_left;exact rfl)|((with_reducible refine yS ?_ ?_)<;>(intro h;try simp only [NM] at h)))
   refine ⟨⟨(parN g m,d++[m - 1]),by simp only;omega,by simp;omega,by simpa using hmD,hmM⟩,by simp only;omega,?_⟩
   refine St.le_mk ?_ ?_ ?_<;>simp only [LE,EN,Nat.reduceEqDiff,reduceIte,Nat.reduceSub,eGr,eEdgs,eHp,List.map_append,List.map_cons,List.map_nil,List.length_append,List.length_cons,List.length_nil,Nat.zero_add]
 repeat' (first|((first|with_reducible refine qV tyOk fun K hK=>?_|refine Q2 ?_|((with_reducible first|refine qS ?_ ?_|refine qT ?_ ?_|refine qU ?_ ?_)<;>(intro h;try simp only [NM] at h)))<;>simp -dsimp (disch:=first|exact D|fail) only [go_sem,↓reduceIte,seval])|((with_reducible refine hK _ ?_);clear hK K)|refine Q1 ?_|((with_reducible refine qW (T:=TT) (b:=?_) ?_ ?_);rotate_left;exact rfl)|((with_reducible refine yS ?_ ?_)<;>(intro h;try simp only [NM] at h)))
 have tw:∀k,(∀j,∀q:j<k,∀r:j<u.length,u[j]≠M)→∀j,∀q:j<k,∀r:j<u.length,(u[j] != M)=true:=fun k h j q r=>by simpa using h j q r
 refine AWP.midB ⟨78,[(7,.v (oI 0)),(13,.v (.one (.ref 13 0 (u.takeWhile fun v=>v != M).length))),(14,.v (.one (.ref 14 0 Dw.length)))],[],[(13,⟨2,((u.takeWhile fun v=>v != M).map fun v=>(⟨v - 1,true⟩:Hp)).map eHp,[]⟩),(14,⟨2,(Dw.map fun e=>(⟨e,false⟩:Hp)).map eHp,[]⟩)]⟩ ?_ ?_
 ·refine AWP.loop (ι:={k:Nat // k≤u.length∧∀j,∀q:j<k,∀r:j<u.length,u[j]≠M}) (fun k=>⟨78,[(7,.v (oI 0)),(13,.v (.one (.ref 13 0 k.1))),(14,.v (.one (.ref 14 0 Dw.length))),(15,.v (oI M)),(57,.v (.one (.sl 1 ((natI u).map eInt1)))),(58,.v (oI u.length)),(59,.v (oI k.1))],[],[(13,⟨2,((u.take k.1).map fun v=>(⟨v - 1,true⟩:Hp)).map eHp,[]⟩),(14,⟨2,(Dw.map fun e=>(⟨e,false⟩:Hp)).map eHp,[]⟩)]⟩) (fun k=>u.length - k.1) ⟨0,Nat.zero_le _,fun j q=>by omega⟩ ?_ fun ⟨k,hk,hkj⟩=>?_
  ·refine St.le_mk ?_ ?_ ?_<;>simp only [LE,EN,Nat.reduceEqDiff,reduceIte,Nat.reduceSub,List.take_zero,List.map_nil,lnu]
  simp only at hk hkj ⊢
  rcases Nat.lt_or_ge k u.length with hc|hc
  ·obtain ⟨v,hv⟩:∃v,u[k]=v:=⟨_,rfl⟩
   have gv:((natI u).map eInt1).getD k []=[.int .i64 (v:Int)]:=by
    rw [getD_map_lt _ _ _ (by omega)]
    simp only [natI,List.getElem_map,hv]
    rfl
   have ltk:(u.take k).length=k:=by simp;omega
   have vle:v≤x:=ule v (hv▸List.getElem_mem hc)
   by_cases hvM:v=M
   ·subst hvM
    have e1:(u.takeWhile fun w=>w != v)=u.take k:=takeWhile_stop hc (fun j q=>tw k hkj j q (by omega)) (by rw [hv];simp)
    rw [e1,ltk]
    repeat' (first|((first|with_reducible refine qV tyOk fun K hK=>?_|refine Q2 ?_|((with_reducible first|refine qS ?_ ?_|refine qT ?_ ?_|refine qU ?_ ?_)<;>(intro h;try simp only [NM] at h)))<;>simp -dsimp (disch:=first|exact D|fail) only [go_sem,↓reduceIte,seval,gv,Option.getD_none])|((with_reducible refine hK _ ?_);clear hK K)|refine Q1 ?_|((with_reducible refine qW (T:=TT) (b:=?_) ?_ ?_);rotate_left;exact rfl)|((with_reducible refine yS ?_ ?_)<;>(intro h;try simp only [NM] at h)))
    refine Gq.done ⟨rfl,?_⟩
    refine St.le_mk ?_ ?_ ?_<;>simp only [LE,EN,Nat.reduceEqDiff,reduceIte,Nat.reduceSub]
   ·have hvM':¬ (v:Int)=(M:Int):=by omega
    have v0:0<v:=by
     rcases Nat.eq_zero_or_pos v with h0|h0
     ·exfalso
      obtain ⟨j,hj,hjM⟩:=List.mem_iff_getElem.1 Min
      rcases Nat.lt_or_ge j k with h1|h1
      ·exact hkj j h1 hj hjM
      ·rcases Nat.lt_or_ge k j with h2|h2
       ·have:=List.pairwise_iff_getElem.1 ud k j hc hj h2
        omega
       ·have:j=k:=by omega
        subst this
        exact hvM (hv▸hjM)
     ·exact h0
    have w2:(v:Int) - 1=((v - 1:Nat):Int):=by omega
    have es:((u.take (k+1)).map fun w=>(⟨w - 1,true⟩:Hp)).map eHp=((u.take k).map fun w=>(⟨w - 1,true⟩:Hp)).map eHp++[[.int .i64 ((v - 1:Nat):Int),.bool true]]:=by
     rw [List.take_succ_eq_append_getElem hc,List.map_append,List.map_append,hv]
     rfl
    repeat' (first|((first|with_reducible refine qV tyOk fun K hK=>?_|refine Q2 ?_|((with_reducible first|refine qS ?_ ?_|refine qT ?_ ?_|refine qU ?_ ?_)<;>(intro h;try simp only [NM] at h)))<;>simp -dsimp (disch:=first|exact D|fail) only [go_sem,↓reduceIte,seval,gv,hvM',w2,ltk,Option.getD_none])|((with_reducible refine hK _ ?_);clear hK K)|refine Q1 ?_|((with_reducible refine qW (T:=TT) (b:=?_) ?_ ?_);rotate_left;exact rfl)|((with_reducible refine yS ?_ ?_)<;>(intro h;try simp only [NM] at h)))
    refine ⟨⟨k+1,by omega,fun j q r=>by
     rcases Nat.lt_or_ge j k with h1|h1
     ·exact hkj j h1 r
     ·have:j=k:=by omega
      subst this
      rw [hv];exact hvM⟩,by simp only;omega,?_⟩
    refine St.le_mk ?_ ?_ ?_<;>simp only [LE,EN,Nat.reduceEqDiff,reduceIte,Nat.reduceSub,es]
  ·have e1:(u.takeWhile fun w=>w != M)=u:=takeWhile_all fun j q=>tw k hkj j (by omega) q
   rw [e1]
   have hk2:k=u.length:=by omega
   subst hk2
   rw [List.take_length]
   repeat' (first|((first|with_reducible refine qV tyOk fun K hK=>?_|refine Q2 ?_|((with_reducible first|refine qS ?_ ?_|refine qT ?_ ?_|refine qU ?_ ?_)<;>(intro h;try simp only [NM] at h)))<;>simp -dsimp (disch:=first|exact D|fail) only [go_sem,↓reduceIte,seval])|((with_reducible refine hK _ ?_);clear hK K)|refine Q1 ?_|((with_reducible refine qW (T:=TT) (b:=?_) ?_ ?_);rotate_left;exact rfl)|((with_reducible refine yS ?_ ?_)<;>(intro h;try simp only [NM] at h)))
   refine Gq.done ⟨rfl,?_⟩
   refine St.le_mk ?_ ?_ ?_<;>simp only [LE,EN,Nat.reduceEqDiff,reduceIte,Nat.reduceSub]
 have rv:=reverseHops_satM Dn (by omega)
 have e1:(Dw.reverse.map fun e=>(⟨e,false⟩:Hp))=Dn.reverse:=by rw [←hDn,List.map_reverse]
 have lW:(u.takeWhile fun v=>v != M).length≤u.length:=(List.takeWhile_sublist _).length_le
 obtain ⟨W,hW⟩:∃W,(u.takeWhile fun v=>v != M).map (fun v=>(⟨v - 1,true⟩:Hp))=W:=⟨_,rfl⟩
 have lW2:W.length=(u.takeWhile fun v=>v != M).length:=by rw [←hW,List.length_map]
 rw [e1,hDn,←lDn,hW,←lW2]
 have tk:List.take Dn.length (Dn.reverse.map eHp)=Dn.reverse.map eHp:=List.take_of_length_le (by simp)
 repeat' (first|((first|with_reducible refine qV tyOk fun K hK=>?_|refine Q2 ?_|((with_reducible first|refine qS ?_ ?_|refine qT ?_ ?_|refine qU ?_ ?_)<;>(intro h;try simp only [NM] at h))|((with_reducible refine CallJ.is ?_);refine CallJ.io [] [(1000,14)] [] [(1000,14)] [] [] [] [14,14] (rv) rfl ⟨rfl,rfl,rfl,rfl⟩ ?_ ?_ ?_))<;>simp -dsimp (disch:=first|exact D|fail) only [go_sem,↓reduceIte,seval,noOwn_eHp,tk,List.length_reverse,dropL_nil,dropL_nil',dropL_cons])|((with_reducible refine hK _ ?_);clear hK K)|refine Q1 ?_|((with_reducible refine qW (T:=TT) (b:=?_) ?_ ?_);rotate_left;exact rfl)|((with_reducible refine yS ?_ ?_)<;>(intro h;try simp only [NM] at h)))
 simp -dsimp (disch:=first|exact D|fail) only [retQ,Tryz.results10,resVals,cellRV,resOf,St.rest,St.freeze,RT,go_sem,↓reduceIte,seval]
 rw [if_pos (by simp),←List.map_append,frz_eHp,List.take_of_length_le (by simp)]
set_option maxHeartbeats 8000000 in
theorem graphsWork_sat:Sat Tryz.prog 9 [] (.v (oB true)):=by
 have c1:=path_sat gr0 1 2 gr0_fits
 have c2:=verValidate_sat gr0 gr0_fits
 rw [path0] at c1
 rw [ver0] at c2
 unfold hOut rE eHps at c1
 unfold rE at c2
 simp only [gr0,zSch,zEdg,eGr,eEdgs,eEdg,eScr,List.map_cons,List.map_nil,eHp,Int.natCast_zero,Int.natCast_one] at c1 c2
 have c3:=equalHops_sat [⟨0,true⟩,⟨1,false⟩] [⟨0,true⟩,⟨1,false⟩] (by simp) (by simp)
 rw [decide_eq_true rfl] at c3
 unfold eHps at c3
 simp only [List.map_cons,List.map_nil,eHp,Int.natCast_zero,Int.natCast_one] at c3
 refine sS tyOk Tryz.func9 fun w0 m0 F0=>?_
 simp only [Tryz.ntmps9,envOf,Nat.reduceAdd]
 repeat' (first|((first|((fail_if_success (refine AWP.isRegion 2 ?_));(with_reducible refine qV tyOk fun K hK=>?_))|refine Q2 ?_|((with_reducible first|refine qS ?_ ?_|refine qT ?_ ?_|refine qU ?_ ?_)<;>(intro h;try simp only [NM] at h))|with_reducible refine yD tyOk mixed 6 (by kernel_rfl) fun K hK=>?_)<;>simp -dsimp (disch:=first|exact D|fail) only [go_sem,↓reduceIte,seval])|((with_reducible refine hK _ ?_);clear hK K)|refine Q1 ?_|((with_reducible refine qW (T:=TT) (b:=?_) ?_ ?_);rotate_left;exact rfl)|((with_reducible refine yS ?_ ?_)<;>(intro h;try simp only [NM] at h)))
 refine AWP.frz [1] [] ?_
 simp -dsimp (disch:=first|exact D|fail) only [go_sem,↓reduceIte,seval,RT,St.rest,St.freeze]
 repeat' (first|((first|with_reducible refine qV tyOk fun K hK=>?_|refine Q2 ?_|((with_reducible first|refine qS ?_ ?_|refine qT ?_ ?_|refine qU ?_ ?_)<;>(intro h;try simp only [NM] at h))|with_reducible refine yD tyOk mixed 6 (by kernel_rfl) fun K hK=>?_|((with_reducible refine CallJ.is ?_);(first|refine CallJ.pure (c1) ?_|refine CallJ.pure (c2) ?_|refine CallJ.pure (c3) ?_|((apply CallJ.lentI);(focus (simp -dsimp (disch:=first|exact D|fail) only [go_sem,↓reduceIte,seval];rfl));(focus (first|exact (c1)|exact (c2)|exact (c3))))))|((with_reducible refine CallH.is ?_);(first|refine CallH.intro (c1) ?_|refine CallH.intro (c2) ?_|refine CallH.intro (c3) ?_)))<;>simp -dsimp (disch:=first|exact D|fail) only [go_sem,↓reduceIte,seval])|((with_reducible refine hK _ ?_);clear hK K)|refine Q1 ?_|((with_reducible refine qW (T:=TT) (b:=?_) ?_ ?_);rotate_left;exact rfl)|((with_reducible refine yS ?_ ?_)<;>(intro h;try simp only [NM] at h)))
 simp -dsimp (disch:=first|exact D|fail) only [retQ,Tryz.results9,resVals,cellRV,resOf,St.rest,St.freeze,RT,go_sem,↓reduceIte,seval]
set_option maxHeartbeats 16000000 in
theorem versionsExtend_sat (g:Gr) (p:Int) (steps:List Stp) (hg:g.Fits) (hl:steps.length≤140737488355328) (hs:∀st∈steps,st.Fits):Sat Tryz.prog 4 [.agg (eGr g),oI p,.one (eScr steps)] (.v (oB true)):=by
 have c0:=graphsWork_sat
 have c1:=verSchemas_sat g hg
 unfold eSchs at c1
 unfold eScr
 cases hR:verSchemas g with
 | error e =>
  have he:=verSchemas_ne hR
  rw [hR] at c1
  unfold lOut rE at c1
  simp only at c1
  refine sS tyOk Tryz.func4 fun w0 m0 F0=>?_
  simp only [Tryz.ntmps4,envOf,Nat.reduceAdd]
  repeat' (first|((first|with_reducible refine qV tyOk fun K hK=>?_|refine Q2 ?_|((with_reducible first|refine qS ?_ ?_|refine qT ?_ ?_|refine qU ?_ ?_)<;>(intro h;try simp only [NM] at h))|((with_reducible refine CallJ.is ?_);(first|refine CallJ.pure (c0) ?_|refine CallJ.pure (c1) ?_|((apply CallJ.lentI);(focus (simp -dsimp (disch:=first|exact D|fail) only [go_sem,↓reduceIte,seval,eGr,eEdgs,he];rfl));(focus (first|exact (c0)|exact (c1)))))))<;>simp -dsimp (disch:=first|exact D|fail) only [go_sem,↓reduceIte,seval,eGr,eEdgs,he])|((with_reducible refine hK _ ?_);clear hK K)|refine Q1 ?_|((with_reducible refine qW (T:=TT) (b:=?_) ?_ ?_);rotate_left;exact rfl)|((with_reducible refine yS ?_ ?_)<;>(intro h;try simp only [NM] at h)))
  simp -dsimp (disch:=first|exact D|fail) only [retQ,Tryz.results4,resVals,cellRV,resOf,St.rest,St.freeze,RT,go_sem,↓reduceIte,seval]
 | ok O =>
  obtain ⟨l8,_,Oz,lO⟩:=verSchemas_ok hR
  rw [hR] at c1
  unfold lOut rE at c1
  simp only at c1
  have cl:=cloneEdgs_own g.edges (by omega)
  unfold eEdgs at cl
  have pk:=pick_sat p O.length (by omega) (by omega)
  obtain ⟨q,hq⟩:∃q,modR p O.length=q:=⟨_,rfl⟩
  rw [hq] at pk
  have fx:(gExt g q steps).Fits:=⟨hg.base,by show (g.edges++_).length≤_;rw [List.length_append,List.length_singleton];omega,fun e he=>by
   rcases List.mem_append.1 (show e∈g.edges++[⟨q,steps⟩] from he) with he|he
   ·exact hg.edge e he
   ·rw [List.mem_singleton.1 he];exact ⟨hl,hs⟩⟩
  have c2:=verSchemas_sat (gExt g q steps) fx
  have ex:eGr (gExt g q steps)=[eTbls g.base.tables,eFKs g.base.fks,eCons g.base.cons,.sl 2 (g.edges.map eEdg++[[.int .i64 q,.sl 24 (steps.map eStp)]])]:=by
   unfold eGr eEdgs gExt
   simp only [List.map_append,List.map_cons,List.map_nil]
   rfl
  rw [ex] at c2
  unfold eSchs at c2
  refine sS tyOk Tryz.func4 fun w0 m0 F0=>?_
  simp only [Tryz.ntmps4,envOf,Nat.reduceAdd]
  repeat' (first|((first|with_reducible refine qV tyOk fun K hK=>?_|refine Q2 ?_|((with_reducible first|refine qS ?_ ?_|refine qT ?_ ?_|refine qU ?_ ?_)<;>(intro h;try simp only [NM] at h))|((with_reducible refine CallJ.is ?_);(first|refine CallJ.pure (c0) ?_|refine CallJ.pure (c1) ?_|((apply CallJ.lentI);(focus (simp -dsimp (disch:=first|exact D|fail) only [go_sem,↓reduceIte,seval,eGr,eEdgs];rfl));(focus (first|exact (c0)|exact (c1)))))))<;>simp -dsimp (disch:=first|exact D|fail) only [go_sem,↓reduceIte,seval,eGr,eEdgs])|((with_reducible refine hK _ ?_);clear hK K)|refine Q1 ?_|((with_reducible refine qW (T:=TT) (b:=?_) ?_ ?_);rotate_left;exact rfl)|((with_reducible refine yS ?_ ?_)<;>(intro h;try simp only [NM] at h)))
  refine AWP.mid ⟨62,[(6,.v (oB false)),(7,.v (.one (.sl 3 (O.map eSch)))),(9,.v (.one (.ptr 9 0)))],[(9,[eTbls g.base.tables,eFKs g.base.fks,eCons g.base.cons,.ref 36 0 (g.edges.length+1)])],[(36,⟨2,g.edges.map eEdg++[[.int .i64 q,.sl 24 (steps.map eStp)]],[]⟩)]⟩ ?_ ?_
  ·refine dY tyOk mixed [(0,4),(5,3),(9,1)] (.cons 4 [] [(0,2),(5,3),(9,1)] (.cons 8 [(10,1)] [(0,2),(9,1)] (.cons 11 [] [(0,2)] (.cons 12 [(13,1)] [(0,2)] (.cons 14 [] [(0,2),(13,1)] (.cons 15 [] [] .leaf .none) .none) (.cons 14 [] [(0,2)] (.cons 12 [(13,1)] [(0,2)] (.cons 15 [] [] .leaf .none) .none) .none)) (.cons 14 [] [(0,2),(9,2)] (.cons 11 [] [(0,2)] (.cons 12 [(13,1)] [(0,2)] (.cons 15 [] [] .leaf .none) .none) .none) .none)) (.cons 14 [] [(0,2),(5,3),(9,1)] (.cons 8 [(10,1)] [(0,2),(9,1)] (.cons 11 [] [(0,2)] (.cons 12 [(13,1)] [(0,2)] (.cons 15 [] [] .leaf .none) .none) .none) .none) .none)) (.cons 14 [] [(0,4),(5,3),(9,1)] (.cons 4 [] [(0,2),(5,3),(9,1)] (.cons 8 [(10,1)] [(0,2),(9,1)] (.cons 11 [] [(0,2)] (.cons 12 [(13,1)] [(0,2)] (.cons 15 [] [] .leaf .none) .none) .none) .none) .none) .none)) [4,8,11,12,14,15] 8 fun K hK=>?_
   simp only [segt_leaf,segt_none,segt_cons,segs,List.drop_succ_cons,List.drop_zero,List.take_succ_cons,List.take_zero,List.getElem?_cons_zero,List.getElem?_cons_succ,List.cons_append,List.nil_append,List.append_nil] at hK ⊢
   simp -dsimp (disch:=first|exact D|fail) only [go_sem,↓reduceIte,seval,eEdg,eEdgs,eGr,Option.getD_none]
   repeat' (first|((first|((fail_if_success (refine AWP.isRegion 7 ?_));(with_reducible refine qV tyOk fun K hK=>?_))|refine Q2 ?_|((with_reducible first|refine qS ?_ ?_|refine qT ?_ ?_|refine qU ?_ ?_)<;>(intro h;try simp only [NM] at h))|((with_reducible refine CallJ.is ?_);refine CallJ.io [] [] [] [(2,28)] [] [28] [] [28] (cl) rfl ⟨rfl,rfl,rfl,rfl⟩ ?_ ?_ ?_)|((with_reducible refine CallJ.is ?_);(first|refine CallJ.pure (pk) ?_|((apply CallJ.lentI);(focus (simp -dsimp (disch:=first|exact D|fail) only [go_sem,↓reduceIte,seval,eEdg,eEdgs,eGr,Option.getD_none,dropL_nil,dropL_nil',dropL_cons];rfl));(focus (first|exact (pk))))))|(with_reducible first|refine VCt.some fun K hK=>?_|refine VCt.step fun K hK=>?_))<;>simp -dsimp (disch:=first|exact D|fail) only [go_sem,↓reduceIte,seval,eEdg,eEdgs,eGr,Option.getD_none,dropL_nil,dropL_nil',dropL_cons])|((with_reducible refine hK _ ?_);clear hK K)|(with_reducible refine VCt.intro fun K0 hK0=>?_)|((with_reducible refine VCt.fin ?_);(refine hK0 _ ?_);clear hK0 K0)|(with_reducible first|refine VCy.quiet ?_|refine VCt.none ?_)|((with_reducible refine VCy.keep ?_ ?_);focus ((simp -dsimp (disch:=first|exact D|fail) only [go_sem,↓reduceIte,seval,Stable_cons,Stable_nil,sameA_some,sameA_none,eEdg,eEdgs,eGr,Option.getD_none,dropL_nil,dropL_nil',dropL_cons]);first|done|exact E|fail))|((with_reducible refine VCt.fork (fun K hK=>?_) ?_);(focus (simp -dsimp (disch:=first|exact D|fail) only [go_sem,↓reduceIte,seval,eEdg,eEdgs,eGr,Option.getD_none,dropL_nil,dropL_nil',dropL_cons])))|refine Q1 ?_|((with_reducible refine qW (T:=TT) (b:=?_) ?_ ?_);rotate_left;exact rfl)|((with_reducible refine yS ?_ ?_)<;>(intro h;try simp only [NM] at h)))
   all_goals refine Gq.done ⟨rfl,?_⟩
   all_goals refine St.le_mk ?_ ?_ ?_<;>simp only [LE,EN,Nat.reduceEqDiff,reduceIte,Nat.reduceSub]
  have fe:(g.edges.map eEdg++[[L.int .i64 q,L.sl 24 (steps.map eStp)]]).map (fun x:List L=>x.map (L.frzN 4))=g.edges.map eEdg++[[L.int .i64 q,L.sl 24 (steps.map eStp)]]:=by
   rw [List.map_append,frz_map (e:=eEdg) (fun _=>rfl)]
   rfl
  refine AWP.frz [9] [] ?_
  simp -dsimp (disch:=first|exact D|fail) only [go_sem,↓reduceIte,seval,RT,St.rest,St.freeze,fe]
  cases hM:verSchemas (gExt g q steps) with
  | error e =>
   have he:=verSchemas_ne hM
   rw [hM] at c2
   unfold lOut rE at c2
   simp only at c2
   repeat' (first|((first|with_reducible refine qV tyOk fun K hK=>?_|refine Q2 ?_|((with_reducible first|refine qS ?_ ?_|refine qT ?_ ?_|refine qU ?_ ?_)<;>(intro h;try simp only [NM] at h))|((with_reducible refine CallJ.is ?_);(first|refine CallJ.pure (c2) ?_|((apply CallJ.lentI);(focus (simp -dsimp (disch:=first|exact D|fail) only [go_sem,↓reduceIte,seval,he];rfl));(focus (first|exact (c2)))))))<;>simp -dsimp (disch:=first|exact D|fail) only [go_sem,↓reduceIte,seval,he])|((with_reducible refine hK _ ?_);clear hK K)|refine Q1 ?_|((with_reducible refine qW (T:=TT) (b:=?_) ?_ ?_);rotate_left;exact rfl)|((with_reducible refine yS ?_ ?_)<;>(intro h;try simp only [NM] at h)))
   simp -dsimp (disch:=first|exact D|fail) only [retQ,Tryz.results4,resVals,cellRV,resOf,St.rest,St.freeze,RT,go_sem,↓reduceIte,seval]
  | ok M =>
   obtain ⟨t,hMt⟩:=verSchemas_ext hR hM
   rw [hM] at c2
   unfold lOut rE at c2
   simp only at c2
   have lM:M.length=O.length+1:=by rw [hMt,List.length_append,List.length_singleton]
   have tM:List.take O.length (M.map eSch)=O.map eSch:=by rw [hMt,List.map_append];exact List.take_left' (by simp)
   have fz:∀s∈O,s.Fits:=fun s hs=>(small_of (Oz s hs)).fits
   have ef:=equalFuncSchs_sat O O (by omega) (by omega) fz fz
   rw [decide_eq_true rfl] at ef
   unfold eSchs at ef
   repeat' (first|((first|with_reducible refine qV tyOk fun K hK=>?_|refine Q2 ?_|((with_reducible first|refine qS ?_ ?_|refine qT ?_ ?_|refine qU ?_ ?_)<;>(intro h;try simp only [NM] at h))|((with_reducible refine CallJ.is ?_);(first|refine CallJ.pure (c2) ?_|refine CallJ.pure (ef) ?_|((apply CallJ.lentI);(focus (simp -dsimp (disch:=first|exact D|fail) only [go_sem,↓reduceIte,seval,lM,tM];rfl));(focus (first|exact (c2)|exact (ef)))))))<;>simp -dsimp (disch:=first|exact D|fail) only [go_sem,↓reduceIte,seval,lM,tM])|((with_reducible refine hK _ ?_);clear hK K)|refine Q1 ?_|((with_reducible refine qW (T:=TT) (b:=?_) ?_ ?_);rotate_left;exact rfl)|((with_reducible refine yS ?_ ?_)<;>(intro h;try simp only [NM] at h)))
   simp -dsimp (disch:=first|exact D|fail) only [retQ,Tryz.results4,resVals,cellRV,resOf,St.rest,St.freeze,RT,go_sem,↓reduceIte,seval]
end Go.Bw
