/-
  WHAT IS PROVED HERE, of this translation: equalFKs2_sat, equalFuncFK_sat, indexFuncCon_sat, deleteFuncFKs_satM, dropFK_okO, dropFK_satF, frz3c, frz3i, join2_sat, join_err.
  A theorem that ends in sat says what the function it names returns, whatever the state it is called in; the bounds on its arguments stand ahead of it.
-/
import Derived.Test.YtjjnchbfjbjemaaGreatVe
import Derived.Test.YtjjnchbfjbjemaaGreatVf
set_option linter.unusedSimpArgs false
set_option linter.unusedVariables false
namespace Go.Bw
open Go.Proofs
attribute [local go_sem ↓] VOps_nil VOps_cons VOp_callJ VVal_callH VOps_guard GOn_tt GOn_ff GOn_tf GOn_ft GOn_not GOn_none HOn_none HOn_tt HOn_ff HOn_tf HOn_ft HOn_not VHead_nil VHead_cons VHead_guard VVal_move VVal_assign VVal_pickE pickK_true pickK_false VVal_not VVal_neg negK_int VVal_load loadK_fz loadK_ptr loadK_eptr VVal_fieldAddr VVal_field VVal_indexAddr idxK_sl idxK_ref VVal_index indexK_str VVal_extract VVal_binOp binK_one binK_agg VVal_build VVal_buildSlice VVal_makeFunc VVal_slice sliceK_str sliceK_sl sliceK_nil sliceK_ref VVal_slice3 VVal_nilCheck VVal_convert convKk_int convKk_str VVal_len VVal_max VVal_min VOp_assign assignK_int assignK_bool assignK_str assignK_clo assignK_sl assignK_nil assignK_ref assignK_agg assignK_fz assignK_ptr assignK_eptr assignK_any VOp_box VOp_alloc VOp_store storeK_ptr storeK_eptr VOp_buildSlice VOp_append appK_rr appK_rs appK_rn appK_ri appK_nr appK_ns appK_nn appK_ni appStd_eq VOp_copy copyK_ref VOp_clear clearK_ref VOp_cap VOp_eqNil VOp_move VOp_pick VOp_not VOp_neg VOp_load VOp_fieldAddr VOp_field VOp_indexAddr VOp_index VOp_extract VOp_binTmp VOp_binInt VOp_binStr VOp_binPtr VOp_build VOp_makeFunc VOp_slice VOp_nilCheck VOp_convert VOp_len VOp_max VOp_min mO_some mT_some pk_some pk_none look_cons del_cons
attribute [local go_sem] guardB gOf int_bne beq_true beq_false Bool.not_not gSlot pickK_true pickK_false negK_int loadK_fz loadK_ptr loadK_eptr idxK_sl idxK_ref indexK_str binK_one binK_agg sliceK_str sliceK_sl sliceK_nil sliceK_ref convKk_int convKk_str maxL minL assignK_int assignK_bool assignK_str assignK_clo assignK_sl assignK_nil assignK_ref assignK_agg assignK_fz assignK_ptr assignK_eptr assignK_any nilRow_eq takeRow_eq appended_eq storeK_ptr storeK_eptr store_mk appIn_eq appMk_eq marked_eq ovOut_nil ovOut_cons ovIn_nil ovIn_cons padRow_eq ysC capK_nil capK_ref ioSt_mk outB_nil outR_nil outB outR inB_nil inB_cons inR_nil inR_cons L.kl L.kl0 L.ids L.ids0 Option.getD_some evalO constA mO_some mT_some put_mk putO_some putO_none okD_some okD_none pk_some pk_none look_nil del_nil sput noBox_mk noRow_mk newBox_eq newRow0_eq St.killRow RowC.kill rowMap_mk rowOf ovAll ovAdd ovDel ovGet ovShift dstOf ysOf overlay_nil overlay_nil' overlay A.map V.map L.noPtr L.noPtr0 L.noRow L.noRow0 L.peek L.norm L.flat clos_int clos_bool clos_str clos_sl clos_nil clos_any clos_fz L.clos L.isFz L.kd moveL fieldOff eqCells eqCell eqOp oneOf boolOf intOfA tupOf vOf aggOf isPtrLike isSlice lenKind lenL nL elemTI loadV asV binL intBin intDivL shrL boolBin strBin strAdd ptrNil boundN partCells fillL placesOf setL chunks repL capsOf capL callOf argsOf frzV_int frzV_bool frzV_str frzV_sl frzV_nil frzV_fz frzV_any frzV_own frzV_clo frzV_ref frzV_eptr frzV_ptr frzRow_nil frzRow_ov frzRs_nil frzRs_cons frzCs_nil frzCs_cons frzO_some frzO_none frzN_int frzN_bool frzN_str frzN_sl frzN_nil frzN_any frzN_own List.map_cons List.map_nil List.cons_append List.nil_append List.append_nil List.length_cons List.length_nil List.length_map List.length_append List.headD_cons List.tail_cons List.getElem?_cons_zero List.getElem?_cons_succ List.drop_zero List.drop_succ_cons List.drop_nil List.take_succ_cons List.take_zero List.take_nil List.take_length List.filter_cons List.filter_nil List.elem_cons List.elem_nil List.all_cons List.all_nil Option.bind_some Option.map_some Option.some.injEq bne_self_eq_false beq_self_eq_true if_true if_false Bool.false_eq_true true_and and_true and_self Nat.zero_add Nat.add_zero Nat.zero_le Int.toNat_natCast Int.toNat_zero Option.isSome_some List.getElem?_toArray decide_true decide_false ge_iff_le gt_iff_lt Bool.not_true Bool.not_false Nat.le_refl Bool.and_true Bool.true_and Bool.and_false Bool.false_and eVal eRow eRow1 eRows eInt1 eInts eCol eCols eTbl eTbls eFK eFKs eCon eCons eSch eRel eInst eChg eChgs szOf getD_map_lt wrap_nat wrap_in List.take_of_length_le frz_eVal frz_eRow1 frz_eInt1 frz_eCol frz_eTbl frz_eFK frz_eCon frz_eRel frz_eChg noOwn_nil noOwn_cons noOwn_append L.isOwn noOwn_eVal noOwn_eRow1 noOwn_eInt1 noOwn_eCol noOwn_eTbl noOwn_eFK noOwn_eCon noOwn_eRel noOwn_eChg convK_2 convK_3 convK_5 convK_12 convK_21 convK_32 convK_95 convK_119 convK_122 convK_152 convK_169 TT_2 TT_3 TT_4 TT_5 TT_9 TT_12 TT_13 TT_21 TT_22 TT_23 TT_24 TT_25 TT_26 TT_27 TT_28 TT_29 TT_31 TT_32 TT_36 TT_37 TT_42 TT_43 TT_44 TT_48 TT_49 TT_56 TT_61 TT_72 TT_73 TT_74 TT_85 TT_86 TT_89 TT_90 TT_91 TT_92 TT_95 TT_98 TT_113 TT_114 TT_116 TT_117 TT_119 TT_122 TT_145 TT_152 TT_169 boolTy_4 eqK_37 eqK_90 eqK_92 eqK_114
attribute [local congr] VOps.congr VHead.congr VOp.congr VVal.congr pk.congr assignK.congr appK.congr appStd.congr copyK.congr clearK.congr storeK.congr loadK.congr idxK.congr sliceK.congr indexK.congr binK.congr convKk.congr
theorem equalFKs2_sat (a b:FK) (hl:a.cols.length≤140737488355328):Sat Tryz.prog 38 [.agg (eFK a),.agg (eFK b)] (.v (oB (decide (a=b)))):=by
 rw [←fkEq_eq]
 exact equalFKs_sat a b hl
set_option maxHeartbeats 8000000 in
theorem equalFuncFK_sat (a b : List FK) (h1 : a.length ≤ 140737488355328) (h2 : b.length ≤ 140737488355328) (h3 : ∀ t ∈ a, t.cols.length ≤ 140737488355328) :
    Sat Tryz.prog 37 [.one (eFKs a), .one (eFKs b), .one (.clo 38 [])] (.v (oB (decide (a = b)))) := by
  refine sS tyOk Tryz.func37 fun w0 m0 F0 => ?_
  simp only [Tryz.ntmps37, envOf, Nat.reduceAdd]
  repeat' (first | ((with_reducible refine qV tyOk fun K hK => ?_) <;> simp -dsimp (disch := first | exact D | fail) only [go_sem, ↓reduceIte, seval]) | ((with_reducible refine hK _ ?_); clear hK K) | refine Q1 ?_ | ((with_reducible refine qW (T := TT) (b := ?_) ?_ ?_); rotate_left; exact rfl) | ((with_reducible refine yS ?_ ?_) <;> (intro h; try simp only [NM] at h)) | fail)
  rotate_left
  · simp -dsimp (disch := first | exact D | fail) only [retQ, Tryz.results37, resVals, cellRV, resOf, St.rest, St.freeze, RT, go_sem, ↓reduceIte, seval]
    have hn : ¬ a = b := fun e => by rw [e] at h; exact h rfl
    simp [hn]
  have hl : a.length = b.length := by omega
  refine AWP.loop (ι := {k : Nat // k ≤ a.length ∧ a.take k = b.take k}) (fun k => ⟨32, [(1, .v (.one (eFKs b))), (2, .v (.one (.clo 38 []))), (15, .v (.one (eFKs a))), (16, .v (oI a.length)), (17, .v (oI k.1))], [], []⟩) (fun k => a.length - k.1) ⟨0, Nat.zero_le _, rfl⟩ ?_ fun ⟨k, hkl, hi⟩ => ?_
  · refine St.le_mk ?_ ?_ ?_ <;> simp only [LE, EN, Nat.reduceEqDiff, reduceIte, Nat.reduceSub]
  rcases Nat.lt_or_ge k a.length with hc | hc
  · have hb : k < b.length := by omega
    repeat' (first | ((first | with_reducible refine qV tyOk fun K hK => ?_ | ((with_reducible refine CallJ.is ?_); (refine CallJ.pure (equalFKs2_sat a[k] b[k] (h3 _ (List.getElem_mem hc))) ?_))) <;> simp -dsimp (disch := first | exact D | fail) only [go_sem, ↓reduceIte, seval]) | ((with_reducible refine hK _ ?_); clear hK K) | refine Q1 ?_ | ((with_reducible refine qW (T := TT) (b := ?_) ?_ ?_); rotate_left; exact rfl) | ((with_reducible refine yS ?_ ?_) <;> (intro h; try simp only [NM] at h)) | fail)
    all_goals first
      | (refine ⟨⟨k + 1, by omega, take_eq_succ hc hb hi ‹_›⟩, by simp only; omega, ?_⟩
         refine St.le_mk ?_ ?_ ?_ <;> simp only [LE, EN, Nat.reduceEqDiff, reduceIte, Nat.reduceSub]
         done)
      | (have hn : ¬ a = b := fun e => ‹¬ _› (get_of_eq hc hb e)
         simp -dsimp (disch := first | exact D | fail) only [retQ, Tryz.results37, resVals, cellRV, resOf, St.rest, St.freeze, RT, go_sem, ↓reduceIte, seval]
         simp [hn])
  · have hk : a = b := by
      rw [List.take_of_length_le (by omega), List.take_of_length_le (by omega)] at hi
      exact hi
    repeat' (first | ((with_reducible refine qV tyOk fun K hK => ?_) <;> simp -dsimp (disch := first | exact D | fail) only [go_sem, ↓reduceIte, seval]) | ((with_reducible refine hK _ ?_); clear hK K) | refine Q1 ?_ | ((with_reducible refine qW (T := TT) (b := ?_) ?_ ?_); rotate_left; exact rfl) | fail)
    simp -dsimp (disch := first | exact D | fail) only [retQ, Tryz.results37, resVals, cellRV, resOf, St.rest, St.freeze, RT, go_sem, ↓reduceIte, seval]
    simp [hk]

set_option maxHeartbeats 4000000 in
theorem indexFuncCon_sat (l : List Con) (f : Nat) (cs : List L) (p : Con → Bool) (hlen : l.length ≤ 140737488355328) (hp : ∀ t ∈ l, Sat Tryz.prog f (.agg (eCon t) :: cs.map .one) (.v (oB (p t)))) :
    Sat Tryz.prog 151 [.one (eCons l), .one (.clo f cs)] (.v (oI (idx p l 0))) := by
  refine sS tyOk Tryz.func151 fun w0 m0 F0 => ?_
  simp only [Tryz.ntmps151, envOf, Nat.reduceAdd]
  repeat' (first | ((with_reducible refine qV tyOk fun K hK => ?_) <;> simp -dsimp (disch := first | exact D | fail) only [go_sem, ↓reduceIte, seval]) | ((with_reducible refine hK _ ?_); clear hK K) | refine Q1 ?_ | fail)
  refine AWP.loop (ι := {k : Nat // k ≤ l.length ∧ idx p (l.drop k) k = idx p l 0}) (fun k => ⟨19, [(0, .v (.one (eCons l))), (1, .v (.one (.clo f cs))), (7, .v (oI l.length)), (8, .v (oI k.1))], [], []⟩) (fun k => l.length - k.1) ⟨0, Nat.zero_le _, rfl⟩ ?_ fun ⟨k, hkl, hi⟩ => ?_
  · refine St.le_mk ?_ ?_ ?_ <;> simp only [LE, EN, Nat.reduceEqDiff, reduceIte, Nat.reduceSub]
  repeat' (first | ((first | with_reducible refine qV tyOk fun K hK => ?_ | ((with_reducible refine CallJ.is ?_); (refine CallJ.pure (hp _ (List.getElem_mem (by omega))) ?_))) <;> simp -dsimp (disch := first | exact D | fail) only [go_sem, ↓reduceIte, seval]) | ((with_reducible refine hK _ ?_); clear hK K) | refine Q1 ?_ | ((with_reducible refine qW (T := TT) (b := ?_) ?_ ?_); rotate_left; exact rfl) | ((with_reducible refine yS ?_ ?_) <;> (intro h; try simp only [NM] at h)) | fail)
  all_goals first
    | (have hk : ¬ k < l.length := by omega
       simp -dsimp (disch := first | exact D | fail) only [retQ, Tryz.results151, resVals, cellRV, resOf, St.rest, St.freeze, RT, go_sem, ↓reduceIte, seval]
       rw [← hi, idx_end hk]
       done)
    | (
       simp -dsimp (disch := first | exact D | fail) only [retQ, Tryz.results151, resVals, cellRV, resOf, St.rest, St.freeze, RT, go_sem, ↓reduceIte, seval]
       rw [← hi, idx_hit _ ‹_›])
    | (refine ⟨⟨k + 1, by omega, by rw [idx_step _ ‹_›, hi]⟩, by simp only; omega, ?_⟩
       refine St.le_mk ?_ ?_ ?_ <;> simp only [LE, EN, Nat.reduceEqDiff, reduceIte, Nat.reduceSub]
       )

set_option maxHeartbeats 16000000 in
theorem deleteFuncFKs_satM (l:List FK) (f:FuncId) (q:L) (p:FK→Bool) (hp:∀x∈l,Sat Tryz.prog f [.agg (eFK x),.one (.fz [q])] (.v (oB (p x)))) (hl:l.length≤1048576) :
  SatM Tryz.prog 142 [.one (.ref 1000 0 l.length),.one (.clo f [.fz [q]])] [] [(1000,⟨3,l.map eFK,[]⟩)] (.v (.one (.ref 4 0 (l.filter fun x=>!p x).length))) [] [(4,⟨3,(l.filter fun x=>!p x).map eFK++List.replicate (l.length - (l.filter fun x=>!p x).length) zFKs,[]⟩)]:=by
 have ci:=indexFuncFK_sat l f [.fz [q]] p (by omega) hp
 rcases idx_cases p l 0 with ⟨e1,e2⟩|⟨j0,hj0,e1,e2,e3⟩
 ·rw [e1] at ci
  have ef:(l.filter fun x=>!p x)=l:=List.filter_eq_self.2 fun x hx=>by simp [e2 x hx]
  rw [ef,Nat.sub_self,List.replicate_zero,List.append_nil]
  refine sM tyOk [] [4] Tryz.func142 fun w0 m0 F0=>?_
  simp only [Tryz.ntmps142,envOf,Nat.reduceAdd]
  repeat' (first|((first|with_reducible refine qV tyOk fun K hK=>?_|((with_reducible refine CallJ.is ?_);(((apply CallJ.lentI);(focus (simp -dsimp (disch:=first|exact D|fail) only [go_sem,↓reduceIte,seval];rfl));(focus (first|exact (ci)))))))<;>simp -dsimp (disch:=first|exact D|fail) only [go_sem,↓reduceIte,seval])|((with_reducible refine hK _ ?_);clear hK K)|refine Q1 ?_|((with_reducible refine qW (T:=TT) (b:=?_) ?_ ?_);rotate_left;exact rfl)|fail)
  all_goals simp -dsimp (disch:=first|exact D|fail) only [retQ,Tryz.results142,resVals,cellRV,resOf,St.rest,St.freeze,RT,go_sem,↓reduceIte,seval]
 have e1:idx p l 0=(j0:Int):=by simpa using e1
 rw [e1] at ci
 have k0:=kept_first p l hj0 e2 e3
 have l0:((l.take (j0+1)).filter fun x=>!p x).length=j0:=by rw [k0];simp;omega
 have r0:keptR eFK p l (j0+1)=l.map eFK:=by
  unfold keptR
  rw [k0,List.length_take,Nat.min_eq_left (by omega),List.take_append_drop]
 have hne:¬ (j0:Int)=-1:=by omega
 refine sM tyOk [] [4] Tryz.func142 fun w0 m0 F0=>?_
 simp only [Tryz.ntmps142,envOf,Nat.reduceAdd]
 repeat' (first|((first|with_reducible refine qV tyOk fun K hK=>?_|((with_reducible refine CallJ.is ?_);(((apply CallJ.lentI);(focus (simp -dsimp (disch:=first|exact D|fail) only [go_sem,↓reduceIte,seval,hne];rfl));(focus (first|exact (ci)))))))<;>simp -dsimp (disch:=first|exact D|fail) only [go_sem,↓reduceIte,seval,hne])|((with_reducible refine hK _ ?_);clear hK K)|refine Q1 ?_|((with_reducible refine qW (T:=TT) (b:=?_) ?_ ?_);rotate_left;exact rfl)|fail)
 refine AWP.loop (ι:={j:Nat // j0+1≤j∧j≤l.length}) (fun j=>⟨42,[(0,.v (.one (.ref 1000 0 l.length))),(1,.v (.one (.clo f [.fz [q]]))),(5,.v (oI ((l.take j.1).filter fun x=>!p x).length)),(6,.v (oI j.1))],[],[(1000,⟨3,keptR eFK p l j.1,[]⟩)]⟩) (fun j=>l.length - j.1) ⟨j0+1,Nat.le_refl _,hj0⟩ ?_ fun ⟨j,hj1,hj2⟩=>?_
 ·refine St.le_mk ?_ ?_ ?_<;>simp only [LE,EN,Nat.reduceEqDiff,reduceIte,Nat.reduceSub,r0,l0,Int.natCast_add,Int.natCast_one]
 simp only at hj1 hj2 ⊢
 have kl:=kept_le p l j hj2
 have kn:=keptR_len eFK p l j hj2
 rcases Nat.lt_or_ge j l.length with hc|hc
 ·have kg:=keptR_get eFK p l j hc
  have cc:=hp l[j] (List.getElem_mem hc)
  cases hx:p l[j] with
  | true =>
   rw [hx] at cc
   have q1:=keptR_drop eFK p l j hc hx
   have q2:=kept_drop_len p l j hc hx
   repeat' (first|((first|with_reducible refine qV tyOk fun K hK=>?_|((with_reducible refine CallJ.is ?_);(refine CallJ.pure (cc) ?_)))<;>simp -dsimp (disch:=first|exact D|fail) only [go_sem,↓reduceIte,seval,kn,kg,Option.getD_none])|((with_reducible refine hK _ ?_);clear hK K)|refine Q1 ?_|((with_reducible refine qW (T:=TT) (b:=?_) ?_ ?_);rotate_left;exact rfl)|fail)
   refine ⟨⟨j+1,by omega,by omega⟩,by simp only;omega,?_⟩
   refine St.le_mk ?_ ?_ ?_<;>simp only [LE,EN,Nat.reduceEqDiff,reduceIte,Nat.reduceSub,q1,q2,Int.natCast_add,Int.natCast_one]
  | false =>
   rw [hx] at cc
   have q1:=keptR_keep eFK p l j hc hx
   have q2:=kept_keep_len p l j hc hx
   have q3:=kept_setL eFK 3 (fun _=>rfl) p l j hc l[j]
   simp only [eFK,eCols,eInts] at q1 q3
   repeat' (first|((first|with_reducible refine qV tyOk fun K hK=>?_|((with_reducible refine CallJ.is ?_);(refine CallJ.pure (cc) ?_)))<;>simp -dsimp (disch:=first|exact D|fail) only [go_sem,↓reduceIte,seval,kn,kg,Option.getD_none,q3])|((with_reducible refine hK _ ?_);clear hK K)|refine Q1 ?_|((with_reducible refine qW (T:=TT) (b:=?_) ?_ ?_);rotate_left;exact rfl)|fail)
   refine ⟨⟨j+1,by omega,by omega⟩,by simp only;omega,?_⟩
   refine St.le_mk ?_ ?_ ?_<;>simp only [LE,EN,Nat.reduceEqDiff,reduceIte,Nat.reduceSub,q1,q2,Int.natCast_add,Int.natCast_one]
 ·have hj:j=l.length:=by omega
  subst hj
  have kf:keptR eFK p l l.length=(l.filter fun x=>!p x).map eFK++(l.drop (l.filter fun x=>!p x).length).map eFK:=by
   unfold keptR
   rw [List.take_length,List.map_append]
  rw [List.take_length] at kl ⊢
  have t1:List.take (l.filter fun x=>!p x).length ((l.filter fun x=>!p x).map eFK++(l.drop (l.filter fun x=>!p x).length).map eFK)=(l.filter fun x=>!p x).map eFK:=List.take_left' (by simp)
  have t2:List.drop ((l.filter fun x=>!p x).length+(l.length - (l.filter fun x=>!p x).length)) ((l.filter fun x=>!p x).map eFK++(l.drop (l.filter fun x=>!p x).length).map eFK)=[]:=List.drop_of_length_le (by simp)
  repeat' (first|((with_reducible refine qV tyOk fun K hK=>?_)<;>simp -dsimp (disch:=first|exact D|fail) only [go_sem,↓reduceIte,seval,kn])|((with_reducible refine hK _ ?_);clear hK K)|refine Q1 ?_|((with_reducible refine qW (T:=TT) (b:=?_) ?_ ?_);rotate_left;exact rfl)|fail)
  all_goals simp -dsimp (disch:=first|exact D|fail) only [retQ,Tryz.results142,resVals,cellRV,resOf,St.rest,St.freeze,RT,go_sem,↓reduceIte,seval]
  rw [kf]
  simp only [Nat.sub_zero,t1,t2,List.append_nil]
  exact ⟨trivial,rfl⟩
set_option maxHeartbeats 16000000 in
theorem dropFK_okO (s:Sch) (f:FK) (j:Nat) (T:List (List L)) (nt:Nat) (hj:j<s.fks.length) (e1:idx (fun o=>fkEq o f) s.fks 0=(j:Int)) (h2:s.fks.length≤1048576) (h4:∀f∈s.fks,f.cols.length≤1048576) :
  SatM Tryz.prog 96 [.one (.ptr 1000 0),.agg (eFK f)] [(1000,[.ref 1000 0 nt,.ref 1001 0 s.fks.length,.ref 1002 0 s.cons.length])] [(1000,⟨3,T,[]⟩),(1001,⟨3,s.fks.map eFKO,[]⟩),(1002,⟨7,s.cons.map eCon,[]⟩)] (.v (oI 0))
   [(1000,[.ref 1000 0 nt,.ref 22 0 (s.fks.length - 1),.ref 1002 0 s.cons.length])] [(1000,⟨3,T,[]⟩),(22,⟨3,(s.fks.take j++s.fks.drop (j+1)).map eFKO,[]⟩),(1002,⟨7,s.cons.map eCon,[]⟩)]:=by
 have ic:=indexFuncFK_sat s.fks 116 [.fz (eFK f)] (fun o=>fkEq o f) (by omega) fun o ho=>dropFK1_sat o f (by have:=h4 o ho;omega)
 rw [e1] at ic
 have dl:=deleteFKs_ownO (s.fks.map eFKO) j (by simpa using hj) (by simp;omega)
 rw [List.length_map] at dl
 have cm:=cut_map eFKO s.fks j hj [.str ByteArray.empty,.sl 1 [],.str ByteArray.empty]
 refine sM tyOk [1000] [1000,22,1002] Tryz.func96 fun w0 m0 F0=>?_
 simp only [Tryz.ntmps96,envOf,Nat.reduceAdd]
 refine AWP.gq ?_
 repeat' (first|((first|with_reducible refine qV tyOk fun K hK=>?_|((with_reducible refine CallJ.is ?_);refine CallJ.io [] [(1000,1001)] [] [(6,22)] [] [1001,22] [] [1001,22] (dl) rfl ⟨rfl,rfl,rfl,rfl⟩ ?_ ?_ ?_)|((with_reducible refine CallJ.is ?_);(((apply CallJ.lentI);(focus (simp -dsimp (disch:=first|exact D|fail) only [go_sem,↓reduceIte,seval,frz_eFKO,takeM',dropL_nil,dropL_nil',dropL_cons];rfl));(focus (first|exact (ic)))))))<;>simp -dsimp (disch:=first|exact D|fail) only [go_sem,↓reduceIte,seval,frz_eFKO,takeM',dropL_nil,dropL_nil',dropL_cons])|((with_reducible refine hK _ ?_);clear hK K)|refine Q1 ?_|((with_reducible refine qW (T:=TT) (b:=?_) ?_ ?_);rotate_left;exact rfl)|fail)
 refine Gq.cutR 22 (s.fks.length - 1) rfl rfl (by simp;omega) ?_
 simp -dsimp (disch:=first|exact D|fail) only [go_sem,↓reduceIte,seval]
 refine Gq.done ?_
 simp -dsimp (disch:=first|exact D|fail) only [retQ,Tryz.results96,resVals,cellRV,resOf,St.rest,St.freeze,RT,go_sem,↓reduceIte,seval]
 exact congrArg (fun x:List (List L)=>(⟨3,x,[]⟩:RowC)) cm
set_option maxHeartbeats 16000000 in
theorem dropFK_satF (s:Sch) (f:FK) (h1:s.tables.length≤1048576) (h2:s.fks.length≤1048576) (h3:s.cons.length≤1048576) (h4:∀f∈s.fks,f.cols.length≤1048576) :
  SatM Tryz.prog 96 [.one (.ptr 1000 0),.agg (eFK f)] (iB s) (fR s) (.v (oI (rE (dropFK s f)))) (oBE (dropFK s f)) (oRE (dropFK s f)):=by
 have ic:=indexFuncFK_sat s.fks 116 [.fz (eFK f)] (fun o=>fkEq o f) (by omega) fun o ho=>dropFK1_sat o f (by have:=h4 o ho;omega)
 rcases idx_cases (fun o=>fkEq o f) s.fks 0 with ⟨e1,_⟩|⟨j,hj,e1,_,_⟩
 ·rw [e1] at ic
  have spec:dropFK s f=.error 4:=by unfold dropFK;simp only [e1];rfl
  rw [spec]
  unfold iB fR oBE oRE rE
  simp only
  refine sM tyOk [1000] [1,2,3] Tryz.func96 fun w0 m0 F0=>?_
  simp only [Tryz.ntmps96,envOf,Nat.reduceAdd]
  repeat' (first|((first|with_reducible refine qV tyOk fun K hK=>?_|((with_reducible refine CallJ.is ?_);(((apply CallJ.lentI);(focus (simp -dsimp (disch:=first|exact D|fail) only [go_sem,↓reduceIte,seval];rfl));(focus (first|exact (ic)))))))<;>simp -dsimp (disch:=first|exact D|fail) only [go_sem,↓reduceIte,seval])|((with_reducible refine hK _ ?_);clear hK K)|refine Q1 ?_|((with_reducible refine qW (T:=TT) (b:=?_) ?_ ?_);rotate_left;exact rfl)|fail)
  simp -dsimp (disch:=first|exact D|fail) only [retQ,Tryz.results96,resVals,cellRV,resOf,St.rest,St.freeze,RT,go_sem,↓reduceIte,seval]
 ·have e1:idx (fun o=>fkEq o f) s.fks 0=(j:Int):=by simpa using e1
  rw [e1] at ic
  have spec:dropFK s f=.ok {s with fks:=s.fks.take j++s.fks.drop (j+1)}:=by
   unfold dropFK
   simp only [e1,Int.toNat_natCast]
   rw [if_neg (by omega)]
  rw [spec]
  have dl:=deleteFKs_own (s.fks.map eFK) j (by simpa using hj) (by simp;omega) (by rw [noOwn_eFK];trivial)
  rw [List.length_map] at dl
  have cl:=cut_len s.fks j hj
  have cm:=cut_map eFK s.fks j hj [.str ByteArray.empty,.sl 1 [],.str ByteArray.empty]
  unfold iB fR oBE oRE oB1 oR1 rE
  simp only [cl]
  refine sM tyOk [1000] [1,2,3] Tryz.func96 fun w0 m0 F0=>?_
  simp only [Tryz.ntmps96,envOf,Nat.reduceAdd]
  refine AWP.gq ?_
  repeat' (first|((first|with_reducible refine qV tyOk fun K hK=>?_|((with_reducible refine CallJ.is ?_);refine CallJ.io [] [(1000,1001)] [] [(6,22)] [] [1001,22] [] [1001,22] (dl) rfl ⟨rfl,rfl,rfl,rfl⟩ ?_ ?_ ?_)|((with_reducible refine CallJ.is ?_);(((apply CallJ.lentI);(focus (simp -dsimp (disch:=first|exact D|fail) only [go_sem,↓reduceIte,seval,dropL_nil,dropL_nil',dropL_cons];rfl));(focus (first|exact (ic)))))))<;>simp -dsimp (disch:=first|exact D|fail) only [go_sem,↓reduceIte,seval,dropL_nil,dropL_nil',dropL_cons])|((with_reducible refine hK _ ?_);clear hK K)|refine Q1 ?_|((with_reducible refine qW (T:=TT) (b:=?_) ?_ ?_);rotate_left;exact rfl)|fail)
  refine Gq.cutR 22 (s.fks.length - 1) rfl rfl (by simp;omega) ?_
  simp -dsimp (disch:=first|exact D|fail) only [go_sem,↓reduceIte,seval]
  refine Gq.renR 1000 1 rfl rfl (by decide) (.inl (Nat.le_of_ble_eq_true rfl)) ?_
  simp -dsimp (disch:=first|exact D|fail) only [go_sem,↓reduceIte,seval,renR_mk,L.ren,L.ren0]
  refine Gq.renR 22 2 rfl rfl (by decide) (.inl (Nat.le_of_ble_eq_true rfl)) ?_
  simp -dsimp (disch:=first|exact D|fail) only [go_sem,↓reduceIte,seval,renR_mk,L.ren,L.ren0]
  refine Gq.renR 1002 3 rfl rfl (by decide) (.inl (Nat.le_of_ble_eq_true rfl)) ?_
  simp -dsimp (disch:=first|exact D|fail) only [go_sem,↓reduceIte,seval,renR_mk,L.ren,L.ren0]
  refine Gq.done ?_
  simp -dsimp (disch:=first|exact D|fail) only [retQ,Tryz.results96,resVals,cellRV,resOf,St.rest,St.freeze,RT,go_sem,↓reduceIte,seval]
  exact congrArg (fun x:List (List L)=>(⟨3,x,[]⟩:RowC)) cm
theorem frz3c (l:List Col):(l.map eCol).map (fun x=>x.map (L.frzN 3))=l.map eCol:=frz3 (fun _=>rfl) l
theorem frz3i (l:List Int):(l.map eInt1).map (fun x=>x.map (L.frzN 3))=l.map eInt1:=frz3 (fun _=>rfl) l
theorem join2_sat (t:Tbl) (x:L) (c:Int) (h0:0≤c) (h1:c≤1048576) (h2:t.cols.length≤1048576) (h3:t.pk.length≤1048576):MapsAt Tryz.prog 128 ([[.int .i64 (t.pk.length:Int)],[.str t.name,x,.sl 1 (t.pk.map eInt1)],[.int .i64 (t.cols.length:Int)]].map L.fz) (joinG t) c:=by
 unfold MapsAt
 simp only [List.map_cons,List.map_nil]
 rcases Int.lt_or_le c (t.pk.length:Int) with hc|hc
 ·obtain ⟨q,rfl⟩:∃q:Nat,c=(q:Int):=⟨c.toNat,by omega⟩
  have hq:q<t.pk.length:=by omega
  have gp:(t.pk.map eInt1).getD q []=[.int .i64 (t.pk.getD q 0)]:=by rw [getD_map_lt _ _ _ hq,getD_lt _ hq];rfl
  have spec:joinG t (q:Int)=t.pk.getD q 0:=by unfold joinG;rw [if_pos hc,Int.toNat_natCast]
  rw [spec]
  refine sS tyOk Tryz.func128 fun w0 m0 F0=>?_
  simp only [Tryz.ntmps128,envOf,Nat.reduceAdd]
  repeat' (first|((with_reducible refine qV tyOk fun K hK=>?_)<;>simp -dsimp (disch:=first|exact D|fail) only [go_sem,↓reduceIte,seval,gp])|((with_reducible refine hK _ ?_);clear hK K)|refine Q1 ?_|((with_reducible refine qW (T:=TT) (b:=?_) ?_ ?_);rotate_left;exact rfl)|fail)
  simp -dsimp (disch:=first|exact D|fail) only [retQ,Tryz.results128,resVals,cellRV,resOf,St.rest,St.freeze,RT,go_sem,↓reduceIte,seval]
 ·have spec:joinG t c=(t.cols.length:Int)+c - t.pk.length:=by unfold joinG;rw [if_neg (by omega)]
  rw [spec]
  refine sS tyOk Tryz.func128 fun w0 m0 F0=>?_
  simp only [Tryz.ntmps128,envOf,Nat.reduceAdd]
  repeat' (first|((with_reducible refine qV tyOk fun K hK=>?_)<;>simp -dsimp (disch:=first|exact D|fail) only [go_sem,↓reduceIte,seval])|((with_reducible refine hK _ ?_);clear hK K)|refine Q1 ?_|((with_reducible refine qW (T:=TT) (b:=?_) ?_ ?_);rotate_left;exact rfl)|fail)
  simp -dsimp (disch:=first|exact D|fail) only [retQ,Tryz.results128,resVals,cellRV,resOf,St.rest,St.freeze,RT,go_sem,↓reduceIte,seval]
set_option maxHeartbeats 16000000 in
theorem join_err (s:Sch) (i:Nat) (name:ByteArray) (e:Int) (hi:i<s.tables.length) (sm:SmallS s) (hpk:∀t∈s.tables,PkOk t) (hE:joinT s i name=.error e) :
  SatM Tryz.prog 100 [.one (.ptr 1000 0),oI i,oS name] (iB s) (iR s) (.v (oI e)) [] []:=by
 have b1:=sm.tables
 have b2:=sm.table s.tables[i] (List.getElem_mem hi)
 have b3:=sm.fks
 have b4:=sm.cons
 have b5:∀f∈s.fks,f.cols.length≤1048576:=fun f hf=>by have:=(sm.fk f hf).1;omega
 have p1:=hpk s.tables[i] (List.getElem_mem hi)
 obtain ⟨t,ht⟩:∃t,s.tables[i]=t:=⟨_,rfl⟩
 have htA:tAt s i=t:=by unfold tAt;rw [getD_lt _ hi,ht]
 rw [ht] at b2 p1
 obtain ⟨b6,b7,_⟩:=b2
 have fs:=findTable_sat s name (by omega)
 have lm:(s.tables.map eTbl).length=s.tables.length:=List.length_map ..
 have gi:(s.tables.map eTbl).getD i []=eTbl t:=by rw [getD_map_lt _ _ _ hi,ht]
 unfold joinT at hE
 rcases idx_cases (fun u=>sEq u.name name) s.tables 0 with ⟨e1,_⟩|⟨j,hj,e1,_,_⟩
 ·have e1:tblAt s.tables name=-1:=e1
  rw [e1,mx0_neg] at fs
  simp only [e1] at hE
  rw [if_pos (by omega)] at hE
  injection hE with hE
  subst hE
  unfold iB iR
  refine sM tyOk [1000] [1,2,3] Tryz.func100 fun w0 m0 F0=>?_
  simp only [Tryz.ntmps100,envOf,Nat.reduceAdd]
  refine AWP.frzR 1000 rfl ?_
  simp -dsimp (disch:=first|exact D|fail) only [go_sem,↓reduceIte,seval,frzR_mk,frzTblO,frzFKO]
  refine AWP.frzR 1001 rfl ?_
  simp -dsimp (disch:=first|exact D|fail) only [go_sem,↓reduceIte,seval,frzR_mk,frzTblO,frzFKO]
  repeat' (first|((first|with_reducible refine qV tyOk fun K hK=>?_|(refine AWP.isRegion 1 ?_;refine dX tyOk mixed [(0,4)] [(4,[(5,5)],[])] [4] 8 fun K hK=>?_;simp only [SG,segs] at hK ⊢)|((with_reducible refine CallJ.is ?_);(((apply CallJ.lentI);(focus (simp -dsimp (disch:=first|exact D|fail) only [go_sem,↓reduceIte,seval,Option.getD_none];rfl));(focus (first|exact (fs))))))|(with_reducible first|refine VCy.some fun K hK=>?_|refine VCy.step fun K hK=>?_))<;>simp -dsimp (disch:=first|exact D|fail) only [go_sem,↓reduceIte,seval,Option.getD_none])|((with_reducible refine hK _ ?_);clear hK K)|(with_reducible refine VCy.intro fun K0 hK0=>?_)|((with_reducible refine VCy.fin ?_);(refine hK0 _ ?_);clear hK0 K0)|(with_reducible refine VCy.quiet ?_)|refine Q1 ?_|((with_reducible refine qW (T:=TT) (b:=?_) ?_ ?_);rotate_left;exact rfl)|fail)
  simp -dsimp (disch:=first|exact D|fail) only [retQ,Tryz.results100,resVals,cellRV,resOf,St.rest,St.freeze,RT,go_sem,↓reduceIte,seval]
 have e1:tblAt s.tables name=(j:Int):=by unfold tblAt;simpa using e1
 rw [e1,mx0_nat,decide_eq_true (show (0:Int)≤(j:Int) by omega)] at fs
 have j0:¬ (j:Int)<0:=by omega
 obtain ⟨o,ho⟩:∃o,s.tables[j]=o:=⟨_,rfl⟩
 have hoA:tAt s j=o:=by unfold tAt;rw [getD_lt _ hj,ho]
 have gj:(s.tables.map eTbl).getD j []=eTbl o:=by rw [getD_map_lt _ _ _ hj,ho]
 have b8:=sm.table s.tables[j] (List.getElem_mem hj)
 have p2:=hpk s.tables[j] (List.getElem_mem hj)
 rw [ho] at b8 p2
 obtain ⟨b9,b10,_⟩:=b8
 simp only [e1,if_neg j0,Int.toNat_natCast,htA,hoA] at hE
 have sq:=sequence_sat t.pk.length (by omega)
 have ep:=equalInts_sat o.pk (seqI t.pk.length) (by omega)
 unfold iB iR
 refine sM tyOk [1000] [1,2,3] Tryz.func100 fun w0 m0 F0=>?_
 simp only [Tryz.ntmps100,envOf,Nat.reduceAdd]
 refine AWP.frzR 1000 rfl ?_
 simp -dsimp (disch:=first|exact D|fail) only [go_sem,↓reduceIte,seval,frzR_mk,frzTblO,frzFKO]
 refine AWP.frzR 1001 rfl ?_
 simp -dsimp (disch:=first|exact D|fail) only [go_sem,↓reduceIte,seval,frzR_mk,frzTblO,frzFKO]
 repeat' (first|((first|((fail_if_success (refine AWP.isRegion 4 ?_));(with_reducible refine qV tyOk fun K hK=>?_))|(refine AWP.isRegion 1 ?_;refine dX tyOk mixed [(0,4)] [(4,[(5,5)],[])] [4] 8 fun K hK=>?_;simp only [SG,segs] at hK ⊢)|((with_reducible refine CallJ.is ?_);(((apply CallJ.lentI);(focus (simp -dsimp (disch:=first|exact D|fail) only [go_sem,↓reduceIte,seval,Option.getD_none,lm,gi,gj];rfl));(focus (first|exact (fs))))))|(with_reducible first|refine VCy.some fun K hK=>?_|refine VCy.step fun K hK=>?_))<;>simp -dsimp (disch:=first|exact D|fail) only [go_sem,↓reduceIte,seval,Option.getD_none,lm,gi,gj])|((with_reducible refine hK _ ?_);clear hK K)|(with_reducible refine VCy.intro fun K0 hK0=>?_)|((with_reducible refine VCy.fin ?_);(refine hK0 _ ?_);clear hK0 K0)|(with_reducible refine VCy.quiet ?_)|refine Q1 ?_|((with_reducible refine qW (T:=TT) (b:=?_) ?_ ?_);rotate_left;exact rfl)|fail)
 refine AWP.mid ⟨188,[(0,.v (.one (.ptr 1000 0))),(1,.v (oI i)),(5,.v (.one (.ptr 5 0))),(6,.v (oI 0)),(7,.v (oI j)),(9,.v (.one (.ptr 9 0))),(10,.v (.one (.ptr 10 0)))],[(9,eTbl t),(10,eTbl o),(5,[.str name]),(1000,[.ref 1000 0 s.tables.length,.ref 1001 0 s.fks.length,.ref 1002 0 s.cons.length])],[(1000,⟨3,s.tables.map eTbl,[]⟩),(1001,⟨3,s.fks.map eFK,[]⟩),(1002,⟨7,s.cons.map eCon,[]⟩)]⟩ ?_ ?_
 ·refine dY tyOk mixed [(0,14)] (.cons 14 [] [(0,14)] (.cons 15 [] [(0,14)] (.cons 16 [] [(7,7)] (.cons 17 [] [] .leaf .none) .none) .none) (.cons 15 [] [(0,14)] (.cons 14 [] [(0,14)] (.cons 16 [] [(7,7)] (.cons 17 [] [] .leaf .none) .none) .none) .none)) [14,15,16,17] 8 fun K hK=>?_
  simp only [segt_leaf,segt_none,segt_cons,segs,List.drop_succ_cons,List.drop_zero,List.take_succ_cons,List.take_zero,List.getElem?_cons_zero,List.getElem?_cons_succ,List.cons_append,List.nil_append,List.append_nil] at hK ⊢
  simp -dsimp (disch:=first|exact D|fail) only [go_sem,↓reduceIte,seval,Option.getD_none,gi,gj,lm]
  repeat' (first|(((with_reducible refine VCt.step fun K hK=>?_))<;>simp -dsimp (disch:=first|exact D|fail) only [go_sem,↓reduceIte,seval,Option.getD_none,gi,gj,lm])|((with_reducible refine hK _ ?_);clear hK K)|(with_reducible refine VCt.intro fun K0 hK0=>?_)|((with_reducible refine VCt.fin ?_);(refine hK0 _ ?_);clear hK0 K0)|(with_reducible first|refine VCy.quiet ?_|refine VCt.none ?_)|((with_reducible refine VCy.keep ?_ ?_);focus ((simp -dsimp (disch:=first|exact D|fail) only [go_sem,↓reduceIte,seval,Stable_cons,Stable_nil,sameA_some,sameA_none,Option.getD_none,gi,gj,lm]);first|done|exact E|fail))|((with_reducible refine VCt.fork (fun K hK=>?_) ?_);(focus (simp -dsimp (disch:=first|exact D|fail) only [go_sem,↓reduceIte,seval,Option.getD_none,gi,gj,lm])))|refine Q1 ?_|fail)
  all_goals refine Gq.done ⟨rfl,?_⟩
  all_goals refine St.le_mk ?_ ?_ ?_<;>simp only [LE,EN,Nat.reduceEqDiff,reduceIte,Nat.reduceSub,eTbl]
 by_cases hij:i=j
 ·subst hij
  rw [if_pos (.inl rfl)] at hE
  injection hE with hE
  subst hE
  repeat' (first|((first|with_reducible refine qV tyOk fun K hK=>?_|with_reducible refine yD tyOk mixed 6 (by kernel_rfl) fun K hK=>?_)<;>simp -dsimp (disch:=first|exact D|fail) only [go_sem,↓reduceIte,seval,Option.getD_none])|((with_reducible refine hK _ ?_);clear hK K)|refine Q1 ?_|((with_reducible refine qW (T:=TT) (b:=?_) ?_ ?_);rotate_left;exact rfl)|fail)
  simp -dsimp (disch:=first|exact D|fail) only [retQ,Tryz.results100,resVals,cellRV,resOf,St.rest,St.freeze,RT,go_sem,↓reduceIte,seval]
 have hij':¬ (i:Int)=(j:Int):=by omega
 by_cases hpq:o.pk=seqI t.pk.length
 case neg =>
  rw [if_pos (.inr hpq)] at hE
  injection hE with hE
  subst hE
  rw [decide_eq_false hpq] at ep
  repeat' (first|((first|with_reducible refine qV tyOk fun K hK=>?_|refine Q2 ?_|with_reducible refine yD tyOk mixed 6 (by kernel_rfl) fun K hK=>?_|((with_reducible refine CallH.is ?_);(first|refine CallH.intro (sq) ?_|refine CallH.intro (ep) ?_)))<;>simp -dsimp (disch:=first|exact D|fail) only [go_sem,↓reduceIte,seval,Option.getD_none,hij'])|((with_reducible refine hK _ ?_);clear hK K)|refine Q1 ?_|((with_reducible refine qW (T:=TT) (b:=?_) ?_ ?_);rotate_left;exact rfl)|fail)
  simp -dsimp (disch:=first|exact D|fail) only [retQ,Tryz.results100,resVals,cellRV,resOf,St.rest,St.freeze,RT,go_sem,↓reduceIte,seval]
 rw [decide_eq_true hpq] at ep
 rw [if_neg (by rintro (h|h);exact hij' h;exact h hpq)] at hE
 have ol:=seq_le p2 hpq
 repeat' (first|((first|with_reducible refine qV tyOk fun K hK=>?_|refine Q2 ?_|with_reducible refine yD tyOk mixed 6 (by kernel_rfl) fun K hK=>?_|((with_reducible refine CallH.is ?_);(first|refine CallH.intro (sq) ?_|refine CallH.intro (ep) ?_)))<;>simp -dsimp (disch:=first|exact D|fail) only [go_sem,↓reduceIte,seval,Option.getD_none,hij'])|((with_reducible refine hK _ ?_);clear hK K)|refine Q1 ?_|((with_reducible refine qW (T:=TT) (b:=?_) ?_ ?_);rotate_left;exact rfl)|fail)
 have hE:joinR s i j t o name=.error e:=hE
 unfold joinR at hE
 refine AWP.loop (ι:={k:Nat // k≤t.pk.length∧scan (joinK t o) (t.pk.drop k) k=scan (joinK t o) t.pk 0}) (fun k=>⟨188,[(0,.v (.one (.ptr 1000 0))),(1,.v (oI i)),(5,.v (.one (.ptr 5 0))),(6,.v (oI 0)),(7,.v (oI j)),(9,.v (.one (.ptr 9 0))),(10,.v (.one (.ptr 10 0))),(11,.v (.one (.ptr 11 0))),(57,.v (.one (.sl 1 (t.pk.map eInt1)))),(58,.v (oI t.pk.length)),(59,.v (oI k.1))],[(11,[.int .i64 (t.pk.length:Int)]),(9,eTbl t),(10,eTbl o),(5,[.str name]),(1000,[.ref 1000 0 s.tables.length,.ref 1001 0 s.fks.length,.ref 1002 0 s.cons.length])],[(1000,⟨3,s.tables.map eTbl,[]⟩),(1001,⟨3,s.fks.map eFK,[]⟩),(1002,⟨7,s.cons.map eCon,[]⟩)]⟩) (fun k=>t.pk.length - k.1) ⟨0,Nat.zero_le _,rfl⟩ ?_ fun ⟨k,hkl,hki⟩=>?_
 ·refine St.le_mk ?_ ?_ ?_<;>simp only [LE,EN,Nat.reduceEqDiff,reduceIte,Nat.reduceSub,eTbl]
 simp only at hkl hki ⊢
 rcases Nat.lt_or_ge k t.pk.length with hc|hc
 ·obtain ⟨q,hq,q1⟩:∃q:Nat,t.pk[k]=(q:Int)∧q<t.cols.length:=⟨t.pk[k].toNat,by have:=p1 t.pk[k] (List.getElem_mem hc);omega,by have:=p1 t.pk[k] (List.getElem_mem hc);omega⟩
  have gp:(t.pk.map eInt1).getD k []=[.int .i64 (q:Int)]:=by rw [getD_map_lt _ _ _ hc,hq];rfl
  have g1:(t.cols.map eCol).getD q []=eCol (t.cols.getD q zCol):=by rw [getD_map_lt _ _ _ q1,getD_lt _ q1]
  have g2:(o.cols.map eCol).getD k []=eCol (o.cols.getD k zCol):=by rw [getD_map_lt _ _ _ (by omega),getD_lt _ (by omega)]
  have sp:joinK t o k t.pk[k]=if (t.cols.getD q zCol).kind=(o.cols.getD k zCol).kind then none else some 9:=by unfold joinK;rw [hq,Int.toNat_natCast,ite_not]
  by_cases hx:(t.cols.getD q zCol).kind=(o.cols.getD k zCol).kind
  ·rw [if_pos hx] at sp
   repeat' (first|((first|with_reducible refine qV tyOk fun K hK=>?_|with_reducible refine yD tyOk mixed 6 (by kernel_rfl) fun K hK=>?_)<;>simp -dsimp (disch:=first|exact D|fail) only [go_sem,↓reduceIte,seval,gp,g1,g2,eCol,Option.getD_none,hx])|((with_reducible refine hK _ ?_);clear hK K)|refine Q1 ?_|((with_reducible refine qW (T:=TT) (b:=?_) ?_ ?_);rotate_left;exact rfl)|fail)
   refine ⟨⟨k+1,by omega,by rw [scan_step (by omega) sp,hki]⟩,by simp only;omega,?_⟩
   refine St.le_mk ?_ ?_ ?_<;>simp only [LE,EN,Nat.reduceEqDiff,reduceIte,Nat.reduceSub,eTbl]
  ·rw [if_neg hx] at sp
   rw [scan_leaf (by omega) sp hki] at hE
   injection hE with hE
   subst hE
   repeat' (first|((first|with_reducible refine qV tyOk fun K hK=>?_|with_reducible refine yD tyOk mixed 6 (by kernel_rfl) fun K hK=>?_)<;>simp -dsimp (disch:=first|exact D|fail) only [go_sem,↓reduceIte,seval,gp,g1,g2,eCol,Option.getD_none,hx])|((with_reducible refine hK _ ?_);clear hK K)|refine Q1 ?_|((with_reducible refine qW (T:=TT) (b:=?_) ?_ ?_);rotate_left;exact rfl)|fail)
   simp -dsimp (disch:=first|exact D|fail) only [retQ,Tryz.results100,resVals,cellRV,resOf,St.rest,St.freeze,RT,go_sem,↓reduceIte,seval]
 rw [scan_end (by omega)] at hki
 rw [←hki] at hE
 simp only at hE
 have df:=dropFK_satF s ⟨name,seqI t.pk.length,t.name⟩ (by omega) (by omega) (by omega) b5
 have ek:eFK ⟨name,seqI t.pk.length,t.name⟩=[.str name,.sl 1 ((seqI t.pk.length).map eInt1),.str t.name]:=rfl
 rw [ek] at df
 cases hd:dropFK s ⟨name,seqI t.pk.length,t.name⟩ with
 | error e' =>
  rw [hd] at hE df
  injection hE with hE
  subst hE
  have h4:e'≠0:=by
   unfold dropFK at hd
   simp only at hd
   split at hd
   ·injection hd with hd;omega
   ·cases hd
  unfold iB fR oBE oRE rE at df
  simp only at df
  repeat' (first|((first|with_reducible refine qV tyOk fun K hK=>?_|(refine AWP.isRegion 14 ?_;refine dX tyOk mixed [(0,3),(4,2)] [(3,[(6,1)],[(0,2),(4,2)]),(7,[(8,1)],[])] [3,7] 8 fun K hK=>?_;simp only [SG,segs] at hK ⊢)|((with_reducible refine CallJ.is ?_);refine CallJ.io [(1000,1000)] [(1000,1000),(1001,1001),(1002,1002)] [] [] [1000] [1000,1001,1002] [1000] [1000,1001,1002] (df) rfl ⟨rfl,rfl,rfl,rfl⟩ ?_ ?_ ?_)|((with_reducible refine CallJ.is ?_);(refine CallJ.pure (sq) ?_))|(with_reducible first|refine VCy.some fun K hK=>?_|refine VCy.step fun K hK=>?_))<;>simp -dsimp (disch:=first|exact D|fail) only [go_sem,↓reduceIte,seval,okIds_ref,Option.getD_none,h4,dropL_nil,dropL_nil',dropL_cons])|((with_reducible refine hK _ ?_);clear hK K)|(with_reducible refine VCy.intro fun K0 hK0=>?_)|((with_reducible refine VCy.fin ?_);(refine hK0 _ ?_);clear hK0 K0)|(with_reducible refine VCy.quiet ?_)|((with_reducible refine VCy.keep ?_ ?_);focus ((simp -dsimp (disch:=first|exact D|fail) only [go_sem,↓reduceIte,seval,Stable_cons,Stable_nil,sameA_some,sameA_none,okIds_ref,Option.getD_none,h4,dropL_nil,dropL_nil',dropL_cons]);first|done|exact E|fail))|refine Q1 ?_|((with_reducible refine qW (T:=TT) (b:=?_) ?_ ?_);rotate_left;exact rfl)|fail)
  simp -dsimp (disch:=first|exact D|fail) only [retQ,Tryz.results100,resVals,cellRV,resOf,St.rest,St.freeze,RT,go_sem,↓reduceIte,seval]
 | ok s1 =>
  rw [hd] at hE df
  simp only at hE
  have cf:=containsFFK_sat s1.fks 126 [.fz [.str name]] _ (by
   have:=dropFK_len hd
   omega) fun t _=>join1_sat t name
  cases hx:(s1.fks.any fun f=>sEq f.ref name) with
  | false=>rw [hx] at hE;simp at hE
  | true =>
   rw [hx] at hE cf
   rw [if_pos rfl] at hE
   injection hE with hE
   subst hE
   unfold iB fR oBE oRE oB1 oR1 rE at df
   simp only at df
   repeat' (first|((first|with_reducible refine qV tyOk fun K hK=>?_|(refine AWP.isRegion 14 ?_;refine dX tyOk mixed [(0,3),(4,2)] [(3,[(6,1)],[(0,2),(4,2)]),(7,[(8,1)],[])] [3,7] 8 fun K hK=>?_;simp only [SG,segs] at hK ⊢)|((with_reducible refine CallJ.is ?_);refine CallJ.io [(1000,1000)] [(1000,1000),(1001,1001),(1002,1002)] [(1000,1000)] [(1,1),(2,2),(3,3)] [] [1000,1001,1002,1,2,3] [1000,1000] [1000,1001,1002,1,2,3] (df) rfl ⟨rfl,rfl,rfl,rfl⟩ ?_ ?_ ?_)|((with_reducible refine CallJ.is ?_);(first|refine CallJ.pure (sq) ?_|((apply CallJ.lentI);(focus (simp -dsimp (disch:=first|exact D|fail) only [go_sem,↓reduceIte,seval,okIds_ref,Option.getD_none,dropL_nil,dropL_nil',dropL_cons];rfl));(focus (first|exact (sq)|exact (cf))))))|(with_reducible first|refine VCy.some fun K hK=>?_|refine VCy.step fun K hK=>?_))<;>simp -dsimp (disch:=first|exact D|fail) only [go_sem,↓reduceIte,seval,okIds_ref,Option.getD_none,dropL_nil,dropL_nil',dropL_cons])|((with_reducible refine hK _ ?_);clear hK K)|(with_reducible refine VCy.intro fun K0 hK0=>?_)|((with_reducible refine VCy.fin ?_);(refine hK0 _ ?_);clear hK0 K0)|(with_reducible refine VCy.quiet ?_)|((with_reducible refine VCy.keep ?_ ?_);focus ((simp -dsimp (disch:=first|exact D|fail) only [go_sem,↓reduceIte,seval,Stable_cons,Stable_nil,sameA_some,sameA_none,okIds_ref,Option.getD_none,dropL_nil,dropL_nil',dropL_cons]);first|done|exact E|fail))|refine Q1 ?_|((with_reducible refine qW (T:=TT) (b:=?_) ?_ ?_);rotate_left;exact rfl)|fail)
   simp -dsimp (disch:=first|exact D|fail) only [retQ,Tryz.results100,resVals,cellRV,resOf,St.rest,St.freeze,RT,go_sem,↓reduceIte,seval]
end Go.Bw
