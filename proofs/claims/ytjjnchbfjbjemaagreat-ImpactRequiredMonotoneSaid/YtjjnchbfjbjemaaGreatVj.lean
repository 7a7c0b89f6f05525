/-
  WHAT IS PROVED HERE, of this translation: indexCon_sat, validateCon_sat, unused1_sat, deleteFuncTbls_satM, createTable_satM, dropConstraint_satM, frzXs_rowT, SmallS.rm, renameTable_satM, dropForeignKey_satM.
  A theorem that ends in sat says what the function it names returns, whatever the state it is called in; the bounds on its arguments stand ahead of it.
-/
import Derived.Test.YtjjnchbfjbjemaaGreatVe
import Derived.Test.YtjjnchbfjbjemaaGreatVf
set_option linter.unusedSimpArgs false
set_option linter.unusedVariables false
namespace Go.Bw
open Go.Proofs
attribute [local go_sem ↓] VOps_nil VOps_cons VOp_callJ VVal_callH VOps_guard GOn_tt GOn_ff GOn_tf GOn_ft GOn_not GOn_none HOn_none HOn_tt HOn_ff HOn_tf HOn_ft HOn_not VHead_nil VHead_cons VHead_guard VVal_move VVal_assign VVal_pickE pickK_true pickK_false VVal_not VVal_neg negK_int VVal_load loadK_fz loadK_ptr loadK_eptr VVal_fieldAddr VVal_field VVal_indexAddr idxK_sl idxK_ref VVal_index indexK_str VVal_extract VVal_binOp binK_one binK_agg VVal_build VVal_buildSlice VVal_makeFunc VVal_slice sliceK_str sliceK_sl sliceK_nil sliceK_ref VVal_slice3 VVal_nilCheck VVal_convert convKk_int convKk_str VVal_len VVal_max VVal_min VOp_assign assignK_int assignK_bool assignK_str assignK_clo assignK_sl assignK_nil assignK_ref assignK_agg assignK_fz assignK_ptr assignK_eptr assignK_any VOp_box VOp_alloc VOp_store storeK_ptr storeK_eptr VOp_buildSlice VOp_append appK_rr appK_rs appK_rn appK_ri appK_nr appK_ns appK_nn appK_ni appStd_eq VOp_copy copyK_ref VOp_clear clearK_ref VOp_cap VOp_eqNil VOp_move VOp_pick VOp_not VOp_neg VOp_load VOp_fieldAddr VOp_field VOp_indexAddr VOp_index VOp_extract VOp_binTmp VOp_binInt VOp_binStr VOp_binPtr VOp_build VOp_makeFunc VOp_slice VOp_nilCheck VOp_convert VOp_len VOp_max VOp_min mO_some mT_some pk_some pk_none look_cons del_cons
attribute [local go_sem] guardB gOf int_bne beq_true beq_false Bool.not_not gSlot pickK_true pickK_false negK_int loadK_fz loadK_ptr loadK_eptr idxK_sl idxK_ref indexK_str binK_one binK_agg sliceK_str sliceK_sl sliceK_nil sliceK_ref convKk_int convKk_str maxL minL assignK_int assignK_bool assignK_str assignK_clo assignK_sl assignK_nil assignK_ref assignK_agg assignK_fz assignK_ptr assignK_eptr assignK_any nilRow_eq takeRow_eq appended_eq storeK_ptr storeK_eptr store_mk appIn_eq appMk_eq marked_eq ovOut_nil ovOut_cons ovIn_nil ovIn_cons padRow_eq ysC capK_nil capK_ref ioSt_mk outB_nil outR_nil outB outR inB_nil inB_cons inR_nil inR_cons L.kl L.kl0 L.ids L.ids0 Option.getD_some evalO constA mO_some mT_some put_mk putO_some putO_none okD_some okD_none pk_some pk_none look_nil del_nil sput noBox_mk noRow_mk newBox_eq newRow0_eq St.killRow RowC.kill rowMap_mk rowOf ovAll ovAdd ovDel ovGet ovShift dstOf ysOf overlay_nil overlay_nil' overlay A.map V.map L.noPtr L.noPtr0 L.noRow L.noRow0 L.peek L.norm L.flat clos_int clos_bool clos_str clos_sl clos_nil clos_any clos_fz L.clos L.isFz L.kd moveL fieldOff eqCells eqCell eqOp oneOf boolOf intOfA tupOf vOf aggOf isPtrLike isSlice lenKind lenL nL elemTI loadV asV binL intBin intDivL shrL boolBin strBin strAdd ptrNil boundN partCells fillL placesOf setL chunks repL capsOf capL callOf argsOf frzV_int frzV_bool frzV_str frzV_sl frzV_nil frzV_fz frzV_any frzV_own frzV_clo frzV_ref frzV_eptr frzV_ptr frzRow_nil frzRow_ov frzRs_nil frzRs_cons frzCs_nil frzCs_cons frzO_some frzO_none frzN_int frzN_bool frzN_str frzN_sl frzN_nil frzN_any frzN_own List.map_cons List.map_nil List.cons_append List.nil_append List.append_nil List.length_cons List.length_nil List.length_map List.length_append List.headD_cons List.tail_cons List.getElem?_cons_zero List.getElem?_cons_succ List.drop_zero List.drop_succ_cons List.drop_nil List.take_succ_cons List.take_zero List.take_nil List.take_length List.filter_cons List.filter_nil List.elem_cons List.elem_nil List.all_cons List.all_nil Option.bind_some Option.map_some Option.some.injEq bne_self_eq_false beq_self_eq_true if_true if_false Bool.false_eq_true true_and and_true and_self Nat.zero_add Nat.add_zero Nat.zero_le Int.toNat_natCast Int.toNat_zero Option.isSome_some List.getElem?_toArray decide_true decide_false ge_iff_le gt_iff_lt Bool.not_true Bool.not_false Nat.le_refl Bool.and_true Bool.true_and Bool.and_false Bool.false_and eVal eRow eRow1 eRows eInt1 eInts eCol eCols eTbl eTbls eFK eFKs eCon eCons eSch eRel eInst eChg eChgs szOf getD_map_lt wrap_nat wrap_in List.take_of_length_le frz_eVal frz_eRow1 frz_eInt1 frz_eCol frz_eTbl frz_eFK frz_eCon frz_eRel frz_eChg noOwn_nil noOwn_cons noOwn_append L.isOwn noOwn_eVal noOwn_eRow1 noOwn_eInt1 noOwn_eCol noOwn_eTbl noOwn_eFK noOwn_eCon noOwn_eRel noOwn_eChg convK_2 convK_3 convK_5 convK_12 convK_21 convK_32 convK_95 convK_119 convK_122 convK_152 convK_169 TT_2 TT_3 TT_4 TT_5 TT_9 TT_12 TT_13 TT_21 TT_22 TT_23 TT_24 TT_25 TT_26 TT_27 TT_28 TT_29 TT_31 TT_32 TT_36 TT_37 TT_42 TT_43 TT_44 TT_48 TT_49 TT_56 TT_61 TT_72 TT_73 TT_74 TT_85 TT_86 TT_89 TT_90 TT_91 TT_92 TT_95 TT_98 TT_113 TT_114 TT_116 TT_117 TT_119 TT_122 TT_145 TT_152 TT_169 boolTy_4 eqK_37 eqK_90 eqK_92 eqK_114
attribute [local congr] VOps.congr VHead.congr VOp.congr VVal.congr pk.congr assignK.congr appK.congr appStd.congr copyK.congr clearK.congr storeK.congr loadK.congr idxK.congr sliceK.congr indexK.congr binK.congr convKk.congr
set_option maxHeartbeats 4000000 in
theorem indexCon_sat (l : List Con) (c : Con) (hlen : l.length ≤ 140737488355328) :
    Sat Tryz.prog 71 [.one (eCons l), .agg (eCon c)] (.v (oI (idx (conEq c) l 0))) := by
  refine sS tyOk Tryz.func71 fun w0 m0 F0 => ?_
  simp only [Tryz.ntmps71, envOf, Nat.reduceAdd]
  repeat' (first | ((with_reducible refine qV tyOk fun K hK => ?_) <;> simp -dsimp (disch := first | exact D | fail) only [go_sem, ↓reduceIte, seval]) | ((with_reducible refine hK _ ?_); clear hK K) | refine Q1 ?_ | fail)
  refine AWP.loop (ι := {k : Nat // k ≤ l.length ∧ idx (conEq c) (l.drop k) k = idx (conEq c) l 0}) (fun k => ⟨19, [(0, .v (.one (eCons l))), (3, .v (.one (.ptr 3 0))), (7, .v (oI l.length)), (8, .v (oI k.1))], [(3, eCon c)], []⟩) (fun k => l.length - k.1) ⟨0, Nat.zero_le _, rfl⟩ ?_ fun ⟨k, hkl, hi⟩ => ?_
  · refine St.le_mk ?_ ?_ ?_ <;> simp only [LE, EN, Nat.reduceEqDiff, reduceIte, Nat.reduceSub]
  repeat' (first | ((first | with_reducible refine qV tyOk fun K hK => ?_ | with_reducible refine yD tyOk mixed 6 (by kernel_rfl) fun K hK => ?_) <;> simp -dsimp (disch := first | exact D | fail) only [go_sem, ↓reduceIte, seval]) | ((with_reducible refine hK _ ?_); clear hK K) | refine Q1 ?_ | ((with_reducible refine qW (T := TT) (b := ?_) ?_ ?_); rotate_left; exact rfl) | ((with_reducible refine yS ?_ ?_) <;> (intro h; try simp only [NM] at h)) | fail)
  all_goals first
    | (have hk : ¬ k < l.length := by omega
       simp -dsimp (disch := first | exact D | fail) only [retQ, Tryz.results71, resVals, cellRV, resOf, St.rest, St.freeze, RT, go_sem, ↓reduceIte, seval]
       rw [← hi, idx_end hk]
       done)
    | (have hk : k < l.length := by omega
       have he : conEq c l[k] = true := by simp_all [conEq, sEq]
       simp -dsimp (disch := first | exact D | fail) only [retQ, Tryz.results71, resVals, cellRV, resOf, St.rest, St.freeze, RT, go_sem, ↓reduceIte, seval]
       rw [← hi, idx_hit hk he]
       done)
    | (have hk : k < l.length := by omega
       have he : conEq c l[k] = false := by simp_all [conEq, sEq]
       refine ⟨⟨k + 1, by omega, by rw [idx_step hk he, hi]⟩, by simp only; omega, ?_⟩
       refine St.le_mk ?_ ?_ ?_ <;> simp only [LE, EN, Nat.reduceEqDiff, reduceIte, Nat.reduceSub]
       )

set_option maxHeartbeats 8000000 in
theorem validateCon_sat (s : Sch) (c : Con) (h1 : s.tables.length ≤ 140737488355328) (h2 : ∀ t ∈ s.tables, t.cols.length ≤ 140737488355328) :
    Sat Tryz.prog 50 [.agg (eSch s), .agg (eCon c)] (.v (oI (conE s c))) := by
  rcases idx_cases (fun t => sEq t.name c.table) s.tables 0 with ⟨e1, _⟩ | ⟨i, hi, e1, _⟩
  · have e1 : tblAt s.tables c.table = -1 := e1
    refine sS tyOk Tryz.func50 fun w0 m0 F0 => ?_
    simp only [Tryz.ntmps50, envOf, Nat.reduceAdd]
    repeat' (first | ((first | with_reducible refine qV tyOk fun K hK => ?_ | ((with_reducible refine CallJ.is ?_); (refine CallJ.pure (findTable_sat _ _ h1) ?_))) <;> simp -dsimp (disch := first | exact D | fail) only [go_sem, ↓reduceIte, seval, e1, mx0_neg]) | ((with_reducible refine hK _ ?_); clear hK K) | refine Q1 ?_ | ((with_reducible refine qW (T := TT) (b := ?_) ?_ ?_); rotate_left; exact rfl) | fail)
    simp -dsimp (disch := first | exact D | fail) only [retQ, Tryz.results50, resVals, cellRV, resOf, St.rest, St.freeze, RT, go_sem, ↓reduceIte, seval]
    simp [conE, e1]
  have e1 : tblAt s.tables c.table = (i : Int) := by unfold tblAt; simpa using e1
  have g1 : s.tables.getD i zTbl = s.tables[i] := by simp [List.getD, hi]
  have spec : conE s c = if c.left < 0 ∨ (s.tables[i].cols.length : Int) ≤ c.left ∨ opOk c.op = false ∨ c.right < -1 ∨ (s.tables[i].cols.length : Int) ≤ c.right ∨ (0 ≤ c.right ∧ c.value ≠ zV) then 3
      else if 0 ≤ c.right then (if (s.tables[i].cols.getD c.left.toNat zCol).kind ≠ (s.tables[i].cols.getD c.right.toNat zCol).kind then 7 else 0)
      else if c.value.kind ≠ (s.tables[i].cols.getD c.left.toNat zCol).kind then 7 else valE c.value := by
    simp only [conE, e1, Int.toNat_natCast, g1]
    rw [if_neg (by omega)]
  rw [spec]
  cases ho : opOk c.op with
  | false =>
    have e3 : satE c.op = 3 := by simp [satE, ho]
    refine sS tyOk Tryz.func50 fun w0 m0 F0 => ?_
    simp only [Tryz.ntmps50, envOf, Nat.reduceAdd]
    repeat' (first | ((first | with_reducible refine qV tyOk fun K hK => ?_ | refine Q2 ?_ | ((with_reducible refine qS ?_ ?_) <;> (intro h; try simp only [NM] at h)) | ((with_reducible refine CallJ.is ?_); (first | refine CallJ.pure (findTable_sat _ _ h1) ?_ | refine CallJ.pure (satisfies_sat zV zV _) ?_))) <;> simp -dsimp (disch := first | exact D | fail) only [go_sem, ↓reduceIte, seval, e1, mx0_neg, mx0_nat, e3]) | ((with_reducible refine hK _ ?_); clear hK K) | refine Q1 ?_ | ((with_reducible refine qW (T := TT) (b := ?_) ?_ ?_); rotate_left; exact rfl) | fail)
    all_goals simp -dsimp (disch := first | exact D | fail) only [retQ, Tryz.results50, resVals, cellRV, resOf, St.rest, St.freeze, RT, go_sem, ↓reduceIte, seval]
    all_goals
      (simp (disch := omega) only [ho, ne_eq, zV_iff, getD_lt]
       (repeat' split) <;> first
         | rfl
         | omega
         | (exfalso; omega)
         | (exfalso; simp_all; done)
         | (simp_all; done)
         | (simp_all; omega)
         | (exfalso; simp_all; omega))
  | true =>
    have e3 : satE c.op = 0 := by simp [satE, ho]
    refine sS tyOk Tryz.func50 fun w0 m0 F0 => ?_
    simp only [Tryz.ntmps50, envOf, Nat.reduceAdd]
    repeat' (first | ((first | with_reducible refine qV tyOk fun K hK => ?_ | refine Q2 ?_ | ((with_reducible refine qS ?_ ?_) <;> (intro h; try simp only [NM] at h)) | with_reducible refine yD tyOk mixed 6 (by kernel_rfl) fun K hK => ?_ | ((with_reducible refine CallJ.is ?_); (first | refine CallJ.pure (findTable_sat _ _ h1) ?_ | refine CallJ.pure (satisfies_sat zV zV _) ?_ | refine CallJ.pure (validate_sat _) ?_))) <;> simp -dsimp (disch := first | exact D | fail) only [go_sem, ↓reduceIte, seval, e1, mx0_neg, mx0_nat, e3]) | ((with_reducible refine hK _ ?_); clear hK K) | refine Q1 ?_ | ((with_reducible refine qW (T := TT) (b := ?_) ?_ ?_); rotate_left; exact rfl) | ((with_reducible refine yS ?_ ?_) <;> (intro h; try simp only [NM] at h)) | fail)
    all_goals simp -dsimp (disch := first | exact D | fail) only [retQ, Tryz.results50, resVals, cellRV, resOf, St.rest, St.freeze, RT, go_sem, ↓reduceIte, seval]
    all_goals
      (simp (disch := omega) only [ho, ne_eq, zV_iff, getD_lt]
       (repeat' split) <;> first
         | rfl
         | omega
         | (exfalso; omega)
         | (exfalso; simp_all; done)
         | (simp_all; done)
         | (simp_all; omega)
         | (exfalso; simp_all; omega))

theorem unused1_sat (f:FK) (t:Tbl) (c:Int) (hl:f.cols.length≤140737488355328):Sat Tryz.prog 146 [.agg (eFK f),.one (.fz (eTbl t)),.one (.fz [.int .i64 c])] (.v (oB (sEq f.table t.name&&f.cols.elem c))):=by
 refine sS tyOk Tryz.func146 fun w0 m0 F0=>?_
 simp only [Tryz.ntmps146,envOf,Nat.reduceAdd]
 repeat' (first|((first|with_reducible refine qV tyOk fun K hK=>?_|refine Q2 ?_|((with_reducible refine qS ?_ ?_)<;>(intro h;try simp only [NM] at h))|((with_reducible refine CallJ.is ?_);(refine CallJ.pure (containsInt_sat f.cols c hl) ?_)))<;>simp -dsimp (disch:=first|exact D|fail) only [go_sem,↓reduceIte,seval])|((with_reducible refine hK _ ?_);clear hK K)|refine Q1 ?_|fail)
 all_goals simp -dsimp (disch:=first|exact D|fail) only [retQ,Tryz.results146,resVals,cellRV,resOf,St.rest,St.freeze,RT,go_sem,↓reduceIte,seval]
 all_goals simp_all [sEq]
set_option maxHeartbeats 16000000 in
theorem deleteFuncTbls_satM (l:List Tbl) (f:FuncId) (q:L) (p:Tbl→Bool) (hp:∀x∈l,Sat Tryz.prog f [.agg (eTbl x),.one (.fz [q])] (.v (oB (p x)))) (hl:l.length≤1048576) :
  SatM Tryz.prog 140 [.one (.ref 1000 0 l.length),.one (.clo f [.fz [q]])] [] [(1000,⟨3,l.map eTbl,[]⟩)] (.v (.one (.ref 4 0 (l.filter fun x=>!p x).length))) [] [(4,⟨3,(l.filter fun x=>!p x).map eTbl++List.replicate (l.length - (l.filter fun x=>!p x).length) zTbls,[]⟩)]:=by
 have ci:=indexFuncTbl_sat l f [.fz [q]] p (by omega) hp
 rcases idx_cases p l 0 with ⟨e1,e2⟩|⟨j0,hj0,e1,e2,e3⟩
 ·rw [e1] at ci
  have ef:(l.filter fun x=>!p x)=l:=List.filter_eq_self.2 fun x hx=>by simp [e2 x hx]
  rw [ef,Nat.sub_self,List.replicate_zero,List.append_nil]
  refine sM tyOk [] [4] Tryz.func140 fun w0 m0 F0=>?_
  simp only [Tryz.ntmps140,envOf,Nat.reduceAdd]
  repeat' (first|((first|with_reducible refine qV tyOk fun K hK=>?_|((with_reducible refine CallJ.is ?_);(((apply CallJ.lentI);(focus (simp -dsimp (disch:=first|exact D|fail) only [go_sem,↓reduceIte,seval];rfl));(focus (first|exact (ci)))))))<;>simp -dsimp (disch:=first|exact D|fail) only [go_sem,↓reduceIte,seval])|((with_reducible refine hK _ ?_);clear hK K)|refine Q1 ?_|((with_reducible refine qW (T:=TT) (b:=?_) ?_ ?_);rotate_left;exact rfl)|fail)
  all_goals simp -dsimp (disch:=first|exact D|fail) only [retQ,Tryz.results140,resVals,cellRV,resOf,St.rest,St.freeze,RT,go_sem,↓reduceIte,seval]
 have e1:idx p l 0=(j0:Int):=by simpa using e1
 rw [e1] at ci
 have k0:=kept_first p l hj0 e2 e3
 have l0:((l.take (j0+1)).filter fun x=>!p x).length=j0:=by rw [k0];simp;omega
 have r0:keptR eTbl p l (j0+1)=l.map eTbl:=by
  unfold keptR
  rw [k0,List.length_take,Nat.min_eq_left (by omega),List.take_append_drop]
 have hne:¬ (j0:Int)=-1:=by omega
 refine sM tyOk [] [4] Tryz.func140 fun w0 m0 F0=>?_
 simp only [Tryz.ntmps140,envOf,Nat.reduceAdd]
 repeat' (first|((first|with_reducible refine qV tyOk fun K hK=>?_|((with_reducible refine CallJ.is ?_);(((apply CallJ.lentI);(focus (simp -dsimp (disch:=first|exact D|fail) only [go_sem,↓reduceIte,seval,hne];rfl));(focus (first|exact (ci)))))))<;>simp -dsimp (disch:=first|exact D|fail) only [go_sem,↓reduceIte,seval,hne])|((with_reducible refine hK _ ?_);clear hK K)|refine Q1 ?_|((with_reducible refine qW (T:=TT) (b:=?_) ?_ ?_);rotate_left;exact rfl)|fail)
 refine AWP.loop (ι:={j:Nat // j0+1≤j∧j≤l.length}) (fun j=>⟨42,[(0,.v (.one (.ref 1000 0 l.length))),(1,.v (.one (.clo f [.fz [q]]))),(5,.v (oI ((l.take j.1).filter fun x=>!p x).length)),(6,.v (oI j.1))],[],[(1000,⟨3,keptR eTbl p l j.1,[]⟩)]⟩) (fun j=>l.length - j.1) ⟨j0+1,Nat.le_refl _,hj0⟩ ?_ fun ⟨j,hj1,hj2⟩=>?_
 ·refine St.le_mk ?_ ?_ ?_<;>simp only [LE,EN,Nat.reduceEqDiff,reduceIte,Nat.reduceSub,r0,l0,Int.natCast_add,Int.natCast_one]
 simp only at hj1 hj2 ⊢
 have kl:=kept_le p l j hj2
 have kn:=keptR_len eTbl p l j hj2
 rcases Nat.lt_or_ge j l.length with hc|hc
 ·have kg:=keptR_get eTbl p l j hc
  have cc:=hp l[j] (List.getElem_mem hc)
  cases hx:p l[j] with
  | true =>
   rw [hx] at cc
   have q1:=keptR_drop eTbl p l j hc hx
   have q2:=kept_drop_len p l j hc hx
   repeat' (first|((first|with_reducible refine qV tyOk fun K hK=>?_|((with_reducible refine CallJ.is ?_);(refine CallJ.pure (cc) ?_)))<;>simp -dsimp (disch:=first|exact D|fail) only [go_sem,↓reduceIte,seval,kn,kg,Option.getD_none])|((with_reducible refine hK _ ?_);clear hK K)|refine Q1 ?_|((with_reducible refine qW (T:=TT) (b:=?_) ?_ ?_);rotate_left;exact rfl)|fail)
   refine ⟨⟨j+1,by omega,by omega⟩,by simp only;omega,?_⟩
   refine St.le_mk ?_ ?_ ?_<;>simp only [LE,EN,Nat.reduceEqDiff,reduceIte,Nat.reduceSub,q1,q2,Int.natCast_add,Int.natCast_one]
  | false =>
   rw [hx] at cc
   have q1:=keptR_keep eTbl p l j hc hx
   have q2:=kept_keep_len p l j hc hx
   have q3:=kept_setL eTbl 3 (fun _=>rfl) p l j hc l[j]
   simp only [eTbl,eCols,eInts] at q1 q3
   repeat' (first|((first|with_reducible refine qV tyOk fun K hK=>?_|((with_reducible refine CallJ.is ?_);(refine CallJ.pure (cc) ?_)))<;>simp -dsimp (disch:=first|exact D|fail) only [go_sem,↓reduceIte,seval,kn,kg,Option.getD_none,q3])|((with_reducible refine hK _ ?_);clear hK K)|refine Q1 ?_|((with_reducible refine qW (T:=TT) (b:=?_) ?_ ?_);rotate_left;exact rfl)|fail)
   refine ⟨⟨j+1,by omega,by omega⟩,by simp only;omega,?_⟩
   refine St.le_mk ?_ ?_ ?_<;>simp only [LE,EN,Nat.reduceEqDiff,reduceIte,Nat.reduceSub,q1,q2,Int.natCast_add,Int.natCast_one]
 ·have hj:j=l.length:=by omega
  subst hj
  have kf:keptR eTbl p l l.length=(l.filter fun x=>!p x).map eTbl++(l.drop (l.filter fun x=>!p x).length).map eTbl:=by
   unfold keptR
   rw [List.take_length,List.map_append]
  rw [List.take_length] at kl ⊢
  have t1:List.take (l.filter fun x=>!p x).length ((l.filter fun x=>!p x).map eTbl++(l.drop (l.filter fun x=>!p x).length).map eTbl)=(l.filter fun x=>!p x).map eTbl:=List.take_left' (by simp)
  have t2:List.drop ((l.filter fun x=>!p x).length+(l.length - (l.filter fun x=>!p x).length)) ((l.filter fun x=>!p x).map eTbl++(l.drop (l.filter fun x=>!p x).length).map eTbl)=[]:=List.drop_of_length_le (by simp)
  repeat' (first|((with_reducible refine qV tyOk fun K hK=>?_)<;>simp -dsimp (disch:=first|exact D|fail) only [go_sem,↓reduceIte,seval,kn])|((with_reducible refine hK _ ?_);clear hK K)|refine Q1 ?_|((with_reducible refine qW (T:=TT) (b:=?_) ?_ ?_);rotate_left;exact rfl)|fail)
  all_goals simp -dsimp (disch:=first|exact D|fail) only [retQ,Tryz.results140,resVals,cellRV,resOf,St.rest,St.freeze,RT,go_sem,↓reduceIte,seval]
  rw [kf]
  simp only [Nat.sub_zero,t1,t2,List.append_nil]
  exact ⟨trivial,rfl⟩
set_option maxHeartbeats 16000000 in
theorem createTable_satM (s:Sch) (t:Tbl) (h1:s.tables.length≤6) (h2:s.fks.length≤1048576) (h3:s.cons.length≤1048576) :
  SatM Tryz.prog 97 [.one (.ptr 1000 0),.agg (eTbl t)] (iB s) (iR s) (.v (oI (rE (createT s t)))) (oBE (createT s t)) (oRE (createT s t)):=by
 have fs:=findTable_sat s t.name (by omega)
 rcases idx_cases (fun u=>sEq u.name t.name) s.tables 0 with ⟨e1,_⟩|⟨j,hj,e1,_,_⟩
 ·have e1:tblAt s.tables t.name=-1:=e1
  rw [e1,mx0_neg] at fs
  have spec:createT s t=.ok (insertT s t):=by unfold createT;rw [if_neg (by omega)]
  rw [spec]
  have it:=insertTable_satM s.tables (s.fks.map eFK) (s.cons.map eCon) s.fks.length s.cons.length t (by omega)
  unfold iB iR oBE oRE oB1 oR1 insertT rE
  simp only
  rw [(ginsS_perm cmpT 0 (s.tables.length+1) (s.tables++[t])).length_eq,List.length_append,List.length_singleton]
  refine sM tyOk [1000] [1,2,3] Tryz.func97 fun w0 m0 F0=>?_
  simp only [Tryz.ntmps97,envOf,Nat.reduceAdd]
  refine AWP.gq ?_
  refine AWP.frzR 1000 rfl ?_
  simp -dsimp (disch:=first|exact D|fail) only [go_sem,↓reduceIte,seval,frzR_mk,frzTblO,frzFKO]
  refine AWP.frzR 1001 rfl ?_
  simp -dsimp (disch:=first|exact D|fail) only [go_sem,↓reduceIte,seval,frzR_mk,frzTblO,frzFKO]
  repeat' (first|((first|with_reducible refine qV tyOk fun K hK=>?_|(refine AWP.isRegion 1 ?_;refine dX tyOk mixed [(0,5)] [(5,[(6,5)],[])] [5] 8 fun K hK=>?_;simp only [SG,segs] at hK ⊢)|((with_reducible refine CallJ.is ?_);refine CallJ.io [(1000,1000)] [(1000,1000),(1001,1001),(1002,1002)] [(1000,1000)] [(11,11),(1001,1001),(1002,1002)] [] [1000,11] [1000,1000] [1000,1001,1002,11,1001,1002] (it) rfl ⟨rfl,rfl,rfl,rfl⟩ ?_ ?_ ?_)|((with_reducible refine CallJ.is ?_);(((apply CallJ.lentI);(focus (simp -dsimp (disch:=first|exact D|fail) only [go_sem,↓reduceIte,seval,okIds_ref,dropL_nil,dropL_nil',dropL_cons];rfl));(focus (first|exact (fs))))))|(with_reducible first|refine VCy.some fun K hK=>?_|refine VCy.step fun K hK=>?_))<;>simp -dsimp (disch:=first|exact D|fail) only [go_sem,↓reduceIte,seval,okIds_ref,dropL_nil,dropL_nil',dropL_cons])|((with_reducible refine hK _ ?_);clear hK K)|(with_reducible refine VCy.intro fun K0 hK0=>?_)|((with_reducible refine VCy.fin ?_);(refine hK0 _ ?_);clear hK0 K0)|(with_reducible refine VCy.quiet ?_)|refine Q1 ?_|((with_reducible refine qW (T:=TT) (b:=?_) ?_ ?_);rotate_left;exact rfl)|fail)
  refine Gq.renR 11 1 rfl rfl (by decide) (.inl (Nat.le_of_ble_eq_true rfl)) ?_
  simp -dsimp (disch:=first|exact D|fail) only [go_sem,↓reduceIte,seval,renR_mk,L.ren,L.ren0]
  refine Gq.renR 1001 2 rfl rfl (by decide) (.inl (Nat.le_of_ble_eq_true rfl)) ?_
  simp -dsimp (disch:=first|exact D|fail) only [go_sem,↓reduceIte,seval,renR_mk,L.ren,L.ren0]
  refine Gq.renR 1002 3 rfl rfl (by decide) (.inl (Nat.le_of_ble_eq_true rfl)) ?_
  simp -dsimp (disch:=first|exact D|fail) only [go_sem,↓reduceIte,seval,renR_mk,L.ren,L.ren0]
  refine Gq.done ?_
  simp -dsimp (disch:=first|exact D|fail) only [retQ,Tryz.results97,resVals,cellRV,resOf,St.rest,St.freeze,RT,go_sem,↓reduceIte,seval]
 ·have e1:tblAt s.tables t.name=(j:Int):=by unfold tblAt;simpa using e1
  rw [e1,mx0_nat] at fs
  have spec:createT s t=.error 5:=by unfold createT;rw [if_pos (by omega)]
  rw [spec]
  unfold iB iR oBE oRE rE
  simp only
  refine sM tyOk [1000] [1,2,3] Tryz.func97 fun w0 m0 F0=>?_
  simp only [Tryz.ntmps97,envOf,Nat.reduceAdd]
  refine AWP.frzR 1000 rfl ?_
  simp -dsimp (disch:=first|exact D|fail) only [go_sem,↓reduceIte,seval,frzR_mk,frzTblO,frzFKO]
  refine AWP.frzR 1001 rfl ?_
  simp -dsimp (disch:=first|exact D|fail) only [go_sem,↓reduceIte,seval,frzR_mk,frzTblO,frzFKO]
  repeat' (first|((first|with_reducible refine qV tyOk fun K hK=>?_|(refine AWP.isRegion 1 ?_;refine dX tyOk mixed [(0,5)] [(5,[(6,5)],[])] [5] 8 fun K hK=>?_;simp only [SG,segs] at hK ⊢)|((with_reducible refine CallJ.is ?_);(((apply CallJ.lentI);(focus (simp -dsimp (disch:=first|exact D|fail) only [go_sem,↓reduceIte,seval];rfl));(focus (first|exact (fs))))))|(with_reducible first|refine VCy.some fun K hK=>?_|refine VCy.step fun K hK=>?_))<;>simp -dsimp (disch:=first|exact D|fail) only [go_sem,↓reduceIte,seval])|((with_reducible refine hK _ ?_);clear hK K)|(with_reducible refine VCy.intro fun K0 hK0=>?_)|((with_reducible refine VCy.fin ?_);(refine hK0 _ ?_);clear hK0 K0)|(with_reducible refine VCy.quiet ?_)|refine Q1 ?_|((with_reducible refine qW (T:=TT) (b:=?_) ?_ ?_);rotate_left;exact rfl)|fail)
  simp -dsimp (disch:=first|exact D|fail) only [retQ,Tryz.results97,resVals,cellRV,resOf,St.rest,St.freeze,RT,go_sem,↓reduceIte,seval]
set_option maxHeartbeats 16000000 in
theorem dropConstraint_satM (s:Sch) (c:Con) (h1:s.tables.length≤1048576) (h2:s.fks.length≤1048576) (h3:s.cons.length≤1048576) :
  SatM Tryz.prog 95 [.one (.ptr 1000 0),.agg (eCon c)] (iB s) (iR s) (.v (oI (rE (dropCon s c)))) (oBE (dropCon s c)) (oRE (dropCon s c)):=by
 have ic:=indexCon_sat s.cons c (by omega)
 rcases idx_cases (conEq c) s.cons 0 with ⟨e1,_⟩|⟨j,hj,e1,_,_⟩
 ·rw [e1] at ic
  have spec:dropCon s c=.error 4:=by unfold dropCon;rw [e1];rfl
  rw [spec]
  unfold iB iR oBE oRE rE
  simp only
  refine sM tyOk [1000] [1,2,3] Tryz.func95 fun w0 m0 F0=>?_
  simp only [Tryz.ntmps95,envOf,Nat.reduceAdd]
  repeat' (first|((first|with_reducible refine qV tyOk fun K hK=>?_|(refine AWP.isRegion 1 ?_;refine dX tyOk mixed [(0,5)] [(5,[(6,1)],[])] [5] 8 fun K hK=>?_;simp only [SG,segs] at hK ⊢)|((with_reducible refine CallJ.is ?_);(((apply CallJ.lentI);(focus (simp -dsimp (disch:=first|exact D|fail) only [go_sem,↓reduceIte,seval];rfl));(focus (first|exact (ic))))))|(with_reducible first|refine VCy.some fun K hK=>?_|refine VCy.step fun K hK=>?_))<;>simp -dsimp (disch:=first|exact D|fail) only [go_sem,↓reduceIte,seval])|((with_reducible refine hK _ ?_);clear hK K)|(with_reducible refine VCy.intro fun K0 hK0=>?_)|((with_reducible refine VCy.fin ?_);(refine hK0 _ ?_);clear hK0 K0)|(with_reducible refine VCy.quiet ?_)|refine Q1 ?_|((with_reducible refine qW (T:=TT) (b:=?_) ?_ ?_);rotate_left;exact rfl)|fail)
  simp -dsimp (disch:=first|exact D|fail) only [retQ,Tryz.results95,resVals,cellRV,resOf,St.rest,St.freeze,RT,go_sem,↓reduceIte,seval]
 ·have e1:idx (conEq c) s.cons 0=(j:Int):=by simpa using e1
  rw [e1] at ic
  have spec:dropCon s c=.ok {s with cons:=s.cons.take j++s.cons.drop (j+1)}:=by
   unfold dropCon
   rw [e1]
   simp only [Int.toNat_natCast]
   rw [if_neg (by omega)]
  rw [spec]
  have dl:=deleteCons_own (s.cons.map eCon) j (by simpa using hj) (by simp;omega) (by rw [noOwn_eCon];trivial)
  rw [List.length_map] at dl
  have cl:=cut_len s.cons j hj
  have cm:=cut_map eCon s.cons j hj [.str ByteArray.empty,.int .i64 0,.str ByteArray.empty,.int .i64 0,.int .i64 0,.int .i64 0,.str ByteArray.empty]
  unfold iB iR oBE oRE oB1 oR1 rE
  simp only [cl]
  refine sM tyOk [1000] [1,2,3] Tryz.func95 fun w0 m0 F0=>?_
  simp only [Tryz.ntmps95,envOf,Nat.reduceAdd]
  refine AWP.gq ?_
  refine AWP.frzR 1000 rfl ?_
  simp -dsimp (disch:=first|exact D|fail) only [go_sem,↓reduceIte,seval,frzR_mk,frzTblO,frzFKO]
  refine AWP.frzR 1001 rfl ?_
  simp -dsimp (disch:=first|exact D|fail) only [go_sem,↓reduceIte,seval,frzR_mk,frzTblO,frzFKO]
  repeat' (first|((first|with_reducible refine qV tyOk fun K hK=>?_|(refine AWP.isRegion 1 ?_;refine dX tyOk mixed [(0,5)] [(5,[(6,1)],[])] [5] 8 fun K hK=>?_;simp only [SG,segs] at hK ⊢)|((with_reducible refine CallJ.is ?_);refine CallJ.io [] [(1000,1002)] [] [(6,22)] [] [1002,22] [] [1002,22] (dl) rfl ⟨rfl,rfl,rfl,rfl⟩ ?_ ?_ ?_)|((with_reducible refine CallJ.is ?_);(((apply CallJ.lentI);(focus (simp -dsimp (disch:=first|exact D|fail) only [go_sem,↓reduceIte,seval,dropL_nil,dropL_nil',dropL_cons];rfl));(focus (first|exact (ic))))))|(with_reducible first|refine VCy.some fun K hK=>?_|refine VCy.step fun K hK=>?_))<;>simp -dsimp (disch:=first|exact D|fail) only [go_sem,↓reduceIte,seval,dropL_nil,dropL_nil',dropL_cons])|((with_reducible refine hK _ ?_);clear hK K)|(with_reducible refine VCy.intro fun K0 hK0=>?_)|((with_reducible refine VCy.fin ?_);(refine hK0 _ ?_);clear hK0 K0)|(with_reducible refine VCy.quiet ?_)|refine Q1 ?_|((with_reducible refine qW (T:=TT) (b:=?_) ?_ ?_);rotate_left;exact rfl)|fail)
  refine Gq.cutR 22 (s.cons.length - 1) rfl rfl (by simp;omega) ?_
  simp -dsimp (disch:=first|exact D|fail) only [go_sem,↓reduceIte,seval]
  refine Gq.renR 1000 1 rfl rfl (by decide) (.inl (Nat.le_of_ble_eq_true rfl)) ?_
  simp -dsimp (disch:=first|exact D|fail) only [go_sem,↓reduceIte,seval,renR_mk,L.ren,L.ren0]
  refine Gq.renR 1001 2 rfl rfl (by decide) (.inl (Nat.le_of_ble_eq_true rfl)) ?_
  simp -dsimp (disch:=first|exact D|fail) only [go_sem,↓reduceIte,seval,renR_mk,L.ren,L.ren0]
  refine Gq.renR 22 3 rfl rfl (by decide) (.inl (Nat.le_of_ble_eq_true rfl)) ?_
  simp -dsimp (disch:=first|exact D|fail) only [go_sem,↓reduceIte,seval,renR_mk,L.ren,L.ren0]
  refine Gq.done ?_
  simp -dsimp (disch:=first|exact D|fail) only [retQ,Tryz.results95,resVals,cellRV,resOf,St.rest,St.freeze,RT,go_sem,↓reduceIte,seval]
  exact congrArg (fun x:List (List L)=>(⟨7,x,[]⟩:RowC)) cm
theorem frzXs_rowT (l:List Tbl) (i:Nat) (t:Tbl):frzXs (rowT l i t)=(l.set i t).map eTbl:=frzTblO _
theorem SmallS.rm {s:Sch} (sm:SmallS s) {i:Nat} (hi:i<s.tables.length) (removed:List Int) (hr:removed.length≤1048576) :
  SatM Tryz.prog 125 [.one (.ptr 1000 0),oI i,.one (eInts removed)] (iB s) (iR s) (.tup []) (iB (removeC s i removed)) (iR (removeC s i removed)):=by
 have b1:=sm.tables
 have b2:=sm.fks
 have b3:=sm.cons
 obtain ⟨t1,t2,t3⟩:=sm.table s.tables[i] (List.getElem_mem hi)
 refine removeColumns_satM s i removed hi hr (by omega) (by omega) (by omega) (by omega) (by omega) (fun c hc=>?_) (fun k hk=>?_) (fun k hk _ c hc=>?_) fun k hk _=>?_
 ·have:=t3 c hc;omega
 ·have:=(sm.fk k hk).1;omega
 ·have:=(sm.fk k hk).2 c hc;omega
 ·have:=sm.con k hk;omega
set_option maxHeartbeats 32000000 in
theorem renameTable_satM (s:Sch) (i:Nat) (name:ByteArray) (hi:i<s.tables.length) (sm:SmallS s) :
  SatM Tryz.prog 98 [.one (.ptr 1000 0),oI i,oS name] (iB s) (iR s) (.v (oI (rE (renameT s i name)))) (oBE (renameT s i name)) (oRE (renameT s i name)):=by
 have b1:=sm.tables
 have b3:=sm.fks
 have b4:=sm.cons
 obtain ⟨t,ht⟩:∃t,s.tables[i]=t:=⟨_,rfl⟩
 have htA:tAt s i=t:=by unfold tAt;rw [getD_lt _ hi,ht]
 have fs:=findTable_sat s name (by omega)
 rcases idx_cases (fun u=>sEq u.name name) s.tables 0 with ⟨e1,_⟩|⟨j,hj,e1,_,_⟩
 case inr =>
  have e1:tblAt s.tables name=(j:Int):=by unfold tblAt;simpa using e1
  rw [e1,mx0_nat] at fs
  have spec:renameT s i name=.error 5:=by unfold renameT;rw [if_pos (by omega)]
  rw [spec]
  unfold iB iR oBE oRE rE
  simp only
  refine sM tyOk [1000] [1,2,3] Tryz.func98 fun w0 m0 F0=>?_
  simp only [Tryz.ntmps98,envOf,Nat.reduceAdd]
  refine AWP.frzR 1000 rfl ?_
  simp -dsimp (disch:=first|exact D|fail) only [go_sem,↓reduceIte,seval,frzR_mk,frzTblO,frzFKO]
  refine AWP.frzR 1001 rfl ?_
  simp -dsimp (disch:=first|exact D|fail) only [go_sem,↓reduceIte,seval,frzR_mk,frzTblO,frzFKO]
  repeat' (first|((first|with_reducible refine qV tyOk fun K hK=>?_|((with_reducible refine CallJ.is ?_);(((apply CallJ.lentI);(focus (simp -dsimp (disch:=first|exact D|fail) only [go_sem,↓reduceIte,seval];rfl));(focus (first|exact (fs)))))))<;>simp -dsimp (disch:=first|exact D|fail) only [go_sem,↓reduceIte,seval])|((with_reducible refine hK _ ?_);clear hK K)|refine Q1 ?_|((with_reducible refine qW (T:=TT) (b:=?_) ?_ ?_);rotate_left;exact rfl)|fail)
  simp -dsimp (disch:=first|exact D|fail) only [retQ,Tryz.results98,resVals,cellRV,resOf,St.rest,St.freeze,RT,go_sem,↓reduceIte,seval]
 have e1:tblAt s.tables name=-1:=e1
 rw [e1,mx0_neg] at fs
 obtain ⟨cut,hcut⟩:∃cut,s.tables.take i++s.tables.drop (i+1)=cut:=⟨_,rfl⟩
 have spec:renameT s i name=.ok ⟨ginsS cmpT 0 (cut.length+1) (cut++[{t with name:=name}]),s.fks.map (renFK t.name name),s.cons.map (renCon t.name name)⟩:=by
  unfold renameT insertT
  rw [if_neg (by omega),htA,hcut]
  rfl
 rw [spec]
 have cl:=cut_len s.tables i hi
 rw [hcut] at cl
 have dl:=deleteTbls_own (s.tables.map eTbl) i (by simpa using hi) (by simp;omega) (by rw [noOwn_eTbl];trivial)
 rw [List.length_map] at dl
 have cm:=cut_map eTbl s.tables i hi [.str ByteArray.empty,.sl 3 [],.sl 1 []]
 rw [hcut] at cm
 have it:=insertTable_satM cut (s.fks.map eFK) (s.cons.map eCon) s.fks.length s.cons.length {t with name:=name} (by omega)
 have pl:=(ginsS_perm cmpT 0 (cut.length+1) (cut++[{t with name:=name}])).length_eq
 rw [List.length_append,List.length_singleton] at pl
 obtain ⟨NT,hNT⟩:∃NT,ginsS cmpT 0 (cut.length+1) (cut++[{t with name:=name}])=NT:=⟨_,rfl⟩
 rw [hNT] at it pl ⊢
 have gi:(s.tables.map eTbl).getD i []=eTbl t:=by rw [getD_map_lt _ _ _ hi,ht]
 unfold iB iR oBE oRE oB1 oR1 rE
 simp only [List.length_map,pl]
 rw [cl] at it ⊢
 refine sM tyOk [1000] [1,2,3] Tryz.func98 fun w0 m0 F0=>?_
 simp only [Tryz.ntmps98,envOf,Nat.reduceAdd]
 refine AWP.gq ?_
 refine AWP.frzR 1000 rfl ?_
 simp -dsimp (disch:=first|exact D|fail) only [go_sem,↓reduceIte,seval,frzR_mk,frzTblO,frzFKO]
 refine AWP.frzR 1001 rfl ?_
 simp -dsimp (disch:=first|exact D|fail) only [go_sem,↓reduceIte,seval,frzR_mk,frzTblO,frzFKO]
 repeat' (first|((first|((fail_if_success (refine AWP.isRegion 7 ?_));(with_reducible refine qV tyOk fun K hK=>?_))|((with_reducible refine CallJ.is ?_);refine CallJ.io [] [(1000,1000)] [] [(6,39)] [] [1000,39] [] [1000,39] (dl) rfl ⟨rfl,rfl,rfl,rfl⟩ ?_ ?_ ?_)|((with_reducible refine CallJ.is ?_);(((apply CallJ.lentI);(focus (simp -dsimp (disch:=first|exact D|fail) only [go_sem,↓reduceIte,seval,gi,Option.getD_none,dropL_nil,dropL_nil',dropL_cons];rfl));(focus (first|exact (fs)))))))<;>simp -dsimp (disch:=first|exact D|fail) only [go_sem,↓reduceIte,seval,gi,Option.getD_none,dropL_nil,dropL_nil',dropL_cons])|((with_reducible refine hK _ ?_);clear hK K)|refine Q1 ?_|((with_reducible refine qW (T:=TT) (b:=?_) ?_ ?_);rotate_left;exact rfl)|fail)
 refine AWP.cutR 39 (s.tables.length - 1) rfl rfl (by simp;omega) ?_
 simp -dsimp (disch:=first|exact D|fail) only [go_sem,↓reduceIte,seval]
 rw [cm]
 repeat' (first|((first|with_reducible refine qV tyOk fun K hK=>?_|((with_reducible refine CallJ.is ?_);refine CallJ.io [(1000,1000)] [(1000,39),(1001,1001),(1002,1002)] [(1000,1000)] [(11,46),(1001,1001),(1002,1002)] [] [39,46] [1000,1000] [39,1001,1002,46,1001,1002] (it) rfl ⟨rfl,rfl,rfl,rfl⟩ ?_ ?_ ?_))<;>simp -dsimp (disch:=first|exact D|fail) only [go_sem,↓reduceIte,seval,okIds_ref,Option.getD_none,dropL_nil,dropL_nil',dropL_cons])|((with_reducible refine hK _ ?_);clear hK K)|refine Q1 ?_|fail)
 refine AWP.loop (ι:={k:Nat // k≤s.fks.length}) (fun k=>⟨119,[(0,.v (.one (.ptr 1000 0))),(2,.v (oS name)),(10,.v (oS t.name)),(51,.v (oI s.fks.length)),(52,.v (oI k.1))],[(1000,[.ref 46 0 (s.tables.length - 1+1),.ref 1001 0 s.fks.length,.ref 1002 0 s.cons.length])],[(46,⟨3,NT.map eTbl,[]⟩),(1001,⟨3,(mix (renFK t.name name) s.fks k.1).map eFK,[]⟩),(1002,⟨7,s.cons.map eCon,[]⟩)]⟩) (fun k=>s.fks.length - k.1) ⟨0,Nat.zero_le _⟩ ?_ fun ⟨k,hkl⟩=>?_
 ·refine St.le_mk ?_ ?_ ?_<;>simp only [LE,EN,Nat.reduceEqDiff,reduceIte,Nat.reduceSub,mix_zero]
 simp only at hkl ⊢
 rcases Nat.lt_or_ge k s.fks.length with hk|hk
 ·have ml:=mix_len (renFK t.name name) s.fks k
  have mg:=mixr_get eFK (renFK t.name name) s.fks k hk
  have ms:=mixr_set eFK (renFK t.name name) s.fks k hk
  have mk:=mix_keep (renFK t.name name) s.fks k hk
  have gs:=fun x=>getD_setL ((mix (renFK t.name name) s.fks k).map eFK) k x [] (by rw [List.length_map,mix_len];exact hk)
  obtain ⟨fb,hfb⟩:∃fb,s.fks[k]=fb:=⟨_,rfl⟩
  rw [hfb] at mg ms mk
  cases h1:sEq fb.table t.name<;>cases h2:sEq fb.ref t.name
  ·have h1':¬ fb.table.toList=t.name.toList:=by simpa [sEq] using h1
   have h2':¬ fb.ref.toList=t.name.toList:=by simpa [sEq] using h2
   have mk:=mk (by unfold renFK ren;rw [h1,h2];rfl)
   repeat' (first|((with_reducible refine qV tyOk fun K hK=>?_)<;>simp -dsimp (disch:=first|exact D|fail) only [go_sem,↓reduceIte,seval,ml,mg,h1',h2',Option.getD_none])|((with_reducible refine hK _ ?_);clear hK K)|refine Q1 ?_|((with_reducible refine qW (T:=TT) (b:=?_) ?_ ?_);rotate_left;exact rfl)|fail)
   refine ⟨⟨k+1,by omega⟩,by simp only;omega,?_⟩
   refine St.le_mk ?_ ?_ ?_<;>simp only [LE,EN,Nat.reduceEqDiff,reduceIte,Nat.reduceSub,mk]
  ·have h1':¬ fb.table.toList=t.name.toList:=by simpa [sEq] using h1
   have h2':fb.ref.toList=t.name.toList:=by simpa [sEq] using h2
   have er:renFK t.name name fb={fb with ref:=name}:=by unfold renFK ren;rw [h1,h2];rfl
   rw [er] at ms
   simp only [eFK,eInts] at ms
   repeat' (first|((with_reducible refine qV tyOk fun K hK=>?_)<;>simp -dsimp (disch:=first|exact D|fail) only [go_sem,↓reduceIte,seval,ml,mg,gs,h1',h2',Option.getD_none,List.set_set,List.length_set])|((with_reducible refine hK _ ?_);clear hK K)|refine Q1 ?_|((with_reducible refine qW (T:=TT) (b:=?_) ?_ ?_);rotate_left;exact rfl)|fail)
   refine ⟨⟨k+1,by omega⟩,by simp only;omega,?_⟩
   refine St.le_mk ?_ ?_ ?_<;>simp only [LE,EN,Nat.reduceEqDiff,reduceIte,Nat.reduceSub,ms]
  ·have h1':fb.table.toList=t.name.toList:=by simpa [sEq] using h1
   have h2':¬ fb.ref.toList=t.name.toList:=by simpa [sEq] using h2
   have er:renFK t.name name fb={fb with table:=name}:=by unfold renFK ren;rw [h1,h2];rfl
   rw [er] at ms
   simp only [eFK,eInts] at ms
   repeat' (first|((with_reducible refine qV tyOk fun K hK=>?_)<;>simp -dsimp (disch:=first|exact D|fail) only [go_sem,↓reduceIte,seval,ml,mg,gs,h1',h2',Option.getD_none,List.set_set,List.length_set])|((with_reducible refine hK _ ?_);clear hK K)|refine Q1 ?_|((with_reducible refine qW (T:=TT) (b:=?_) ?_ ?_);rotate_left;exact rfl)|fail)
   refine ⟨⟨k+1,by omega⟩,by simp only;omega,?_⟩
   refine St.le_mk ?_ ?_ ?_<;>simp only [LE,EN,Nat.reduceEqDiff,reduceIte,Nat.reduceSub,ms]
  ·have h1':fb.table.toList=t.name.toList:=by simpa [sEq] using h1
   have h2':fb.ref.toList=t.name.toList:=by simpa [sEq] using h2
   have er:renFK t.name name fb={fb with table:=name,ref:=name}:=by unfold renFK ren;rw [h1,h2];rfl
   rw [er] at ms
   simp only [eFK,eInts] at ms
   repeat' (first|((with_reducible refine qV tyOk fun K hK=>?_)<;>simp -dsimp (disch:=first|exact D|fail) only [go_sem,↓reduceIte,seval,ml,mg,gs,h1',h2',Option.getD_none,List.set_set,List.length_set])|((with_reducible refine hK _ ?_);clear hK K)|refine Q1 ?_|((with_reducible refine qW (T:=TT) (b:=?_) ?_ ?_);rotate_left;exact rfl)|fail)
   refine ⟨⟨k+1,by omega⟩,by simp only;omega,?_⟩
   refine St.le_mk ?_ ?_ ?_<;>simp only [LE,EN,Nat.reduceEqDiff,reduceIte,Nat.reduceSub,ms]
 have hk:k=s.fks.length:=by omega
 subst hk
 rw [mix_all]
 repeat' (first|((with_reducible refine qV tyOk fun K hK=>?_)<;>simp -dsimp (disch:=first|exact D|fail) only [go_sem,↓reduceIte,seval])|((with_reducible refine hK _ ?_);clear hK K)|refine Q1 ?_|((with_reducible refine qW (T:=TT) (b:=?_) ?_ ?_);rotate_left;exact rfl)|fail)
 refine AWP.loop (ι:={k:Nat // k≤s.cons.length}) (fun k=>⟨119,[(0,.v (.one (.ptr 1000 0))),(2,.v (oS name)),(10,.v (oS t.name)),(96,.v (oI s.cons.length)),(97,.v (oI k.1))],[(1000,[.ref 46 0 (s.tables.length - 1+1),.ref 1001 0 s.fks.length,.ref 1002 0 s.cons.length])],[(46,⟨3,NT.map eTbl,[]⟩),(1001,⟨3,(s.fks.map (renFK t.name name)).map eFK,[]⟩),(1002,⟨7,(mix (renCon t.name name) s.cons k.1).map eCon,[]⟩)]⟩) (fun k=>s.cons.length - k.1) ⟨0,Nat.zero_le _⟩ ?_ fun ⟨k,hkl⟩=>?_
 ·refine St.le_mk ?_ ?_ ?_<;>simp only [LE,EN,Nat.reduceEqDiff,reduceIte,Nat.reduceSub,mix_zero]
 simp only at hkl ⊢
 rcases Nat.lt_or_ge k s.cons.length with hk|hk
 ·have ml:=mix_len (renCon t.name name) s.cons k
  have mg:=mixr_get eCon (renCon t.name name) s.cons k hk
  have ms:=mixr_set eCon (renCon t.name name) s.cons k hk
  have mk:=mix_keep (renCon t.name name) s.cons k hk
  obtain ⟨fb,hfb⟩:∃fb,s.cons[k]=fb:=⟨_,rfl⟩
  rw [hfb] at mg ms mk
  cases h1:sEq fb.table t.name
  ·have h1':¬ fb.table.toList=t.name.toList:=by simpa [sEq] using h1
   have mk:=mk (by unfold renCon ren;rw [h1];rfl)
   repeat' (first|((with_reducible refine qV tyOk fun K hK=>?_)<;>simp -dsimp (disch:=first|exact D|fail) only [go_sem,↓reduceIte,seval,ml,mg,h1',Option.getD_none])|((with_reducible refine hK _ ?_);clear hK K)|refine Q1 ?_|((with_reducible refine qW (T:=TT) (b:=?_) ?_ ?_);rotate_left;exact rfl)|fail)
   refine ⟨⟨k+1,by omega⟩,by simp only;omega,?_⟩
   refine St.le_mk ?_ ?_ ?_<;>simp only [LE,EN,Nat.reduceEqDiff,reduceIte,Nat.reduceSub,mk]
  ·have h1':fb.table.toList=t.name.toList:=by simpa [sEq] using h1
   have er:renCon t.name name fb={fb with table:=name}:=by unfold renCon ren;rw [h1];rfl
   rw [er] at ms
   simp only [eCon] at ms
   repeat' (first|((with_reducible refine qV tyOk fun K hK=>?_)<;>simp -dsimp (disch:=first|exact D|fail) only [go_sem,↓reduceIte,seval,ml,mg,h1',Option.getD_none])|((with_reducible refine hK _ ?_);clear hK K)|refine Q1 ?_|((with_reducible refine qW (T:=TT) (b:=?_) ?_ ?_);rotate_left;exact rfl)|fail)
   refine ⟨⟨k+1,by omega⟩,by simp only;omega,?_⟩
   refine St.le_mk ?_ ?_ ?_<;>simp only [LE,EN,Nat.reduceEqDiff,reduceIte,Nat.reduceSub,ms]
 have hk:k=s.cons.length:=by omega
 subst hk
 rw [mix_all]
 repeat' (first|((with_reducible refine qV tyOk fun K hK=>?_)<;>simp -dsimp (disch:=first|exact D|fail) only [go_sem,↓reduceIte,seval])|((with_reducible refine hK _ ?_);clear hK K)|refine Q1 ?_|((with_reducible refine qW (T:=TT) (b:=?_) ?_ ?_);rotate_left;exact rfl)|fail)
 refine Gq.renR 46 1 rfl rfl (by decide) (.inl (Nat.le_of_ble_eq_true rfl)) ?_
 simp -dsimp (disch:=first|exact D|fail) only [go_sem,↓reduceIte,seval,renR_mk,L.ren,L.ren0]
 refine Gq.renR 1001 2 rfl rfl (by decide) (.inl (Nat.le_of_ble_eq_true rfl)) ?_
 simp -dsimp (disch:=first|exact D|fail) only [go_sem,↓reduceIte,seval,renR_mk,L.ren,L.ren0]
 refine Gq.renR 1002 3 rfl rfl (by decide) (.inl (Nat.le_of_ble_eq_true rfl)) ?_
 simp -dsimp (disch:=first|exact D|fail) only [go_sem,↓reduceIte,seval,renR_mk,L.ren,L.ren0]
 refine Gq.done ?_
 simp -dsimp (disch:=first|exact D|fail) only [retQ,Tryz.results98,resVals,cellRV,resOf,St.rest,St.freeze,RT,go_sem,↓reduceIte,seval]
set_option maxHeartbeats 16000000 in
theorem dropForeignKey_satM (s:Sch) (f:FK) (h1:s.tables.length≤1048576) (h2:s.fks.length≤1048576) (h3:s.cons.length≤1048576) (h4:∀f∈s.fks,f.cols.length≤1048576) :
  SatM Tryz.prog 96 [.one (.ptr 1000 0),.agg (eFK f)] (iB s) (iR s) (.v (oI (rE (dropFK s f)))) (oBE (dropFK s f)) (oRE (dropFK s f)):=by
 have ic:=indexFuncFK_sat s.fks 116 [.fz (eFK f)] (fun o=>fkEq o f) (by omega) fun o ho=>dropFK1_sat o f (by have:=h4 o ho;omega)
 rcases idx_cases (fun o=>fkEq o f) s.fks 0 with ⟨e1,_⟩|⟨j,hj,e1,_,_⟩
 ·rw [e1] at ic
  have spec:dropFK s f=.error 4:=by unfold dropFK;simp only [e1];rfl
  rw [spec]
  unfold iB iR oBE oRE rE
  simp only
  refine sM tyOk [1000] [1,2,3] Tryz.func96 fun w0 m0 F0=>?_
  simp only [Tryz.ntmps96,envOf,Nat.reduceAdd]
  refine AWP.frzR 1001 rfl ?_
  simp -dsimp (disch:=first|exact D|fail) only [go_sem,↓reduceIte,seval,frzR_mk,frzTblO,frzFKO]
  repeat' (first|((first|with_reducible refine qV tyOk fun K hK=>?_|((with_reducible refine CallJ.is ?_);(((apply CallJ.lentI);(focus (simp -dsimp (disch:=first|exact D|fail) only [go_sem,↓reduceIte,seval];rfl));(focus (first|exact (ic)))))))<;>simp -dsimp (disch:=first|exact D|fail) only [go_sem,↓reduceIte,seval])|((with_reducible refine hK _ ?_);clear hK K)|refine Q1 ?_|((with_reducible refine qW (T:=TT) (b:=?_) ?_ ?_);rotate_left;exact rfl)|fail)
  simp -dsimp (disch:=first|exact D|fail) only [retQ,Tryz.results96,resVals,cellRV,resOf,St.rest,St.freeze,RT,go_sem,↓reduceIte,seval]
 ·have e1:idx (fun o=>fkEq o f) s.fks 0=(j:Int):=by simpa using e1
  rw [e1] at ic
  have spec:dropFK s f=.ok {s with fks:=s.fks.take j++s.fks.drop (j+1)}:=by
   unfold dropFK
   simp only [e1,Int.toNat_natCast]
   rw [if_neg (by omega)]
  rw [spec]
  have dl:=deleteFKs_own (s.fks.map eFK) j (by simpa using hj) (by simp;omega) (by rw [noOwn_eFK];trivial)
  rw [List.length_map] at dl
  have cl:=cut_len s.fks j hj
  have cm:=cut_map eFK s.fks j hj [.str ByteArray.empty,.sl 1 [],.str ByteArray.empty]
  unfold iB iR oBE oRE oB1 oR1 rE
  simp only [cl]
  refine sM tyOk [1000] [1,2,3] Tryz.func96 fun w0 m0 F0=>?_
  simp only [Tryz.ntmps96,envOf,Nat.reduceAdd]
  refine AWP.gq ?_
  refine AWP.frzR 1000 rfl ?_
  simp -dsimp (disch:=first|exact D|fail) only [go_sem,↓reduceIte,seval,frzR_mk,frzTblO,frzFKO]
  refine AWP.frzR 1001 rfl ?_
  simp -dsimp (disch:=first|exact D|fail) only [go_sem,↓reduceIte,seval,frzR_mk,frzTblO,frzFKO]
  repeat' (first|((first|with_reducible refine qV tyOk fun K hK=>?_|((with_reducible refine CallJ.is ?_);refine CallJ.io [] [(1000,1001)] [] [(6,22)] [] [1001,22] [] [1001,22] (dl) rfl ⟨rfl,rfl,rfl,rfl⟩ ?_ ?_ ?_)|((with_reducible refine CallJ.is ?_);(((apply CallJ.lentI);(focus (simp -dsimp (disch:=first|exact D|fail) only [go_sem,↓reduceIte,seval,dropL_nil,dropL_nil',dropL_cons];rfl));(focus (first|exact (ic)))))))<;>simp -dsimp (disch:=first|exact D|fail) only [go_sem,↓reduceIte,seval,dropL_nil,dropL_nil',dropL_cons])|((with_reducible refine hK _ ?_);clear hK K)|refine Q1 ?_|((with_reducible refine qW (T:=TT) (b:=?_) ?_ ?_);rotate_left;exact rfl)|fail)
  refine Gq.cutR 22 (s.fks.length - 1) rfl rfl (by simp;omega) ?_
  simp -dsimp (disch:=first|exact D|fail) only [go_sem,↓reduceIte,seval]
  refine Gq.renR 1000 1 rfl rfl (by decide) (.inl (Nat.le_of_ble_eq_true rfl)) ?_
  simp -dsimp (disch:=first|exact D|fail) only [go_sem,↓reduceIte,seval,renR_mk,L.ren,L.ren0]
  refine Gq.renR 22 2 rfl rfl (by decide) (.inl (Nat.le_of_ble_eq_true rfl)) ?_
  simp -dsimp (disch:=first|exact D|fail) only [go_sem,↓reduceIte,seval,renR_mk,L.ren,L.ren0]
  refine Gq.renR 1002 3 rfl rfl (by decide) (.inl (Nat.le_of_ble_eq_true rfl)) ?_
  simp -dsimp (disch:=first|exact D|fail) only [go_sem,↓reduceIte,seval,renR_mk,L.ren,L.ren0]
  refine Gq.done ?_
  simp -dsimp (disch:=first|exact D|fail) only [retQ,Tryz.results96,resVals,cellRV,resOf,St.rest,St.freeze,RT,go_sem,↓reduceIte,seval]
  exact congrArg (fun x:List (List L)=>(⟨3,x,[]⟩:RowC)) cm
end Go.Bw
