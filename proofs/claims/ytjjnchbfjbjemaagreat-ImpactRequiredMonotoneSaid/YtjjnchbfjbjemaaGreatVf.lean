/-
  WHAT IS PROVED HERE, of this translation: chunks_one, validName_sat, bytes_ext, zV_iff, cloneCons_own, deleteFKs_own, deleteCons_own, val_eq, take_eq_succ, get_of_eq, col_eq, con_eq, .., verSchema_ok, noOwn_eHp, elem_natI, sch0, ver0, par0, path0, cloneEdgs_own, goG_snoc, goG_one, verSchemas_ext.
  A theorem that ends in sat says what the function it names returns, whatever the state it is called in; the bounds on its arguments stand ahead of it.
-/
import Derived.Test.YtjjnchbfjbjemaaGreatVd
set_option linter.unusedSimpArgs false
set_option linter.unusedVariables false
namespace Go.Bw
open Go.Proofs
attribute [local go_sem ↓] VOps_nil VOps_cons VOp_callJ VVal_callH VOps_guard GOn_tt GOn_ff GOn_tf GOn_ft GOn_not GOn_none HOn_none HOn_tt HOn_ff HOn_tf HOn_ft HOn_not VHead_nil VHead_cons VHead_guard VVal_move VVal_assign VVal_pickE pickK_true pickK_false VVal_not VVal_neg negK_int VVal_load loadK_fz loadK_ptr loadK_eptr VVal_fieldAddr VVal_field VVal_indexAddr idxK_sl idxK_ref VVal_index indexK_str VVal_extract VVal_binOp binK_one binK_agg VVal_build VVal_buildSlice VVal_makeFunc VVal_slice sliceK_str sliceK_sl sliceK_nil sliceK_ref VVal_slice3 VVal_nilCheck VVal_convert convKk_int convKk_str VVal_len VVal_max VVal_min VOp_assign assignK_int assignK_bool assignK_str assignK_clo assignK_sl assignK_nil assignK_ref assignK_agg assignK_fz assignK_ptr assignK_eptr assignK_any VOp_box VOp_alloc VOp_store storeK_ptr storeK_eptr VOp_buildSlice VOp_append appK_rr appK_rs appK_rn appK_ri appK_nr appK_ns appK_nn appK_ni appStd_eq VOp_copy copyK_ref VOp_clear clearK_ref VOp_cap VOp_eqNil VOp_move VOp_pick VOp_not VOp_neg VOp_load VOp_fieldAddr VOp_field VOp_indexAddr VOp_index VOp_extract VOp_binTmp VOp_binInt VOp_binStr VOp_binPtr VOp_build VOp_makeFunc VOp_slice VOp_nilCheck VOp_convert VOp_len VOp_max VOp_min mO_some mT_some pk_some pk_none look_cons del_cons
attribute [local go_sem] guardB gOf int_bne beq_true beq_false Bool.not_not gSlot pickK_true pickK_false negK_int loadK_fz loadK_ptr loadK_eptr idxK_sl idxK_ref indexK_str binK_one binK_agg sliceK_str sliceK_sl sliceK_nil sliceK_ref convKk_int convKk_str maxL minL assignK_int assignK_bool assignK_str assignK_clo assignK_sl assignK_nil assignK_ref assignK_agg assignK_fz assignK_ptr assignK_eptr assignK_any nilRow_eq takeRow_eq appended_eq storeK_ptr storeK_eptr store_mk appIn_eq appMk_eq marked_eq ovOut_nil ovOut_cons ovIn_nil ovIn_cons padRow_eq ysC capK_nil capK_ref ioSt_mk outB_nil outR_nil outB outR inB_nil inB_cons inR_nil inR_cons L.kl L.kl0 L.ids L.ids0 Option.getD_some evalO constA mO_some mT_some put_mk putO_some putO_none okD_some okD_none pk_some pk_none look_nil del_nil sput noBox_mk noRow_mk newBox_eq newRow0_eq St.killRow RowC.kill rowMap_mk rowOf ovAll ovAdd ovDel ovGet ovShift dstOf ysOf overlay_nil overlay_nil' overlay A.map V.map L.noPtr L.noPtr0 L.noRow L.noRow0 L.peek L.norm L.flat clos_int clos_bool clos_str clos_sl clos_nil clos_any clos_fz L.clos L.isFz L.kd moveL fieldOff eqCells eqCell eqOp oneOf boolOf intOfA tupOf vOf aggOf isPtrLike isSlice lenKind lenL nL elemTI loadV asV binL intBin intDivL shrL boolBin strBin strAdd ptrNil boundN partCells fillL placesOf setL chunks repL capsOf capL callOf argsOf frzV_int frzV_bool frzV_str frzV_sl frzV_nil frzV_fz frzV_any frzV_own frzV_clo frzV_ref frzV_eptr frzV_ptr frzRow_nil frzRow_ov frzRs_nil frzRs_cons frzCs_nil frzCs_cons frzO_some frzO_none frzN_int frzN_bool frzN_str frzN_sl frzN_nil frzN_any frzN_own List.map_cons List.map_nil List.cons_append List.nil_append List.append_nil List.length_cons List.length_nil List.length_map List.length_append List.headD_cons List.tail_cons List.getElem?_cons_zero List.getElem?_cons_succ List.drop_zero List.drop_succ_cons List.drop_nil List.take_succ_cons List.take_zero List.take_nil List.take_length List.filter_cons List.filter_nil List.elem_cons List.elem_nil List.all_cons List.all_nil Option.bind_some Option.map_some Option.some.injEq bne_self_eq_false beq_self_eq_true if_true if_false Bool.false_eq_true true_and and_true and_self Nat.zero_add Nat.add_zero Nat.zero_le Int.toNat_natCast Int.toNat_zero Option.isSome_some List.getElem?_toArray decide_true decide_false ge_iff_le gt_iff_lt Bool.not_true Bool.not_false Nat.le_refl Bool.and_true Bool.true_and Bool.and_false Bool.false_and eVal eRow eRow1 eRows eInt1 eInts eCol eCols eTbl eTbls eFK eFKs eCon eCons eSch eRel eInst eChg eChgs szOf getD_map_lt wrap_nat wrap_in List.take_of_length_le frz_eVal frz_eRow1 frz_eInt1 frz_eCol frz_eTbl frz_eFK frz_eCon frz_eRel frz_eChg noOwn_nil noOwn_cons noOwn_append L.isOwn noOwn_eVal noOwn_eRow1 noOwn_eInt1 noOwn_eCol noOwn_eTbl noOwn_eFK noOwn_eCon noOwn_eRel noOwn_eChg convK_2 convK_3 convK_5 convK_12 convK_21 convK_32 convK_95 convK_119 convK_122 convK_152 convK_169 TT_2 TT_3 TT_4 TT_5 TT_9 TT_12 TT_13 TT_21 TT_22 TT_23 TT_24 TT_25 TT_26 TT_27 TT_28 TT_29 TT_31 TT_32 TT_36 TT_37 TT_42 TT_43 TT_44 TT_48 TT_49 TT_56 TT_61 TT_72 TT_73 TT_74 TT_85 TT_86 TT_89 TT_90 TT_91 TT_92 TT_95 TT_98 TT_113 TT_114 TT_116 TT_117 TT_119 TT_122 TT_145 TT_152 TT_169 boolTy_4 eqK_37 eqK_90 eqK_92 eqK_114
attribute [local congr] VOps.congr VHead.congr VOp.congr VVal.congr pk.congr assignK.congr appK.congr appStd.congr copyK.congr clearK.congr storeK.congr loadK.congr idxK.congr sliceK.congr indexK.congr binK.congr convKk.congr
theorem chunks_one {α:Type} (f:α→L):∀(l:List α),chunks 1 l.length (l.map f)=l.map fun x=>[f x]
 | []=>rfl
 | x::l=>by
  simp only [List.length_cons,List.map_cons,chunks]
  rw [List.drop_succ_cons,List.drop_zero,chunks_one f l]
  rfl
set_option maxHeartbeats 4000000 in
theorem validName_sat (s : ByteArray) : Sat Tryz.prog 65 [oS s] (.v (oB (validName s))) := by
  obtain ⟨⟨bs⟩⟩ := s
  have hsz : (ByteArray.mk (Array.mk bs)).size = bs.length := rfl
  have hdt : (ByteArray.mk (Array.mk bs)).data.toList = bs := rfl
  have e1 : chunks 1 bs.length (bs.map fun b => L.int .u8 (b.toNat : Int)) = bs.map fun b => [L.int .u8 (b.toNat : Int)] := chunks_one _ bs
  unfold validName
  rw [hsz, hdt]
  refine sS tyOk Tryz.func65 fun w0 m0 F0 => ?_
  simp only [Tryz.ntmps65, envOf, Nat.reduceAdd]
  repeat' (first | ((first | with_reducible refine qV tyOk fun K hK => ?_ | refine Q2 ?_ | ((with_reducible refine qS ?_ ?_) <;> (intro h; try simp only [NM] at h))) <;> simp -dsimp (disch := first | exact D | fail) only [go_sem, ↓reduceIte, seval, hsz, hdt, e1]) | ((with_reducible refine hK _ ?_); clear hK K) | refine Q1 ?_ | ((with_reducible refine qW (T := TT) (b := ?_) ?_ ?_); rotate_left; exact rfl) | ((with_reducible refine yS ?_ ?_) <;> (intro h; try simp only [NM] at h)) | fail)
  all_goals first
    | (
       simp -dsimp (disch := first | exact D | fail) only [retQ, Tryz.results65, resVals, cellRV, resOf, St.rest, St.freeze, RT, go_sem, ↓reduceIte, seval]
       simp only [digit]
       first
         | (have : bs.length < 1 := by omega
            simp [this]
            done)
         | (have : 12 < bs.length := by omega
            simp [this]
            done)
         | (have h1 : (48 : Int) ≤ ((bs.getD 0 0).toNat : Int) := by omega
            have h2 : ((bs.getD 0 0).toNat : Int) ≤ 57 := by omega
            simp only [h1, h2, decide_true, Bool.and_true, Bool.or_true, Bool.not_true, Bool.false_and]
            done))
    | (have hd : digit (bs.getD 0 0) = false := by
         simp only [digit, Bool.and_eq_false_imp, decide_eq_true_eq, decide_eq_false_iff_not]
         omega
       have hb : ¬ bs.length < 1 := by omega
       have h12 : ¬ 12 < bs.length := by omega
       refine AWP.loop (ι := {k : Nat // k ≤ bs.length ∧ (bs.drop k).all okByte = bs.all okByte}) (fun k => ⟨45, [(24, .v (.one (.sl 1 (bs.map fun b => [L.int .u8 (b.toNat : Int)])))), (25, .v (oI bs.length)), (26, .v (oI k.1))], [], []⟩) (fun k => bs.length - k.1) ⟨0, Nat.zero_le _, rfl⟩ ?_ fun ⟨k, hkl, hi⟩ => ?_
       · refine St.le_mk ?_ ?_ ?_ <;> simp only [LE, EN, Nat.reduceEqDiff, reduceIte, Nat.reduceSub]
       repeat' (first | ((first | with_reducible refine qV tyOk fun K hK => ?_ | refine Q2 ?_ | ((with_reducible refine qS ?_ ?_) <;> (intro h; try simp only [NM] at h))) <;> simp -dsimp (disch := first | exact D | fail) only [go_sem, ↓reduceIte, seval]) | ((with_reducible refine hK _ ?_); clear hK K) | refine Q1 ?_ | ((with_reducible refine qW (T := TT) (b := ?_) ?_ ?_); rotate_left; exact rfl) | ((with_reducible refine yS ?_ ?_) <;> (intro h; try simp only [NM] at h)) | fail)
       all_goals first
         | (have hk : ¬ k < bs.length := by omega
            simp -dsimp (disch := first | exact D | fail) only [retQ, Tryz.results65, resVals, cellRV, resOf, St.rest, St.freeze, RT, go_sem, ↓reduceIte, seval]
            rw [← hi, List.drop_of_length_le (by omega), hd]
            simp [hb, h12]
            done)
         | (have hk : k < bs.length := by omega
            have hstep : (bs.drop k).all okByte = (okByte bs[k] && (bs.drop (k + 1)).all okByte) := by rw [List.drop_eq_getElem_cons hk, List.all_cons]
            first
              | (have hok : okByte bs[k] = true := by
                   simp only [okByte, Bool.not_eq_true', Bool.and_eq_false_imp, Bool.or_eq_true, Bool.or_eq_false_iff, decide_eq_true_eq, decide_eq_false_iff_not]
                   omega
                 refine ⟨⟨k + 1, by omega, by rw [← hi, hstep, hok]; rfl⟩, by simp only; omega, ?_⟩
                 refine St.le_mk ?_ ?_ ?_ <;> simp only [LE, EN, Nat.reduceEqDiff, reduceIte, Nat.reduceSub]
                 done)
              | (have hok : okByte bs[k] = false := by
                   simp only [okByte, Bool.not_eq_false', Bool.and_eq_true, Bool.or_eq_true, decide_eq_true_eq]
                   omega
                 simp -dsimp (disch := first | exact D | fail) only [retQ, Tryz.results65, resVals, cellRV, resOf, St.rest, St.freeze, RT, go_sem, ↓reduceIte, seval]
                 rw [← hi, hstep, hok]
                 simp)))

theorem bytes_ext {a b:ByteArray} (h:a.toList=b.toList):a=b:=by
 rw [ByteArray.toList_eq,ByteArray.toList_eq] at h
 obtain ⟨⟨x⟩⟩:=a
 obtain ⟨⟨y⟩⟩:=b
 have h:x=y:=h
 rw [h]
theorem zV_iff {v:Val}:v=zV↔v.kind=0∧v.int=0∧v.text.toList=ByteArray.empty.toList:=by
 constructor
 ·rintro rfl
  exact ⟨rfl,rfl,rfl⟩
 ·rintro ⟨a,b,c⟩
  cases v
  simp only at a b c
  subst a b
  rw [bytes_ext c]
  rfl
structure Sch.Fits (s:Sch):Prop where
 tables:s.tables.length≤140737488355328
 table:∀t∈s.tables,t.cols.length≤140737488355328∧t.pk.length≤140737488355328
 fks:s.fks.length≤140737488355328
 fk:∀f∈s.fks,f.cols.length≤140737488355328
 cons:s.cons.length≤140737488355328
set_option maxHeartbeats 8000000 in
theorem cloneCons_own (r:List Con) (h1:r.length≤1099511627776):SatM Tryz.prog 52 [.one (eCons r)] [] [] (.v (.one (.ref 2 0 r.length))) [] [(2,⟨7,r.map eCon,[]⟩)]:=by
 refine sM tyOk [] [2] Tryz.func52 fun w0 m0 F0=>?_
 simp only [Tryz.ntmps52,envOf,Nat.reduceAdd]
 repeat' (first|((with_reducible refine qV tyOk fun K hK=>?_)<;>simp -dsimp (disch:=first|exact D|fail) only [go_sem,↓reduceIte,seval])|((with_reducible refine hK _ ?_);clear hK K)|refine Q1 ?_|fail)
 intro b hb
 refine hK _ ?_
 clear hK K
 repeat' (first|((with_reducible refine qV tyOk fun K hK=>?_)<;>simp -dsimp (disch:=first|exact D|fail) only [go_sem,↓reduceIte,seval])|((with_reducible refine hK _ ?_);clear hK K)|refine Q1 ?_|((with_reducible refine qW (T:=TT) (b:=?_) ?_ ?_);rotate_left;exact rfl)|((with_reducible refine yS ?_ ?_)<;>(intro h;try simp only [NM] at h))|fail)
 all_goals simp -dsimp (disch:=first|exact D|fail) only [retQ,Tryz.results52,resVals,cellRV,resOf,St.rest,St.freeze,RT,go_sem,↓reduceIte,seval]
 have h2:r=[]:=by
  cases r with
  | nil=>rfl
  | cons x r=>exact absurd ((hb _ rfl (by simp)).symm.trans ‹b=true›) (by decide)
 subst h2
 exact ⟨rfl,rfl⟩
set_option maxHeartbeats 8000000 in
theorem deleteFKs_own (xs:List (List L)) (k:Nat) (hk:k<xs.length) (h1:xs.length≤1099511627776) (hno:noOwn xs):SatM Tryz.prog 117 [.one (.ref 1000 0 xs.length),oI k,oI ((k:Int)+1)] [] [(1000,⟨3,xs,[]⟩)] (.v (.one (.ref 6 0 (xs.length - 1)))) [] [(6,⟨3,xs.take k++xs.drop (k+1)++[[.str ByteArray.empty,.sl 1 [],.str ByteArray.empty]],[]⟩)]:=by
 have w1:((k:Int)+1).toNat=k+1:=by omega
 refine sM tyOk [] [6] Tryz.func117 fun w0 m0 F0=>?_
 simp only [Tryz.ntmps117,envOf,Nat.reduceAdd]
 repeat' (first|((with_reducible refine qV tyOk fun K hK=>?_)<;>simp -dsimp (disch:=first|exact D|fail) only [go_sem,↓reduceIte,seval,w1])|((with_reducible refine hK _ ?_);clear hK K)|refine Q1 ?_|((with_reducible refine qW (T:=TT) (b:=?_) ?_ ?_);rotate_left;exact rfl)|fail)
 refine AWP.drawT tyOk mixed 6 8 (by kernel_rfl) rfl rfl fun K hK=>?_
 simp -dsimp (disch:=first|exact D|fail) only [go_sem,↓reduceIte,seval,w1]
 repeat' (first|((with_reducible refine hK _ ?_);clear hK K)|refine Q1 ?_|fail)
 intro K hK
 simp -dsimp (disch:=first|exact D|fail) only [go_sem,↓reduceIte,seval,w1]
 repeat' (first|((with_reducible refine qV tyOk fun K hK=>?_)<;>simp -dsimp (disch:=first|exact D|fail) only [go_sem,↓reduceIte,seval,w1])|((with_reducible refine hK _ ?_);clear hK K)|refine Q1 ?_|fail)
 have e1:k - 0+(xs.length - (k+1))=xs.length - 1:=by omega
 have e2:xs.length - (xs.length - 1)=1:=by omega
 have e3:(xs.take (k - 0)++xs.drop (k+1)++xs.drop (xs.length - 1)).take (xs.length - 1)=xs.take k++xs.drop (k+1):=List.take_left' (by simp;omega)
 have e4:(xs.take (k - 0)++xs.drop (k+1)++xs.drop (xs.length - 1)).drop (xs.length - 1+1)=[]:=List.drop_of_length_le (by simp;omega)
 simp only [e1,e2,e3,e4,List.replicate_succ,List.replicate_zero,List.append_nil]
 simp -dsimp (disch:=first|exact D|fail) only [retQ,Tryz.results117,resVals,cellRV,resOf,St.rest,St.freeze,RT,go_sem,↓reduceIte,seval]
set_option maxHeartbeats 8000000 in
theorem deleteCons_own (xs:List (List L)) (k:Nat) (hk:k<xs.length) (h1:xs.length≤1099511627776) (hno:noOwn xs):SatM Tryz.prog 115 [.one (.ref 1000 0 xs.length),oI k,oI ((k:Int)+1)] [] [(1000,⟨7,xs,[]⟩)] (.v (.one (.ref 6 0 (xs.length - 1)))) [] [(6,⟨7,xs.take k++xs.drop (k+1)++[[.str ByteArray.empty,.int .i64 0,.str ByteArray.empty,.int .i64 0,.int .i64 0,.int .i64 0,.str ByteArray.empty]],[]⟩)]:=by
 have w1:((k:Int)+1).toNat=k+1:=by omega
 refine sM tyOk [] [6] Tryz.func115 fun w0 m0 F0=>?_
 simp only [Tryz.ntmps115,envOf,Nat.reduceAdd]
 repeat' (first|((with_reducible refine qV tyOk fun K hK=>?_)<;>simp -dsimp (disch:=first|exact D|fail) only [go_sem,↓reduceIte,seval,w1])|((with_reducible refine hK _ ?_);clear hK K)|refine Q1 ?_|((with_reducible refine qW (T:=TT) (b:=?_) ?_ ?_);rotate_left;exact rfl)|fail)
 refine AWP.drawT tyOk mixed 6 8 (by kernel_rfl) rfl rfl fun K hK=>?_
 simp -dsimp (disch:=first|exact D|fail) only [go_sem,↓reduceIte,seval,w1]
 repeat' (first|((with_reducible refine hK _ ?_);clear hK K)|refine Q1 ?_|fail)
 intro K hK
 simp -dsimp (disch:=first|exact D|fail) only [go_sem,↓reduceIte,seval,w1]
 repeat' (first|((with_reducible refine qV tyOk fun K hK=>?_)<;>simp -dsimp (disch:=first|exact D|fail) only [go_sem,↓reduceIte,seval,w1])|((with_reducible refine hK _ ?_);clear hK K)|refine Q1 ?_|fail)
 have e1:k - 0+(xs.length - (k+1))=xs.length - 1:=by omega
 have e2:xs.length - (xs.length - 1)=1:=by omega
 have e3:(xs.take (k - 0)++xs.drop (k+1)++xs.drop (xs.length - 1)).take (xs.length - 1)=xs.take k++xs.drop (k+1):=List.take_left' (by simp;omega)
 have e4:(xs.take (k - 0)++xs.drop (k+1)++xs.drop (xs.length - 1)).drop (xs.length - 1+1)=[]:=List.drop_of_length_le (by simp;omega)
 simp only [e1,e2,e3,e4,List.replicate_succ,List.replicate_zero,List.append_nil]
 simp -dsimp (disch:=first|exact D|fail) only [retQ,Tryz.results115,resVals,cellRV,resOf,St.rest,St.freeze,RT,go_sem,↓reduceIte,seval]
theorem val_eq {a b:Val}:a=b↔a.kind=b.kind∧a.int=b.int∧a.text.toList=b.text.toList:=by
 constructor
 ·rintro rfl;exact ⟨rfl,rfl,rfl⟩
 ·rintro ⟨h1,h2,h3⟩
  cases a;cases b
  simp only at h1 h2 h3
  rw [h1,h2,toList_inj h3]
theorem take_eq_succ {α:Type} {a b:List α} {k:Nat} (ha:k<a.length) (hb:k<b.length) (h:a.take k=b.take k) (e:a[k]=b[k]):a.take (k+1)=b.take (k+1):=by
 rw [take_snoc a k ha,take_snoc b k hb,h,e]
theorem get_of_eq {α:Type} {a b:List α} {k:Nat} (ha:k<a.length) (hb:k<b.length) (h:a=b):a[k]=b[k]:=by subst h;rfl
theorem col_eq {a b:Col}:a=b↔a.name.toList=b.name.toList∧a.kind=b.kind∧a.nullable=b.nullable:=by
 constructor
 ·rintro rfl;exact ⟨rfl,rfl,rfl⟩
 ·rintro ⟨h1,h2,h3⟩
  cases a;cases b
  simp only at h1 h2 h3
  rw [toList_inj h1,h2,h3]
theorem con_eq {a b:Con}:a=b↔a.table.toList=b.table.toList∧a.left=b.left∧a.op.toList=b.op.toList∧a.right=b.right∧a.value.kind=b.value.kind∧a.value.int=b.value.int∧a.value.text.toList=b.value.text.toList:=by
 constructor
 ·rintro rfl;exact ⟨rfl,rfl,rfl,rfl,rfl,rfl,rfl⟩
 ·rintro ⟨h1,h2,h3,h4,h5,h6,h7⟩
  cases a;cases b
  simp only at h1 h2 h3 h4 h5 h6 h7
  rw [toList_inj h1,h2,toList_inj h3,h4,val_eq.2 ⟨h5,h6,h7⟩]
theorem fkEq_eq (a b:FK):fkEq a b=decide (a=b):=by
 rw [Bool.eq_iff_iff]
 simp only [fkEq,Bool.and_eq_true,sEq_iff,decide_eq_true_eq]
 constructor
 ·rintro ⟨⟨h1,h2⟩,h3⟩;cases a;cases b;simp_all
 ·rintro rfl;exact ⟨⟨rfl,rfl⟩,rfl⟩
set_option maxHeartbeats 8000000 in
theorem equalCols_sat (a b:List Col) (h1:a.length≤140737488355328) (h2:b.length≤140737488355328):Sat Tryz.prog 55 [.one (eCols a),.one (eCols b)] (.v (oB (decide (a=b)))):=by
 refine sS tyOk Tryz.func55 fun w0 m0 F0=>?_
 simp only [Tryz.ntmps55,envOf,Nat.reduceAdd]
 repeat' (first|((with_reducible refine qV tyOk fun K hK=>?_)<;>simp -dsimp (disch:=first|exact D|fail) only [go_sem,↓reduceIte,seval])|((with_reducible refine hK _ ?_);clear hK K)|refine Q1 ?_|((with_reducible refine qW (T:=TT) (b:=?_) ?_ ?_);rotate_left;exact rfl)|((with_reducible refine yS ?_ ?_)<;>(intro h;try simp only [NM] at h))|fail)
 rotate_left
 ·simp -dsimp (disch:=first|exact D|fail) only [retQ,Tryz.results55,resVals,cellRV,resOf,St.rest,St.freeze,RT,go_sem,↓reduceIte,seval]
  have hn:¬ a=b:=fun e=>by rw [e] at h;exact h rfl
  simp [hn]
 have hl:a.length=b.length:=by omega
 refine AWP.loop (ι:={k:Nat // k≤a.length∧a.take k=b.take k}) (fun k=>⟨26,[(0,.v (.one (eCols a))),(1,.v (.one (eCols b))),(12,.v (oI a.length)),(13,.v (oI k.1))],[],[]⟩) (fun k=>a.length - k.1) ⟨0,Nat.zero_le _,rfl⟩ ?_ fun ⟨k,hkl,hi⟩=>?_
 ·refine St.le_mk ?_ ?_ ?_<;>simp only [LE,EN,Nat.reduceEqDiff,reduceIte,Nat.reduceSub]
 rcases Nat.lt_or_ge k a.length with hc|hc
 ·have hb:k<b.length:=by omega
  repeat' (first|((first|with_reducible refine qV tyOk fun K hK=>?_|with_reducible refine yD tyOk mixed 6 (by kernel_rfl) fun K hK=>?_)<;>simp -dsimp (disch:=first|exact D|fail) only [go_sem,↓reduceIte,seval])|((with_reducible refine hK _ ?_);clear hK K)|refine Q1 ?_|((with_reducible refine qW (T:=TT) (b:=?_) ?_ ?_);rotate_left;exact rfl)|((with_reducible refine yS ?_ ?_)<;>(intro h;try simp only [NM] at h))|fail)
  ·refine ⟨⟨k+1,by omega,take_eq_succ hc hb hi (col_eq.2 h)⟩,by simp only;omega,?_⟩
   refine St.le_mk ?_ ?_ ?_<;>simp only [LE,EN,Nat.reduceEqDiff,reduceIte,Nat.reduceSub]
  ·simp -dsimp (disch:=first|exact D|fail) only [retQ,Tryz.results55,resVals,cellRV,resOf,St.rest,St.freeze,RT,go_sem,↓reduceIte,seval]
   have hn:¬ a=b:=fun e=>by
    obtain ⟨e1,e2,e3⟩:=col_eq.1 (get_of_eq hc hb e)
    simp_all
   simp [hn]
 ·have hk:a=b:=by
   rw [List.take_of_length_le (by omega),List.take_of_length_le (by omega)] at hi
   exact hi
  repeat' (first|((with_reducible refine qV tyOk fun K hK=>?_)<;>simp -dsimp (disch:=first|exact D|fail) only [go_sem,↓reduceIte,seval])|((with_reducible refine hK _ ?_);clear hK K)|refine Q1 ?_|((with_reducible refine qW (T:=TT) (b:=?_) ?_ ?_);rotate_left;exact rfl)|fail)
  simp -dsimp (disch:=first|exact D|fail) only [retQ,Tryz.results55,resVals,cellRV,resOf,St.rest,St.freeze,RT,go_sem,↓reduceIte,seval]
  simp [hk]
set_option maxHeartbeats 8000000 in
theorem equalCons_sat (a b:List Con) (h1:a.length≤140737488355328) (h2:b.length≤140737488355328):Sat Tryz.prog 39 [.one (eCons a),.one (eCons b)] (.v (oB (decide (a=b)))):=by
 refine sS tyOk Tryz.func39 fun w0 m0 F0=>?_
 simp only [Tryz.ntmps39,envOf,Nat.reduceAdd]
 repeat' (first|((with_reducible refine qV tyOk fun K hK=>?_)<;>simp -dsimp (disch:=first|exact D|fail) only [go_sem,↓reduceIte,seval])|((with_reducible refine hK _ ?_);clear hK K)|refine Q1 ?_|((with_reducible refine qW (T:=TT) (b:=?_) ?_ ?_);rotate_left;exact rfl)|((with_reducible refine yS ?_ ?_)<;>(intro h;try simp only [NM] at h))|fail)
 rotate_left
 ·simp -dsimp (disch:=first|exact D|fail) only [retQ,Tryz.results39,resVals,cellRV,resOf,St.rest,St.freeze,RT,go_sem,↓reduceIte,seval]
  have hn:¬ a=b:=fun e=>by rw [e] at h;exact h rfl
  simp [hn]
 have hl:a.length=b.length:=by omega
 refine AWP.loop (ι:={k:Nat // k≤a.length∧a.take k=b.take k}) (fun k=>⟨26,[(0,.v (.one (eCons a))),(1,.v (.one (eCons b))),(12,.v (oI a.length)),(13,.v (oI k.1))],[],[]⟩) (fun k=>a.length - k.1) ⟨0,Nat.zero_le _,rfl⟩ ?_ fun ⟨k,hkl,hi⟩=>?_
 ·refine St.le_mk ?_ ?_ ?_<;>simp only [LE,EN,Nat.reduceEqDiff,reduceIte,Nat.reduceSub]
 rcases Nat.lt_or_ge k a.length with hc|hc
 ·have hb:k<b.length:=by omega
  repeat' (first|((first|with_reducible refine qV tyOk fun K hK=>?_|with_reducible refine yD tyOk mixed 6 (by kernel_rfl) fun K hK=>?_)<;>simp -dsimp (disch:=first|exact D|fail) only [go_sem,↓reduceIte,seval])|((with_reducible refine hK _ ?_);clear hK K)|refine Q1 ?_|((with_reducible refine qW (T:=TT) (b:=?_) ?_ ?_);rotate_left;exact rfl)|((with_reducible refine yS ?_ ?_)<;>(intro h;try simp only [NM] at h))|fail)
  ·refine ⟨⟨k+1,by omega,take_eq_succ hc hb hi (con_eq.2 h)⟩,by simp only;omega,?_⟩
   refine St.le_mk ?_ ?_ ?_<;>simp only [LE,EN,Nat.reduceEqDiff,reduceIte,Nat.reduceSub]
  ·simp -dsimp (disch:=first|exact D|fail) only [retQ,Tryz.results39,resVals,cellRV,resOf,St.rest,St.freeze,RT,go_sem,↓reduceIte,seval]
   have hn:¬ a=b:=fun e=>by
    obtain ⟨e1,e2,e3,e4,e5,e6,e7⟩:=con_eq.1 (get_of_eq hc hb e)
    simp_all
   simp [hn]
 ·have hk:a=b:=by
   rw [List.take_of_length_le (by omega),List.take_of_length_le (by omega)] at hi
   exact hi
  repeat' (first|((with_reducible refine qV tyOk fun K hK=>?_)<;>simp -dsimp (disch:=first|exact D|fail) only [go_sem,↓reduceIte,seval])|((with_reducible refine hK _ ?_);clear hK K)|refine Q1 ?_|((with_reducible refine qW (T:=TT) (b:=?_) ?_ ?_);rotate_left;exact rfl)|fail)
  simp -dsimp (disch:=first|exact D|fail) only [retQ,Tryz.results39,resVals,cellRV,resOf,St.rest,St.freeze,RT,go_sem,↓reduceIte,seval]
  simp [hk]
def modR (n m:Int):Int:=if n.tmod m<0 then n.tmod m+m else n.tmod m
theorem mod_sat (n m:Int) (hm:0<m) (hb:m≤9223372036854775807):Sat Tryz.prog 35 [oI n,oI m] (.v (oI (modR n m))):=by
 have h1:=Int.tmod_lt_of_pos n hm
 have h2:-m<n.tmod m:=by
  have:=Int.tmod_lt_of_pos (-n) hm
  rw [Int.neg_tmod] at this
  omega
 refine sS tyOk Tryz.func35 fun w0 m0 F0=>?_
 simp only [Tryz.ntmps35,envOf,Nat.reduceAdd]
 repeat' (first|((with_reducible refine qV tyOk fun K hK=>?_)<;>simp -dsimp (disch:=first|exact D|fail) only [go_sem,↓reduceIte,seval])|((with_reducible refine hK _ ?_);clear hK K)|refine Q1 ?_|((with_reducible refine qW (T:=TT) (b:=?_) ?_ ?_);rotate_left;exact rfl)|((with_reducible refine yS ?_ ?_)<;>(intro h;try simp only [NM] at h))|fail)
 ·simp -dsimp (disch:=first|exact D|fail) only [retQ,Tryz.results35,resVals,cellRV,resOf,St.rest,St.freeze,RT,go_sem,↓reduceIte,seval]
  rw [modR,if_pos h]
 ·simp -dsimp (disch:=first|exact D|fail) only [retQ,Tryz.results35,resVals,cellRV,resOf,St.rest,St.freeze,RT,go_sem,↓reduceIte,seval]
  rw [modR,if_neg (by omega)]
theorem pick_sat (n m:Int) (hm:0<m) (hb:m≤9223372036854775807):Sat Tryz.prog 16 [oI n,oI m] (.v (oI (modR n m))):=by
 refine sS tyOk Tryz.func16 fun w0 m0 F0=>?_
 simp only [Tryz.ntmps16,envOf,Nat.reduceAdd]
 repeat' (first|((first|with_reducible refine qV tyOk fun K hK=>?_|((with_reducible refine CallJ.is ?_);(refine CallJ.pure (mod_sat n m hm hb) ?_)))<;>simp -dsimp (disch:=first|exact D|fail) only [go_sem,↓reduceIte,seval])|((with_reducible refine hK _ ?_);clear hK K)|refine Q1 ?_|fail)
 simp -dsimp (disch:=first|exact D|fail) only [retQ,Tryz.results16,resVals,cellRV,resOf,St.rest,St.freeze,RT,go_sem,↓reduceIte,seval]
structure Stp.Fits (s:Stp):Prop where
 cols:s.cols.length * 8≤140737488355328
 ncols:s.newTable.cols.length * 32≤140737488355328
 npk:s.newTable.pk.length * 8≤140737488355328
 fk:s.fk.cols.length * 8≤140737488355328
set_option maxHeartbeats 8000000 in
theorem cloneColsB_own (r:List Col) (h1:r.length * 32≤140737488355328):SatM Tryz.prog 72 [.one (eCols r)] [] [] (.v (.one (.ref 2 0 r.length))) [] [(2,⟨3,r.map eCol,[]⟩)]:=by
 refine sM tyOk [] [2] Tryz.func72 fun w0 m0 F0=>?_
 simp only [Tryz.ntmps72,envOf,Nat.reduceAdd]
 repeat' (first|((with_reducible refine qV tyOk fun K hK=>?_)<;>simp -dsimp (disch:=first|exact D|fail) only [go_sem,↓reduceIte,seval])|((with_reducible refine hK _ ?_);clear hK K)|refine Q1 ?_|fail)
 intro b hb
 refine hK _ ?_
 clear hK K
 repeat' (first|((with_reducible refine qV tyOk fun K hK=>?_)<;>simp -dsimp (disch:=first|exact D|fail) only [go_sem,↓reduceIte,seval])|((with_reducible refine hK _ ?_);clear hK K)|refine Q1 ?_|((with_reducible refine qW (T:=TT) (b:=?_) ?_ ?_);rotate_left;exact rfl)|((with_reducible refine yS ?_ ?_)<;>(intro h;try simp only [NM] at h))|fail)
 all_goals simp -dsimp (disch:=first|exact D|fail) only [retQ,Tryz.results72,resVals,cellRV,resOf,St.rest,St.freeze,RT,go_sem,↓reduceIte,seval]
 have h2:r=[]:=by
  cases r with
  | nil=>rfl
  | cons x r=>exact absurd ((hb _ rfl (by simp)).symm.trans ‹b=true›) (by decide)
 subst h2
 exact ⟨rfl,rfl⟩
theorem cloneColsB_sat (r:List Col) (h1:r.length * 32≤140737488355328):Sat Tryz.prog 72 [.one (eCols r)] (.v (.one (eCols r))) :=
 (cloneColsB_own r h1).frz (by
  simp -dsimp (disch:=first|exact D|fail) only [go_sem,↓reduceIte,seval,topL_ref,St.rest,roots,dropL_nil,eCols]
  )
set_option maxHeartbeats 8000000 in
theorem cloneIntsB_own (r:List Int) (h1:r.length * 8≤140737488355328):SatM Tryz.prog 54 [.one (eInts r)] [] [] (.v (.one (.ref 2 0 r.length))) [] [(2,⟨1,r.map eInt1,[]⟩)]:=by
 refine sM tyOk [] [2] Tryz.func54 fun w0 m0 F0=>?_
 simp only [Tryz.ntmps54,envOf,Nat.reduceAdd]
 repeat' (first|((with_reducible refine qV tyOk fun K hK=>?_)<;>simp -dsimp (disch:=first|exact D|fail) only [go_sem,↓reduceIte,seval])|((with_reducible refine hK _ ?_);clear hK K)|refine Q1 ?_|fail)
 intro b hb
 refine hK _ ?_
 clear hK K
 repeat' (first|((with_reducible refine qV tyOk fun K hK=>?_)<;>simp -dsimp (disch:=first|exact D|fail) only [go_sem,↓reduceIte,seval])|((with_reducible refine hK _ ?_);clear hK K)|refine Q1 ?_|((with_reducible refine qW (T:=TT) (b:=?_) ?_ ?_);rotate_left;exact rfl)|((with_reducible refine yS ?_ ?_)<;>(intro h;try simp only [NM] at h))|fail)
 all_goals simp -dsimp (disch:=first|exact D|fail) only [retQ,Tryz.results54,resVals,cellRV,resOf,St.rest,St.freeze,RT,go_sem,↓reduceIte,seval]
 have h2:r=[]:=by
  cases r with
  | nil=>rfl
  | cons x r=>exact absurd ((hb _ rfl (by simp)).symm.trans ‹b=true›) (by decide)
 subst h2
 exact ⟨rfl,rfl⟩
theorem cloneIntsB_sat (r:List Int) (h1:r.length * 8≤140737488355328):Sat Tryz.prog 54 [.one (eInts r)] (.v (.one (eInts r))) :=
 (cloneIntsB_own r h1).frz (by
  simp -dsimp (disch:=first|exact D|fail) only [go_sem,↓reduceIte,seval,topL_ref,St.rest,roots,dropL_nil,eInts]
  )
set_option maxHeartbeats 8000000 in
theorem cloneTableB_sat (t:Tbl) (h1:t.cols.length * 32≤140737488355328) (h2:t.pk.length * 8≤140737488355328):Sat Tryz.prog 53 [.agg (eTbl t)] (.v (.agg (eTbl t))):=by
 refine sS tyOk Tryz.func53 fun w0 m0 F0=>?_
 simp only [Tryz.ntmps53,envOf,Nat.reduceAdd]
 repeat' (first|((with_reducible refine qV tyOk fun K hK=>?_)<;>simp -dsimp (disch:=first|exact D|fail) only [go_sem,↓reduceIte,seval])|((with_reducible refine hK _ ?_);clear hK K)|refine Q1 ?_|fail)
 refine dX tyOk mixed [(0,4),(5,2)] [(4,[],[(0,2),(5,2)]),(7,[(8,1)],[(0,2)]),(9,[],[])] [4,7,9] 8 fun K hK=>?_
 simp only [SG,segs] at hK ⊢
 simp -dsimp (disch:=first|exact D|fail) only [go_sem,↓reduceIte,seval,Option.getD_none]
 repeat' (first|((first|((with_reducible refine CallJ.is ?_);(first|refine CallJ.pure (cloneColsB_sat t.cols h1) ?_|refine CallJ.pure (cloneIntsB_sat t.pk h2) ?_))|(with_reducible first|refine VCy.some fun K hK=>?_|refine VCy.step fun K hK=>?_))<;>simp -dsimp (disch:=first|exact D|fail) only [go_sem,↓reduceIte,seval])|((with_reducible refine hK _ ?_);clear hK K)|(with_reducible refine VCy.intro fun K0 hK0=>?_)|((with_reducible refine VCy.fin ?_);(refine hK0 _ ?_);clear hK0 K0)|(with_reducible first|refine VCy.quiet ?_|refine VCy.none ?_)|((with_reducible refine VCy.keep ?_ ?_);focus ((simp -dsimp (disch:=first|exact D|fail) only [go_sem,↓reduceIte,seval,Stable_cons,Stable_nil,sameA_some,sameA_none]);first|done|exact E|fail))|refine Q1 ?_|fail)
 simp -dsimp (disch:=first|exact D|fail) only [retQ,Tryz.results53,resVals,cellRV,resOf,St.rest,St.freeze,RT,go_sem,↓reduceIte,seval]
set_option maxHeartbeats 8000000 in
theorem stpClone_sat (s:Stp) (h:s.Fits):Sat Tryz.prog 57 [.agg (eStp s)] (.v (.agg (eStp s))):=by
 have h1:=h.cols
 have h2:=h.ncols
 have h3:=h.npk
 have h4:=h.fk
 have c2:=cloneTableB_sat s.newTable h2 h3
 simp only [eTbl] at c2
 refine sS tyOk Tryz.func57 fun w0 m0 F0=>?_
 simp only [Tryz.ntmps57,envOf,Nat.reduceAdd]
 repeat' (first|((first|with_reducible refine qV tyOk fun K hK=>?_|((with_reducible refine CallJ.is ?_);(first|refine CallJ.pure (cloneIntsB_sat s.cols h1) ?_|refine CallJ.pure (c2) ?_|refine CallJ.pure (cloneIntsB_sat s.fk.cols h4) ?_)))<;>simp -dsimp (disch:=first|exact D|fail) only [go_sem,↓reduceIte,seval,eStp])|((with_reducible refine hK _ ?_);clear hK K)|refine Q1 ?_|fail)
 simp -dsimp (disch:=first|exact D|fail) only [retQ,Tryz.results57,resVals,cellRV,resOf,St.rest,St.freeze,RT,go_sem,↓reduceIte,seval]
 simp only [eStp,eInts,eCols]
set_option maxHeartbeats 16000000 in
theorem normalized_sat (s:Stp):Sat Tryz.prog 94 [.agg (eStp s)] (.v (.agg (eStp (evNorm s)))):=by
 refine sS tyOk Tryz.func94 fun w0 m0 F0=>?_
 simp only [Tryz.ntmps94,envOf,Nat.reduceAdd]
 repeat' (first|((first|with_reducible refine qV tyOk fun K hK=>?_|(refine AWP.isRegion 4 ?_;refine dX tyOk mixed [(0,7)] [(7,[(8,1)],[(2,4)]),(9,[(10,1)],[(4,2)]),(11,[],[])] [7,9,11] 8 fun K hK=>?_;simp only [SG,segs] at hK ⊢)|(refine AWP.isRegion 6 ?_;refine dX tyOk mixed [(0,5)] [(5,[(6,1)],[(2,2)]),(7,[],[])] [5,7] 8 fun K hK=>?_;simp only [SG,segs] at hK ⊢)|(refine AWP.isRegion 8 ?_;refine dX tyOk mixed [(0,5)] [(5,[(6,1)],[(2,2)]),(7,[],[])] [5,7] 8 fun K hK=>?_;simp only [SG,segs] at hK ⊢)|(refine AWP.isRegion 12 ?_;refine dX tyOk mixed [(0,5)] [(5,[(6,1)],[(2,2)]),(7,[],[])] [5,7] 8 fun K hK=>?_;simp only [SG,segs] at hK ⊢)|(refine AWP.isRegion 14 ?_;refine dX tyOk mixed [(0,5)] [(5,[(6,1)],[(2,2)]),(7,[],[])] [5,7] 8 fun K hK=>?_;simp only [SG,segs] at hK ⊢)|(refine AWP.isRegion 18 ?_;refine dX tyOk mixed [(0,9)] [(9,[(10,1)],[(2,6)]),(11,[(12,1)],[(4,4)]),(13,[(14,1)],[(6,2)]),(15,[],[])] [9,11,13,15] 8 fun K hK=>?_;simp only [SG,segs] at hK ⊢)|(refine AWP.isRegion 20 ?_;refine dX tyOk mixed [(0,5)] [(5,[(6,1)],[(2,2)]),(7,[],[])] [5,7] 8 fun K hK=>?_;simp only [SG,segs] at hK ⊢)|(refine AWP.isRegion 22 ?_;refine dX tyOk mixed [(0,3)] [(3,[(4,1)],[(0,2)]),(5,[],[])] [3,5] 8 fun K hK=>?_;simp only [SG,segs] at hK ⊢)|(refine AWP.isRegion 24 ?_;refine dX tyOk mixed [(0,5)] [(5,[(6,1)],[(2,2)]),(7,[],[])] [5,7] 8 fun K hK=>?_;simp only [SG,segs] at hK ⊢)|(refine AWP.isRegion 27 ?_;refine dX tyOk mixed [(0,3)] [(3,[(4,1)],[(0,2)]),(5,[],[])] [3,5] 8 fun K hK=>?_;simp only [SG,segs] at hK ⊢)|(refine AWP.isRegion 30 ?_;refine dX tyOk mixed [(0,3)] [(3,[(4,1)],[(0,2)]),(5,[],[])] [3,5] 8 fun K hK=>?_;simp only [SG,segs] at hK ⊢)|(with_reducible first|refine VCy.some fun K hK=>?_|refine VCy.step fun K hK=>?_))<;>simp -dsimp (disch:=first|exact D|fail) only [go_sem,↓reduceIte,seval,eStp])|((with_reducible refine hK _ ?_);clear hK K)|(with_reducible refine VCy.intro fun K0 hK0=>?_)|((with_reducible refine VCy.fin ?_);(refine hK0 _ ?_);clear hK0 K0)|(with_reducible first|refine VCy.quiet ?_|refine VCy.none ?_)|((with_reducible refine VCy.keep ?_ ?_);focus ((simp -dsimp (disch:=first|exact D|fail) only [go_sem,↓reduceIte,seval,Stable_cons,Stable_nil,sameA_some,sameA_none,eStp]);first|done|exact E|fail))|refine Q1 ?_|((with_reducible refine qW (T:=TT) (b:=?_) ?_ ?_);rotate_left;exact rfl)|((with_reducible refine yS ?_ ?_)<;>(intro h;try simp only [NM] at h))|fail)
 all_goals simp -dsimp (disch:=first|exact D|fail) only [retQ,Tryz.results94,resVals,cellRV,resOf,St.rest,St.freeze,RT,go_sem,↓reduceIte,seval]
 all_goals try simp [evNorm,eStp,zStp,zCon,zFK,eInts,eCols, *]
 all_goals rfl
theorem stp_eq {a b:Stp}:a=b↔a.kind=b.kind∧a.table.toList=b.table.toList∧a.other.toList=b.other.toList∧a.column.toList=b.column.toList∧a.newName.toList=b.newName.toList∧a.typ=b.typ∧a.cols=b.cols∧a.op.toList=b.op.toList ∧
  (a.value.kind=b.value.kind∧a.value.int=b.value.int∧a.value.text.toList=b.value.text.toList)∧a.newTable=b.newTable ∧
  (a.con.table.toList=b.con.table.toList∧a.con.left=b.con.left∧a.con.op.toList=b.con.op.toList∧a.con.right=b.con.right∧a.con.value.kind=b.con.value.kind∧a.con.value.int=b.con.value.int∧a.con.value.text.toList=b.con.value.text.toList)∧a.fk=b.fk:=by
 constructor
 ·rintro rfl
  simp
 ·rintro ⟨h1,h2,h3,h4,h5,h6,h7,h8,h9,h10,h11,h12⟩
  have h9:=val_eq.2 h9
  have h11:=con_eq.2 h11
  cases a
  cases b
  simp only at *
  subst h1 h6 h7 h9 h10 h11 h12
  rw [bytes_ext h2,bytes_ext h3,bytes_ext h4,bytes_ext h5,bytes_ext h8]
theorem Sch.Fits.sub {s:Sch} (h:s.Fits) {fks:List FK} {cons:List Con} (hf:fks.Sublist s.fks) (hc:cons.Sublist s.cons):(⟨s.tables,fks,cons⟩:Sch).Fits :=
 ⟨h.tables,h.table,Nat.le_trans hf.length_le h.fks,fun f hf'=>h.fk f (hf.subset hf'),Nat.le_trans hc.length_le h.cons⟩
section
abbrev IntOk (n:Int):Prop:=(Lit.int .i64 n).wf=true
structure Val.Ok (v:Val):Prop where
 kind:IntOk v.kind
 int:IntOk v.int
 text:v.text.size≤reachBytes
structure Col.Ok (c:Col):Prop where
 name:c.name.size≤reachBytes
 kind:IntOk c.kind
structure Tbl.Ok (t:Tbl):Prop where
 name:t.name.size≤reachBytes
 cols:t.cols.length * 32≤reachBytes∧∀c∈t.cols,c.Ok
 pk:t.pk.length * 8≤reachBytes∧∀n∈t.pk,IntOk n
structure FK.Ok (f:FK):Prop where
 table:f.table.size≤reachBytes
 cols:f.cols.length * 8≤reachBytes∧∀n∈f.cols,IntOk n
 ref:f.ref.size≤reachBytes
structure Con.Ok (c:Con):Prop where
 table:c.table.size≤reachBytes
 left:IntOk c.left
 op:c.op.size≤reachBytes
 right:IntOk c.right
 value:c.value.Ok
structure Sch.Ok (s:Sch):Prop where
 tables:s.tables.length * 64≤reachBytes∧∀t∈s.tables,t.Ok
 fks:s.fks.length * 56≤reachBytes∧∀f∈s.fks,f.Ok
 cons:s.cons.length * 80≤reachBytes∧∀c∈s.cons,c.Ok
def Row.Ok (r:Row):Prop:=r.length * 32≤reachBytes∧∀v∈r,v.Ok
def RowsOk (rs:List Row):Prop:=rs.length * 24≤reachBytes∧∀r∈rs,Row.Ok r
structure Rel.Ok (r:Rel):Prop where
 table:r.table.size≤reachBytes
 rows:RowsOk r.rows
def InstOk (i:Inst):Prop:=i.length * 40≤reachBytes∧∀r∈i,r.Ok
structure Chg.Ok (c:Chg):Prop where
 kind:IntOk c.kind
 table:c.table.size≤reachBytes
 key:Row.Ok c.key
 row:Row.Ok c.row
variable {w:World}
theorem rd_I:Rd Tryz.prog w 3 (fun n=>[.int .i64 n]) IntOk:=rd_int Tryz.underlying3
theorem rd_S:Rd Tryz.prog w 9 (fun s=>[.str s]) fun s=>s.size≤reachBytes:=rd_string Tryz.underlying9
theorem cells_int:Tryz.prog.cellsOf 3=1:=by kernel_rfl
theorem cells_string:Tryz.prog.cellsOf 9=1:=by kernel_rfl
theorem cells_bool:Tryz.prog.cellsOf 4=1:=by kernel_rfl
theorem cells_Value:Tryz.prog.cellsOf 90=3:=by kernel_rfl
theorem cells_s_Column:Tryz.prog.cellsOf 72=1:=by kernel_rfl
theorem cells_Column:Tryz.prog.cellsOf 114=3:=by kernel_rfl
theorem cells_s_int:Tryz.prog.cellsOf 61=1:=by kernel_rfl
theorem cells_Table:Tryz.prog.cellsOf 74=3:=by kernel_rfl
theorem cells_s_Table:Tryz.prog.cellsOf 22=1:=by kernel_rfl
theorem cells_ForeignKey:Tryz.prog.cellsOf 86=3:=by kernel_rfl
theorem cells_s_ForeignKey:Tryz.prog.cellsOf 23=1:=by kernel_rfl
theorem cells_Constraint:Tryz.prog.cellsOf 92=7:=by kernel_rfl
theorem cells_s_Constraint:Tryz.prog.cellsOf 24=1:=by kernel_rfl
theorem cells_Schema:Tryz.prog.cellsOf 26=3:=by kernel_rfl
theorem bytes_int:Tryz.prog.bytesOf 3=8:=by kernel_rfl
theorem bytes_Column:Tryz.prog.bytesOf 114=32:=by kernel_rfl
theorem bytes_Table:Tryz.prog.bytesOf 74=64:=by kernel_rfl
theorem bytes_ForeignKey:Tryz.prog.bytesOf 86=56:=by kernel_rfl
theorem bytes_Constraint:Tryz.prog.bytesOf 92=80:=by kernel_rfl
theorem rd_val:Rd Tryz.prog w 90 eVal Val.Ok :=
 (rd_struct3 Tryz.underlying90 ⟨rfl,rfl,rfl⟩ ⟨cells_int,cells_int,cells_string⟩ cells_Value rd_I rd_I rd_S).to (fun p=>⟨p.1,p.2.1,p.2.2.1⟩) (fun _=>by simp [eVal]) fun _ h=>⟨h.1,h.2.1,h.2.2.1⟩
theorem rd_col:Rd Tryz.prog w 114 eCol Col.Ok :=
 (rd_struct3 Tryz.underlying114 ⟨rfl,rfl,rfl⟩ ⟨cells_string,cells_int,cells_bool⟩ cells_Column rd_S rd_I (rd_bool Tryz.underlying4)).to (fun p=>⟨p.1,p.2.1,p.2.2.1⟩) (fun _=>by simp [eCol]) fun _ h=>⟨h.1,h.2.1⟩
theorem rd_cols:Rd Tryz.prog w 72 (fun l=>[eCols l]) fun l=>l.length * 32≤reachBytes∧∀c∈l,Col.Ok c :=
 rd_slice Tryz.underlying72 cells_Column bytes_Column (fun _=>rfl) rd_col
theorem rd_ints:Rd Tryz.prog w 61 (fun l=>[eInts l]) fun l=>l.length * 8≤reachBytes∧∀c∈l,IntOk c :=
 rd_slice Tryz.underlying61 cells_int bytes_int (fun _=>rfl) (eβ:=eInt1) rd_I
theorem rd_tbl:Rd Tryz.prog w 74 eTbl Tbl.Ok :=
 (rd_struct3 Tryz.underlying74 ⟨rfl,rfl,rfl⟩ ⟨cells_string,cells_s_Column,cells_s_int⟩ cells_Table rd_S rd_cols rd_ints).to (fun p=>⟨p.1,p.2.1,p.2.2.1⟩) (fun _=>by simp [eTbl]) fun _ h=>⟨h.1,h.2.1,h.2.2.1⟩
theorem rd_tbls:Rd Tryz.prog w 22 (fun l=>[eTbls l]) fun l=>l.length * 64≤reachBytes∧∀c∈l,Tbl.Ok c :=
 rd_slice Tryz.underlying22 cells_Table bytes_Table (fun _=>rfl) rd_tbl
theorem rd_fk:Rd Tryz.prog w 86 eFK FK.Ok :=
 (rd_struct3 Tryz.underlying86 ⟨rfl,rfl,rfl⟩ ⟨cells_string,cells_s_int,cells_string⟩ cells_ForeignKey rd_S rd_ints rd_S).to (fun p=>⟨p.1,p.2.1,p.2.2.1⟩) (fun _=>by simp [eFK]) fun _ h=>⟨h.1,h.2.1,h.2.2.1⟩
theorem rd_fks:Rd Tryz.prog w 23 (fun l=>[eFKs l]) fun l=>l.length * 56≤reachBytes∧∀c∈l,FK.Ok c :=
 rd_slice Tryz.underlying23 cells_ForeignKey bytes_ForeignKey (fun _=>rfl) rd_fk
theorem rd_con:Rd Tryz.prog w 92 eCon Con.Ok :=
 (rd_struct5 Tryz.underlying92 ⟨rfl,rfl,rfl,rfl,rfl⟩ ⟨cells_string,cells_int,cells_string,cells_int,cells_Value⟩ cells_Constraint rd_S rd_I rd_S rd_I rd_val).to (fun p=>⟨p.1,p.2.1,p.2.2.1,p.2.2.2.1,p.2.2.2.2.1⟩) (fun _=>by simp [eCon,eVal]) fun _ h=>⟨h.1,h.2.1,h.2.2.1,h.2.2.2.1,h.2.2.2.2.1⟩
theorem rd_cons:Rd Tryz.prog w 24 (fun l=>[eCons l]) fun l=>l.length * 80≤reachBytes∧∀c∈l,Con.Ok c :=
 rd_slice Tryz.underlying24 cells_Constraint bytes_Constraint (fun _=>rfl) rd_con
theorem rd_sch:Rd Tryz.prog w 26 eSch Sch.Ok :=
 (rd_struct3 Tryz.underlying26 ⟨rfl,rfl,rfl⟩ ⟨cells_s_Table,cells_s_ForeignKey,cells_s_Constraint⟩ cells_Schema rd_tbls rd_fks rd_cons).to (fun p=>⟨p.1,p.2.1,p.2.2.1⟩) (fun _=>by simp [eSch]) fun _ h=>⟨h.1,h.2.1,h.2.2.1⟩
theorem reachBytes_eq:reachBytes=140737488351232:=rfl
theorem Sch.Ok.fits {s:Sch} (h:s.Ok):s.Fits:=by
 obtain ⟨⟨a1,a2⟩,⟨b1,b2⟩,⟨c1,c2⟩⟩:=h
 rw [reachBytes_eq] at a1 b1 c1
 refine ⟨by omega,fun t ht=>?_,by omega,fun f hf=>?_,by omega⟩
 ·obtain ⟨_,⟨h1,_⟩,⟨h2,_⟩⟩:=a2 t ht
  rw [reachBytes_eq] at h1 h2
  exact ⟨by omega,by omega⟩
 ·obtain ⟨_,⟨h1,_⟩,_⟩:=b2 f hf
  rw [reachBytes_eq] at h1
  omega
end
section
theorem laid:laidOutB Tryz.prog=true:=by kernel_rfl
theorem ownK:ownKnob Tryz.prog.godebug=none:=by kernel_rfl
def oneDesc:TypeDesc→Bool
 | .slice _=>true
 | .string=>true
 | .bool=>true
 | .int _=>true
 | _=>false
theorem cells_oneC {P:Program} {w:World} {base:Nat} {t:TypeId} {v:Value} {d:TypeDesc} (hu:P.underlying t=some d) (hd:oneDesc d=true) (h:Value.okWide P w .any base t v):v.cells.toList=[v]:=by
 have hne:∀cs,v≠.agg cs:=by
  rintro cs rfl
  cases d<;>simp [oneDesc] at hd<;>simp [Value.okWide,hu,Cell.okWide,Cell.ok] at h
 cases v with
 | agg cs=>exact absurd rfl (hne cs)
 | _=>rfl
variable {w:World}
end
section
variable {w:World}
def InstFits (i:Inst):Prop:=i.length≤140737488355328∧∀r∈i,r.rows.length≤140737488355328∧∀x∈r.rows,x.length≤140737488355328
theorem InstOk.fits {i:Inst} (h:InstOk i):InstFits i:=by
 obtain ⟨a1,a2⟩:=h
 rw [reachBytes_eq] at a1
 refine ⟨by omega,fun r hr=>?_⟩
 obtain ⟨_,b1,b2⟩:=a2 r hr
 rw [reachBytes_eq] at b1
 refine ⟨by omega,fun x hx=>?_⟩
 obtain ⟨c1,_⟩:=b2 x hx
 rw [reachBytes_eq] at c1
 omega
end
theorem unused2_sat (k:Con) (t:Tbl) (c:Int):Sat Tryz.prog 148 [.agg (eCon k),.one (.fz (eTbl t)),.one (.fz [.int .i64 c])] (.v (oB (sEq k.table t.name&&(k.left==c||k.right==c)))):=by
 refine sS tyOk Tryz.func148 fun w0 m0 F0=>?_
 simp only [Tryz.ntmps148,envOf,Nat.reduceAdd]
 repeat' (first|((first|with_reducible refine qV tyOk fun K hK=>?_|refine Q2 ?_|((with_reducible refine qS ?_ ?_)<;>(intro h;try simp only [NM] at h)))<;>simp -dsimp (disch:=first|exact D|fail) only [go_sem,↓reduceIte,seval])|((with_reducible refine hK _ ?_);clear hK K)|refine Q1 ?_|fail)
 all_goals simp -dsimp (disch:=first|exact D|fail) only [retQ,Tryz.results148,resVals,cellRV,resOf,St.rest,St.freeze,RT,go_sem,↓reduceIte,seval]
 all_goals simp_all [sEq]
set_option maxHeartbeats 8000000 in
theorem deleteTbls_own (xs:List (List L)) (k:Nat) (hk:k<xs.length) (h1:xs.length≤1099511627776) (hno:noOwn xs):SatM Tryz.prog 119 [.one (.ref 1000 0 xs.length),oI k,oI ((k:Int)+1)] [] [(1000,⟨3,xs,[]⟩)] (.v (.one (.ref 6 0 (xs.length - 1)))) [] [(6,⟨3,xs.take k++xs.drop (k+1)++[[.str ByteArray.empty,.sl 3 [],.sl 1 []]],[]⟩)]:=by
 have w1:((k:Int)+1).toNat=k+1:=by omega
 refine sM tyOk [] [6] Tryz.func119 fun w0 m0 F0=>?_
 simp only [Tryz.ntmps119,envOf,Nat.reduceAdd]
 repeat' (first|((with_reducible refine qV tyOk fun K hK=>?_)<;>simp -dsimp (disch:=first|exact D|fail) only [go_sem,↓reduceIte,seval,w1])|((with_reducible refine hK _ ?_);clear hK K)|refine Q1 ?_|((with_reducible refine qW (T:=TT) (b:=?_) ?_ ?_);rotate_left;exact rfl)|fail)
 refine AWP.drawT tyOk mixed 6 8 (by kernel_rfl) rfl rfl fun K hK=>?_
 simp -dsimp (disch:=first|exact D|fail) only [go_sem,↓reduceIte,seval,w1]
 repeat' (first|((with_reducible refine hK _ ?_);clear hK K)|refine Q1 ?_|fail)
 intro K hK
 simp -dsimp (disch:=first|exact D|fail) only [go_sem,↓reduceIte,seval,w1]
 repeat' (first|((with_reducible refine qV tyOk fun K hK=>?_)<;>simp -dsimp (disch:=first|exact D|fail) only [go_sem,↓reduceIte,seval,w1])|((with_reducible refine hK _ ?_);clear hK K)|refine Q1 ?_|fail)
 have e1:k - 0+(xs.length - (k+1))=xs.length - 1:=by omega
 have e2:xs.length - (xs.length - 1)=1:=by omega
 have e3:(xs.take (k - 0)++xs.drop (k+1)++xs.drop (xs.length - 1)).take (xs.length - 1)=xs.take k++xs.drop (k+1):=List.take_left' (by simp;omega)
 have e4:(xs.take (k - 0)++xs.drop (k+1)++xs.drop (xs.length - 1)).drop (xs.length - 1+1)=[]:=List.drop_of_length_le (by simp;omega)
 simp only [e1,e2,e3,e4,List.replicate_succ,List.replicate_zero,List.append_nil]
 simp -dsimp (disch:=first|exact D|fail) only [retQ,Tryz.results119,resVals,cellRV,resOf,St.rest,St.freeze,RT,go_sem,↓reduceIte,seval]
def keptR {α:Type} (e:α→List L) (p:α→Bool) (l:List α) (j:Nat):List (List L):=(((l.take j).filter fun x=>!p x)++l.drop ((l.take j).filter fun x=>!p x).length).map e
theorem kept_le {α:Type} (p:α→Bool) (l:List α) (j:Nat) (h:j≤l.length):((l.take j).filter fun x=>!p x).length≤j:=Nat.le_trans (List.length_filter_le _ _) (by simp;omega)
theorem keptR_len {α:Type} (e:α→List L) (p:α→Bool) (l:List α) (j:Nat) (h:j≤l.length):(keptR e p l j).length=l.length:=by
 have:=kept_le p l j h
 simp only [keptR,List.length_map,List.length_append,List.length_drop]
 omega
theorem keptR_get {α:Type} (e:α→List L) (p:α→Bool) (l:List α) (j:Nat) (h:j<l.length):(keptR e p l j).getD j []=e l[j]:=by
 have:=kept_le p l j (by omega)
 rw [keptR,List.getD_eq_getElem?_getD,List.getElem?_map,List.getElem?_append_right (by omega),List.getElem?_drop]
 rw [show ((l.take j).filter fun x=>!p x).length+(j - ((l.take j).filter fun x=>!p x).length)=j by omega,List.getElem?_eq_getElem h]
 rfl
theorem keptR_drop {α:Type} (e:α→List L) (p:α→Bool) (l:List α) (j:Nat) (h:j<l.length) (hp:p l[j]=true):keptR e p l (j+1)=keptR e p l j:=by
 unfold keptR
 rw [take_snoc l j h,List.filter_append]
 simp [hp]
theorem keptR_keep {α:Type} (e:α→List L) (p:α→Bool) (l:List α) (j:Nat) (h:j<l.length) (hp:p l[j]=false):(keptR e p l j).set ((l.take j).filter fun x=>!p x).length (e l[j])=keptR e p l (j+1):=by
 have hle:=kept_le p l j (by omega)
 have hk:((l.take (j+1)).filter fun x=>!p x)=((l.take j).filter fun x=>!p x)++[l[j]]:=by
  rw [take_snoc l j h,List.filter_append]
  simp [hp]
 unfold keptR
 rw [hk,←List.map_set,List.set_append_right _ _ (Nat.le_refl _),Nat.sub_self,List.drop_eq_getElem_cons (show ((l.take j).filter fun x=>!p x).length<l.length by omega),List.set_cons_zero,List.length_append]
 simp
theorem kept_keep_len {α:Type} (p:α→Bool) (l:List α) (j:Nat) (h:j<l.length) (hp:p l[j]=false):((l.take (j+1)).filter fun x=>!p x).length=((l.take j).filter fun x=>!p x).length+1:=by
 rw [take_snoc l j h,List.filter_append]
 simp [hp]
theorem kept_drop_len {α:Type} (p:α→Bool) (l:List α) (j:Nat) (h:j<l.length) (hp:p l[j]=true):((l.take (j+1)).filter fun x=>!p x).length=((l.take j).filter fun x=>!p x).length:=by
 rw [take_snoc l j h,List.filter_append]
 simp [hp]
theorem setL_all':∀(vs ls:List L),vs.length=ls.length→setL 0 vs ls=vs
 | [],[],_=>rfl
 | v::vs,l::ls,h=>by rw [setL,setL_all' vs ls (by simpa using h)]
 | [],_::_,h=>by simp at h
 | _::_,[],h=>by simp at h
theorem kept_setL {α:Type} (e:α→List L) (sz:Nat) (he:∀x,(e x).length=sz) (p:α→Bool) (l:List α) (j:Nat) (h:j<l.length) (x:α):setL 0 (e x) ((keptR e p l j).getD ((l.take j).filter fun x=>!p x).length [])=e x:=by
 refine setL_all' _ _ ?_
 have hle:=kept_le p l j (by omega)
 have hl:=keptR_len e p l j (by omega)
 rw [he,List.getD_eq_getElem?_getD,List.getElem?_eq_getElem (by omega),Option.getD_some]
 unfold keptR
 rw [List.getElem_map,he]
theorem kept_first {α:Type} (p:α→Bool) (l:List α) {j:Nat} (hj:j<l.length) (h1:p l[j]=true) (h2:∀i,∀hi:i<j,p (l[i]'(by omega))=false):((l.take (j+1)).filter fun x=>!p x)=l.take j:=by
 rw [take_snoc l j hj,List.filter_append]
 simp only [List.filter_cons,h1,Bool.not_true,Bool.false_eq_true,if_false,List.filter_nil,List.append_nil]
 refine List.filter_eq_self.2 fun x hx=>?_
 obtain ⟨i,hi,rfl⟩:=List.mem_take_iff_getElem.1 hx
 simp [h2 i (by omega)]
def zTbls:List L:=[.str ByteArray.empty,.sl 3 [],.sl 1 []]
def zFKs:List L:=[.str ByteArray.empty,.sl 1 [],.str ByteArray.empty]
def zCons:List L:=[.str ByteArray.empty,.int .i64 0,.str ByteArray.empty,.int .i64 0,.int .i64 0,.int .i64 0,.str ByteArray.empty]
theorem setCell_last {α:Type} (e:α→List L) (l:List α) (k:Nat) (hk:k=l.length) (x:List L) (j:Nat) (u:L):setCell (l.map e++[x]) k j u=l.map e++[x.set j u]:=by
 subst hk
 unfold setCell
 have e1:(l.map e++[x]).getD l.length []=x:=by
  rw [List.getD_eq_getElem?_getD,List.getElem?_append_right (by simp)]
  simp
 rw [e1,List.set_append_right _ _ (by simp)]
 simp
def fR (s:Sch):Rows:=[(1000,⟨3,s.tables.map eTbl,[]⟩),(1001,⟨3,s.fks.map eFK,[]⟩),(1002,⟨7,s.cons.map eCon,[]⟩)]
theorem frzTbl (l:List Tbl):frzXs (l.map eTbl)=l.map eTbl:=frz_eTbl l
theorem rm1_sat (t:Tbl) (name:ByteArray):Sat Tryz.prog 141 [.agg (eTbl t),.one (.fz [.str name])] (.v (oB (sEq t.name name))):=by
 refine sS tyOk Tryz.func141 fun w0 m0 F0=>?_
 simp only [Tryz.ntmps141,envOf,Nat.reduceAdd]
 repeat' (first|((with_reducible refine qV tyOk fun K hK=>?_)<;>simp -dsimp (disch:=first|exact D|fail) only [go_sem,↓reduceIte,seval])|((with_reducible refine hK _ ?_);clear hK K)|refine Q1 ?_|fail)
 simp -dsimp (disch:=first|exact D|fail) only [retQ,Tryz.results141,resVals,cellRV,resOf,St.rest,St.freeze,RT,go_sem,↓reduceIte,seval]
 rfl
theorem rm2_sat (t:FK) (name:ByteArray):Sat Tryz.prog 143 [.agg (eFK t),.one (.fz [.str name])] (.v (oB (sEq t.table name))):=by
 refine sS tyOk Tryz.func143 fun w0 m0 F0=>?_
 simp only [Tryz.ntmps143,envOf,Nat.reduceAdd]
 repeat' (first|((with_reducible refine qV tyOk fun K hK=>?_)<;>simp -dsimp (disch:=first|exact D|fail) only [go_sem,↓reduceIte,seval])|((with_reducible refine hK _ ?_);clear hK K)|refine Q1 ?_|fail)
 simp -dsimp (disch:=first|exact D|fail) only [retQ,Tryz.results143,resVals,cellRV,resOf,St.rest,St.freeze,RT,go_sem,↓reduceIte,seval]
 rfl
theorem rm3_sat (t:Con) (name:ByteArray):Sat Tryz.prog 145 [.agg (eCon t),.one (.fz [.str name])] (.v (oB (sEq t.table name))):=by
 refine sS tyOk Tryz.func145 fun w0 m0 F0=>?_
 simp only [Tryz.ntmps145,envOf,Nat.reduceAdd]
 repeat' (first|((with_reducible refine qV tyOk fun K hK=>?_)<;>simp -dsimp (disch:=first|exact D|fail) only [go_sem,↓reduceIte,seval])|((with_reducible refine hK _ ?_);clear hK K)|refine Q1 ?_|fail)
 simp -dsimp (disch:=first|exact D|fail) only [retQ,Tryz.results145,resVals,cellRV,resOf,St.rest,St.freeze,RT,go_sem,↓reduceIte,seval]
 rfl
theorem drop1_sat (t:FK) (name:ByteArray):Sat Tryz.prog 132 [.agg (eFK t),.one (.fz [.str name])] (.v (oB (sEq t.ref name&&!sEq t.table name))):=by
 refine sS tyOk Tryz.func132 fun w0 m0 F0=>?_
 simp only [Tryz.ntmps132,envOf,Nat.reduceAdd]
 repeat' (first|((first|with_reducible refine qV tyOk fun K hK=>?_|refine Q2 ?_|((with_reducible refine qS ?_ ?_)<;>(intro h;try simp only [NM] at h)))<;>simp -dsimp (disch:=first|exact D|fail) only [go_sem,↓reduceIte,seval])|((with_reducible refine hK _ ?_);clear hK K)|refine Q1 ?_|fail)
 all_goals simp -dsimp (disch:=first|exact D|fail) only [retQ,Tryz.results132,resVals,cellRV,resOf,St.rest,St.freeze,RT,go_sem,↓reduceIte,seval]
 all_goals simp_all [sEq]
theorem cut_map {α:Type} (e:α→List L) (l:List α) (k:Nat) (h:k<l.length) (z:List L):((l.map e).take k++(l.map e).drop (k+1)++[z]).take (l.length - 1)=(l.take k++l.drop (k+1)).map e:=by
 rw [List.take_left' (by simp;omega),List.map_append,List.map_take,List.map_drop]
theorem cut_len {α:Type} (l:List α) (k:Nat) (h:k<l.length):(l.take k++l.drop (k+1)).length=l.length - 1:=by simp;omega
def colOf (t:Tbl) (c:Int):Col:=t.cols.getD c.toNat zCol
def concatL (s:Sch) (i:Nat) (st:Stp):Res :=
 let t:=tAt s i
 if st.cols.length≠2 then .error 3
 else if st.cols.getD 0 0<0∨st.cols.getD 1 0≤st.cols.getD 0 0∨(t.cols.length:Int)≤st.cols.getD 1 0 then .error 3
 else if st.cols.any fun c=>!((colOf t c).kind==3) then .error 7
 else match st.cols.find? fun c=>!(unusedE s t c==0) with
  | some c=>.error (unusedE s t c)
  | none=>.ok (setT (removeC s i st.cols) i {tAt (removeC s i st.cols) i with cols:=(tAt (removeC s i st.cols) i).cols++[⟨st.column,3,st.cols.all fun c=>(colOf t c).nullable⟩]})
theorem concatL_eq (s:Sch) (i:Nat) (st:Stp):concatC s i st=concatL s i st:=by
 unfold concatC concatL
 obtain ⟨cols,hcols⟩:∃cols,st.cols=cols:=⟨_,rfl⟩
 rw [hcols]
 match cols with
 | []=>simp
 | [a]=>simp
 | a::b::c::r=>simp
 | [a,b] =>
  simp only [List.length_cons,List.length_nil,Nat.reduceAdd,ne_eq,not_true_eq_false,if_false,List.getD_cons_zero,List.getD_cons_succ,List.any_cons,List.any_nil,Bool.or_false,List.all_cons,List.all_nil,Bool.and_true,List.find?_cons,List.find?_nil,colOf]
  split
  ·rfl
  ·generalize (tAt s i).cols.getD a.toNat zCol=x
   generalize (tAt s i).cols.getD b.toNat zCol=y
   generalize tAt s i=t
   cases u1:unusedE s t a==0 with
   | false =>
    have v1:¬ unusedE s t a=0:=by simpa using u1
    by_cases h1:x.kind=3<;>by_cases h2:y.kind=3<;>simp [h1,h2,v1]
   | true =>
    have v1:unusedE s t a=0:=by simpa using u1
    cases u2:unusedE s t b==0 with
    | false =>
     have v2:¬ unusedE s t b=0:=by simpa using u2
     by_cases h1:x.kind=3<;>by_cases h2:y.kind=3<;>simp [h1,h2,v1,v2]
    | true =>
     have v2:unusedE s t b=0:=by simpa using u2
     by_cases h1:x.kind=3<;>by_cases h2:y.kind=3<;>simp [h1,h2,v1,v2]
theorem take_ext {α:Type} {p:α→Prop} {l:List α} {k:Nat} (hk:k<l.length) (h:∀x∈l.take k,p x) (hx:p l[k]):∀x∈l.take (k+1),p x:=by
 rw [take_snoc l k hk]
 intro x h'
 rcases List.mem_append.1 h' with q|q
 ·exact h x q
 ·rw [List.mem_singleton.1 q];exact hx
theorem find_take {α:Type} {p:α→Bool} {l:List α} {k:Nat} (hk:k<l.length) (h:∀x∈l.take k,p x=false) (hx:p l[k]=true):l.find? p=some l[k]:=by
 rw [List.find?_eq_some_iff_getElem]
 refine ⟨hx,k,hk,rfl,fun j hj=>?_⟩
 have:=h l[j] (List.mem_take_iff_getElem.2 ⟨j,by omega,rfl⟩)
 simp [this]
theorem all_snoc {α:Type} (p:α→Bool) (l:List α) (k:Nat) (h:k<l.length):(l.take (k+1)).all p=((l.take k).all p&&p l[k]):=by
 rw [take_snoc l k h,List.all_append]
 simp
def renFK (old name:ByteArray) (f:FK):FK:={f with table:=ren old name f.table,ref:=ren old name f.ref}
def renCon (old name:ByteArray) (c:Con):Con:={c with table:=ren old name c.table}
theorem filter_take_succ {α:Type} (p:α→Bool) (l:List α) (k:Nat) (h:k<l.length):(l.take (k+1)).filter p=(l.take k).filter p++(if p l[k] then [l[k]] else []):=by
 rw [take_snoc l k h,List.filter_append]
 cases hp:p l[k]<;>simp [hp]
theorem filter_take_len {α:Type} (p:α→Bool) (l:List α) (k:Nat):((l.take k).filter p).length≤l.length:=Nat.le_trans (List.length_filter_le _ _) (by simp;omega)
def updT (table:ByteArray) (f:FK):FK:={f with table:=table}
def updC (table:ByteArray) (c:Con):Con:={c with table:=table}
theorem takeM' {α β:Type} (e:α→β) (l:List α):List.take l.length (l.map e)=l.map e:=List.take_of_length_le (by simp)
theorem peekXs_len (xs:List (List L)):(peekXs xs).length=xs.length:=List.length_map ..
set_option maxHeartbeats 8000000 in
theorem deleteFKs_ownO (xs:List (List L)) (k:Nat) (hk:k<xs.length) (h1:xs.length≤1099511627776):SatM Tryz.prog 117 [.one (.ref 1000 0 xs.length),oI k,oI ((k:Int)+1)] [] [(1000,⟨3,xs,[]⟩)] (.v (.one (.ref 6 0 (xs.length - 1)))) [] [(6,⟨3,xs.take k++xs.drop (k+1)++[[.str ByteArray.empty,.sl 1 [],.str ByteArray.empty]],[]⟩)]:=by
 have w1:((k:Int)+1).toNat=k+1:=by omega
 refine sM tyOk [] [6] Tryz.func117 fun w0 m0 F0=>?_
 simp only [Tryz.ntmps117,envOf,Nat.reduceAdd]
 repeat' (first|((first|with_reducible refine qV tyOk fun K hK=>?_|(refine AWP.isRegion 5 ?_;refine dX tyOk mixed [(0,6)] [(6,[],[]),(7,[],[])] [6,7] 8 fun K hK=>?_;simp only [SG,segs] at hK ⊢)|with_reducible refine VCy.appO tyOk fun K hK=>?_|(with_reducible refine VCy.step fun K hK=>?_))<;>simp -dsimp (disch:=first|exact D|fail) only [go_sem,↓reduceIte,seval,w1,peekXs_len,appOK_rr])|((with_reducible refine hK _ ?_);clear hK K)|(with_reducible refine VCy.intro fun K0 hK0=>?_)|((with_reducible refine VCy.fin ?_);(refine hK0 _ ?_);clear hK0 K0)|(with_reducible first|refine VCy.quiet ?_|refine VCy.none ?_)|refine Q1 ?_|((with_reducible refine qW (T:=TT) (b:=?_) ?_ ?_);rotate_left;exact rfl)|fail)
 have e1:k - 0+(xs.length - (k+1))=xs.length - 1:=by omega
 have e2:xs.length - (xs.length - 1)=1:=by omega
 have e3:(xs.take (k - 0)++xs.drop (k+1)++peekXs (xs.drop (xs.length - 1))).take (xs.length - 1)=xs.take k++xs.drop (k+1):=List.take_left' (by simp;omega)
 have e4:(xs.take (k - 0)++xs.drop (k+1)++peekXs (xs.drop (xs.length - 1))).drop (xs.length - 1+1)=[]:=List.drop_of_length_le (by simp [peekXs];omega)
 simp only [e1,e2,e3,e4,List.replicate_succ,List.replicate_zero,List.append_nil]
 simp -dsimp (disch:=first|exact D|fail) only [retQ,Tryz.results117,resVals,cellRV,resOf,St.rest,St.freeze,RT,go_sem,↓reduceIte,seval]
theorem frzXs_set (xs:List (List L)) (i:Nat) (x:List L):frzXs (xs.set i x)=(frzXs xs).set i (x.map (L.frzN 4)):=by
 unfold frzXs
 rw [List.map_set]
theorem getD_set1 (l:List (List L)) (i:Nat) (x:List L) (h:i<l.length):(l.set i x).getD i []=x:=by
 rw [List.getD_eq_getElem?_getD,List.getElem?_set_self h,Option.getD_some]
theorem join1_sat (t:FK) (name:ByteArray):Sat Tryz.prog 126 [.agg (eFK t),.one (.fz [.str name])] (.v (oB (sEq t.ref name))):=by
 refine sS tyOk Tryz.func126 fun w0 m0 F0=>?_
 simp only [Tryz.ntmps126,envOf,Nat.reduceAdd]
 repeat' (first|((with_reducible refine qV tyOk fun K hK=>?_)<;>simp -dsimp (disch:=first|exact D|fail) only [go_sem,↓reduceIte,seval])|((with_reducible refine hK _ ?_);clear hK K)|refine Q1 ?_|fail)
 all_goals simp -dsimp (disch:=first|exact D|fail) only [retQ,Tryz.results126,resVals,cellRV,resOf,St.rest,St.freeze,RT,go_sem,↓reduceIte,seval]
 all_goals rfl
def joinK (t o:Tbl) (k:Nat) (c:Int):Option Int:=if (t.cols.getD c.toNat zCol).kind≠(o.cols.getD k zCol).kind then some 9 else none
def joinS (s1:Sch) (i j:Nat) (t o:Tbl) (name:ByteArray):Sch :=
 let s2:=remapS s1 name (joinG t)
 ⟨let ts:=s2.tables.set i {t with cols:=t.cols++o.cols.drop t.pk.length};ts.take j++ts.drop (j+1),
  s2.fks.map fun f=>{f with table:=ren name t.name f.table},s2.cons.map fun c=>{c with table:=ren name t.name c.table}⟩
def joinR (s:Sch) (i j:Nat) (t o:Tbl) (name:ByteArray):Res :=
 match scan (joinK t o) t.pk 0 with
 | some e=>.error e
 | none=>match dropFK s ⟨name,seqI t.pk.length,t.name⟩ with
  | .error _=>.error 10
  | .ok s1=>if s1.fks.any fun f=>sEq f.ref name then .error 10 else .ok (joinS s1 i j t o name)
theorem dropFK_len {s s1:Sch} {f:FK} (h:dropFK s f=.ok s1):s1.fks.length≤s.fks.length:=by
 unfold dropFK at h
 simp only at h
 split at h
 ·cases h
 ·injection h with h
  subst h
  simp
  omega
def PkOk (t:Tbl):Prop:=∀c∈t.pk,0≤c∧c<(t.cols.length:Int)
theorem seq_le {o:Tbl} {n:Nat} (h:PkOk o) (he:o.pk=seqI n):n≤o.cols.length:=by
 rcases Nat.eq_zero_or_pos n with h0|h0
 ·omega
 ·have:=(h ((n - 1:Nat):Int) (by rw [he];unfold seqI;exact List.mem_map.2 ⟨n - 1,List.mem_range.2 (by omega),rfl⟩)).2
  omega
theorem any_false_of {α:Type} {p:α→Bool} {l:List α} (h:¬ l.any p=true):l.any p=false:=by simpa using h
def joinFK (name tn:ByteArray) (f:FK):FK:={f with table:=ren name tn f.table}
def joinCon (name tn:ByteArray) (c:Con):Con:={c with table:=ren name tn c.table}
structure JoinF (s:Sch) (i:Nat) (name:ByteArray) (R:Sch) (j q:Nat):Prop where
 hj:j<s.tables.length
 hq:q<s.fks.length
 at':tblAt s.tables name=(j:Int)
 ne:i≠j
 pk:(tAt s j).pk=seqI (tAt s i).pk.length
 kinds:scan (joinK (tAt s i) (tAt s j)) (tAt s i).pk 0=none
 fk:idx (fun o=>fkEq o ⟨name,seqI (tAt s i).pk.length,(tAt s i).name⟩) s.fks 0=(q:Int)
 free:((s.fks.take q++s.fks.drop (q+1)).any fun f=>sEq f.ref name)=false
 res:R=joinS {s with fks:=s.fks.take q++s.fks.drop (q+1)} i j (tAt s i) (tAt s j) name
theorem joinF_of {s:Sch} {i:Nat} {name:ByteArray} {R:Sch} (h:joinT s i name=.ok R):∃j q,JoinF s i name R j q:=by
 unfold joinT at h
 rcases idx_cases (fun u=>sEq u.name name) s.tables 0 with ⟨e1,_⟩|⟨j,hj,e1,_,_⟩
 ·have e1:tblAt s.tables name=-1:=e1
  simp only [e1] at h
  rw [if_pos (by omega)] at h
  cases h
 have e1:tblAt s.tables name=(j:Int):=by unfold tblAt;simpa using e1
 simp only [e1,Int.toNat_natCast] at h
 rw [if_neg (by omega)] at h
 by_cases hc:(i:Int)=(j:Int)∨(tAt s j).pk≠seqI (tAt s i).pk.length
 ·rw [if_pos hc] at h
  cases h
 rw [if_neg hc] at h
 have hc1:i≠j:=fun e=>hc (.inl (by omega))
 have hc2:(tAt s j).pk=seqI (tAt s i).pk.length:=Decidable.byContradiction fun e=>hc (.inr e)
 have h:joinR s i j (tAt s i) (tAt s j) name=.ok R:=h
 unfold joinR at h
 cases hs:scan (joinK (tAt s i) (tAt s j)) (tAt s i).pk 0 with
 | some e=>rw [hs] at h;cases h
 | none =>
  rw [hs] at h
  simp only at h
  unfold dropFK at h
  simp only at h
  rcases idx_cases (fun o=>fkEq o ⟨name,seqI (tAt s i).pk.length,(tAt s i).name⟩) s.fks 0 with ⟨e2,_⟩|⟨q,hq,e2,_,_⟩
  ·rw [e2,if_pos (by omega)] at h
   cases h
  ·have e2:idx (fun o=>fkEq o ⟨name,seqI (tAt s i).pk.length,(tAt s i).name⟩) s.fks 0=(q:Int):=by simpa using e2
   rw [e2,if_neg (by omega),Int.toNat_natCast] at h
   simp only at h
   split at h
   ·cases h
   ·rename_i hx
    injection h with h
    exact ⟨j,q,hj,hq,e1,hc1,hc2,hs,e2,any_false_of hx,h.symm⟩
theorem fits_ite {c:Prop} [Decidable c] {a b:Stp} (ha:a.Fits) (hb:b.Fits):(if c then a else b).Fits:=by
 by_cases h:c
 ·rw [if_pos h];exact ha
 ·rw [if_neg h];exact hb
theorem evNorm_fits {s:Stp} (h:s.Fits):(evNorm s).Fits:=by
 have z1:zStp.cols.length * 8≤140737488355328:=by show 0 * 8≤_;decide
 have z2:zStp.newTable.cols.length * 32≤140737488355328:=by show 0 * 32≤_;decide
 have z3:zStp.newTable.pk.length * 8≤140737488355328:=by show 0 * 8≤_;decide
 have z4:zStp.fk.cols.length * 8≤140737488355328:=by show 0 * 8≤_;decide
 unfold evNorm
 repeat' refine fits_ite ?_ ?_
 all_goals exact ⟨by first|exact h.cols|exact z1,by first|exact h.ncols|exact z2,by first|exact h.npk|exact z3,by first|exact h.fk|exact z4⟩
def eSchs (l:List Sch):L:=.sl 3 (l.map eSch)
def eScr (l:List Stp):L:=.sl 24 (l.map eStp)
theorem frz_eSch (l:List Sch):(l.map eSch).map (fun x=>x.map (L.frzN 4))=l.map eSch:=frz_map (fun _=>rfl) l
def zSch:Sch:=⟨[],[],[]⟩
abbrev ResL:=Except Int (List Sch)
def goS:List Sch→List Stp→ResL
 | acc,[]=>.ok acc
 | acc,st::r=>match evoE (acc.getD (acc.length - 1) zSch) st with
  | .error e=>.error e
  | .ok t=>goS (acc++[t]) r
def scrSchemas (s:Sch) (l:List Stp):ResL:=if 6<l.length then .error 2 else if schE s≠0 then .error (schE s) else goS [s] l
def scrApply (s:Sch) (l:List Stp):Res:=match scrSchemas s l with
 | .error e=>.error e
 | .ok O=>.ok (O.getD (O.length - 1) zSch)
def lOut:ResL→List Sch
 | .error _=>[]
 | .ok l=>l
theorem evoE_ok {s t:Sch} {st:Stp} (h:evoE s st=.ok t):schE t=0:=by
 unfold evoE at h
 split at h
 ·cases h
 split at h
 ·cases h
 split at h
 ·cases h
 split at h
 ·cases h
 ·rename_i q
  injection h with h
  subst h
  exact Decidable.byContradiction q
theorem goS_ok:∀{l:List Stp} {acc O:List Sch},(∀x∈acc,schE x=0)→goS acc l=.ok O→(∀x∈O,schE x=0)∧O.length=acc.length+l.length
 | [],acc,O,ha,h=>by injection h with h;subst h;exact ⟨ha,by simp⟩
 | st::r,acc,O,ha,h=>by
  rw [goS] at h
  split at h
  ·cases h
  ·rename_i t q
   obtain ⟨h1,h2⟩:=goS_ok (fun x hx=>by
    rcases List.mem_append.1 hx with hx|hx
    ·exact ha x hx
    ·rw [List.mem_singleton.1 hx];exact evoE_ok q) h
   exact ⟨h1,by rw [h2];simp;omega⟩
theorem scrSchemas_ok {s:Sch} {l:List Stp} {O:List Sch} (h:scrSchemas s l=.ok O):(∀x∈O,schE x=0)∧O.length=1+l.length:=by
 unfold scrSchemas at h
 split at h
 ·cases h
 split at h
 ·cases h
 rename_i q
 have q:schE s=0:=Decidable.byContradiction q
 exact goS_ok (fun x hx=>by rw [List.mem_singleton.1 hx];exact q) h
structure Edg where
 parent:Int
 steps:List Stp
structure Gr where
 base:Sch
 edges:List Edg
def eEdg (e:Edg):List L:=[.int .i64 e.parent,eScr e.steps]
def eEdgs (l:List Edg):L:=.sl 2 (l.map eEdg)
def eGr (g:Gr):List L:=[eTbls g.base.tables,eFKs g.base.fks,eCons g.base.cons,eEdgs g.edges]
def zEdg:Edg:=⟨0,[]⟩
structure Edg.Fits (e:Edg):Prop where
 len:e.steps.length≤140737488355328
 step:∀st∈e.steps,st.Fits
structure Gr.Fits (g:Gr):Prop where
 base:g.base.Fits
 len:g.edges.length≤140737488355328
 edge:∀e∈g.edges,e.Fits
def goG:List Sch→List Edg→ResL
 | acc,[]=>.ok acc
 | acc,e::r=>if e.parent<0∨(acc.length:Int) - 1<e.parent then .error 1 else match scrApply (acc.getD e.parent.toNat zSch) e.steps with
  | .error e=>.error e
  | .ok t=>goG (acc++[t]) r
def verSchemas (g:Gr):ResL:=if 8≤g.edges.length then .error 2 else if schE g.base≠0 then .error (schE g.base) else goG [g.base] g.edges
def verSchema (g:Gr) (v:Int):Res:=match verSchemas g with
 | .error e=>.error e
 | .ok O=>if v<0∨(O.length:Int)≤v then .error 1 else .ok (O.getD v.toNat zSch)
structure Hp where
 edge:Nat
 back:Bool
deriving DecidableEq
def anc (P:Nat→Nat) (v:Nat):List Nat:=if h:0<v∧P v<v then v::anc P (P v) else [v]
termination_by v
decreasing_by exact h.2
def climb (P:Nat→Nat) (u:List Nat) (m:Nat):List Nat×Nat:=if h:m ∉ u∧0<m∧P m<m then ((m - 1)::(climb P u (P m)).1,(climb P u (P m)).2) else ([],m)
termination_by m
decreasing_by all_goals exact h.2.2
def pathL (P:Nat→Nat) (a b:Nat):List Hp :=
 ((anc P a).takeWhile fun v=>v != (climb P (anc P a) b).2).map (fun v=>⟨v - 1,true⟩)++(climb P (anc P a) b).1.reverse.map fun e=>⟨e,false⟩
theorem anc_zero (P:Nat→Nat):anc P 0=[0]:=by rw [anc,dif_neg (by omega)]
theorem anc_succ {P:Nat→Nat} {v:Nat} (h0:0<v) (h:P v<v):anc P v=v::anc P (P v):=by rw [anc,dif_pos ⟨h0,h⟩]
theorem anc_len (P:Nat→Nat) (v:Nat):(anc P v).length≤v+1:=by
 induction v using Nat.strongRecOn with
 | _ v ih =>
  rw [anc]
  split
  ·rename_i h
   have:=ih _ h.2
   simp only [List.length_cons]
   omega
  ·simp
theorem anc_le {P:Nat→Nat} {v x:Nat} (h:x∈anc P v):x≤v:=by
 induction v using Nat.strongRecOn with
 | _ v ih =>
  rw [anc] at h
  split at h
  ·rename_i q
   rcases List.mem_cons.1 h with h|h
   ·omega
   ·have:=ih _ q.2 h
    omega
  ·have:=List.mem_singleton.1 h
   omega
def Falls (P:Nat→Nat) (n:Nat):Prop:=∀v,0<v→v≤n→P v<v
theorem anc_has0 {P:Nat→Nat} {n v:Nat} (hP:Falls P n) (hv:v≤n):0∈anc P v:=by
 induction v using Nat.strongRecOn with
 | _ v ih =>
  rcases Nat.eq_zero_or_pos v with h0|h0
  ·subst h0;rw [anc_zero];exact List.mem_singleton.2 rfl
  ·have:=hP v h0 hv
   rw [anc_succ h0 this]
   exact List.mem_cons_of_mem _ (ih _ this (by omega))
theorem climb_in {P:Nat→Nat} {u:List Nat} {m:Nat} (h:m∈u):climb P u m=([],m):=by rw [climb,dif_neg (fun q=>q.1 h)]
theorem climb_out {P:Nat→Nat} {u:List Nat} {m:Nat} (h:m ∉ u) (h0:0<m) (h1:P m<m):climb P u m=((m - 1)::(climb P u (P m)).1,(climb P u (P m)).2):=by rw [climb,dif_pos ⟨h,h0,h1⟩]
theorem climb_len {P:Nat→Nat} {u:List Nat} (m:Nat):(climb P u m).1.length≤m:=by
 induction m using Nat.strongRecOn with
 | _ m ih =>
  rw [climb]
  split
  ·rename_i h
   have:=ih _ h.2.2
   simp only [List.length_cons]
   omega
  ·simp
theorem climb_end {P:Nat→Nat} {n:Nat} {u:List Nat} (hP:Falls P n) (u0:0∈u) {m:Nat} (hm:m≤n):(climb P u m).2∈u:=by
 induction m using Nat.strongRecOn with
 | _ m ih =>
  by_cases hin:m∈u
  ·rw [climb_in hin];exact hin
  ·have m0:0<m:=by
    rcases Nat.eq_zero_or_pos m with h0|h0
    ·exact absurd (h0▸u0) hin
    ·exact h0
   have hp:=hP m m0 hm
   rw [climb_out hin m0 hp]
   exact ih _ hp (by omega)
theorem anc_down {P:Nat→Nat} (v:Nat):(anc P v).Pairwise (· > ·):=by
 induction v using Nat.strongRecOn with
 | _ v ih =>
  rw [anc]
  split
  ·rename_i h
   refine List.pairwise_cons.2 ⟨fun x hx=>?_,ih _ h.2⟩
   have:=anc_le hx
   omega
  ·exact List.pairwise_singleton _ _
theorem takeWhile_stop {α:Type} {p:α→Bool} {l:List α} {k:Nat} (hk:k<l.length) (h:∀j,∀q:j<k,p (l[j]'(by omega))=true) (hs:p l[k]=false):l.takeWhile p=l.take k:=by
 induction l generalizing k with
 | nil=>simp at hk
 | cons x r ih =>
  cases k with
  | zero=>simp only [List.getElem_cons_zero] at hs;simp [List.takeWhile_cons,hs]
  | succ k =>
   have h0:=h 0 (by omega)
   simp only [List.getElem_cons_zero] at h0
   rw [List.takeWhile_cons,if_pos h0,List.take_succ_cons,ih (by simpa using hk) (fun j q=>by have:=h (j+1) (by omega);simpa using this) (by simpa using hs)]
theorem takeWhile_all {α:Type} {p:α→Bool} {l:List α} (h:∀j,∀q:j<l.length,p l[j]=true):l.takeWhile p=l:=by
 induction l with
 | nil=>rfl
 | cons x r ih =>
  have h0:=h 0 (by simp)
  simp only [List.getElem_cons_zero] at h0
  rw [List.takeWhile_cons,if_pos h0,ih fun j q=>by have:=h (j+1) (by simpa using q);simpa using this]
def eHp (h:Hp):List L:=[.int .i64 (h.edge:Int),.bool h.back]
def eHps (l:List Hp):L:=.sl 2 (l.map eHp)
theorem frz_eHp (l:List Hp):(l.map eHp).map (fun x=>x.map (L.frzN 4))=l.map eHp:=frz_map (fun _=>rfl) l
def natI (l:List Nat):List Int:=l.map fun (n:Nat)=>(n:Int)
theorem natI_len (l:List Nat):(natI l).length=l.length:=List.length_map ..
theorem natI_snoc (l:List Nat) (u:Nat):(natI (l++[u])).map eInt1=(natI l).map eInt1++[[.int .i64 (u:Int)]]:=by
 unfold natI
 rw [List.map_append,List.map_append]
 rfl
def parN (g:Gr) (v:Nat):Nat:=((g.edges.getD (v - 1) zEdg).parent).toNat
theorem goG_par:∀{l:List Edg} {acc O:List Sch},goG acc l=.ok O→∀j,∀h:j<l.length,0≤l[j].parent∧l[j].parent≤(acc.length:Int)+j - 1
 | [],_,_,_,_,h=>by simp at h
 | e::r,acc,O,hO,j,h=>by
  rw [goG] at hO
  split at hO
  ·cases hO
  rename_i q
  split at hO
  ·cases hO
  ·cases j with
   | zero=>simp only [List.getElem_cons_zero];omega
   | succ j =>
    have:=goG_par hO j (by simpa using h)
    simp only [List.getElem_cons_succ,List.length_append,List.length_singleton] at this ⊢
    omega
structure GrOk (g:Gr):Prop where
 par:∀v,0<v→v≤g.edges.length→parN g v<v
 int:∀k,∀h:k<g.edges.length,g.edges[k].parent=(parN g (k+1):Int)
def zHp:Hp:=⟨0,false⟩
def revTo (l:List Hp) (k:Nat):List Hp:=(List.range l.length).map fun j=>if j<k∨l.length≤j+k then l.getD (l.length - 1 - j) zHp else l.getD j zHp
theorem revTo_len (l:List Hp) (k:Nat):(revTo l k).length=l.length:=by simp [revTo]
theorem revTo_at {l:List Hp} {k j:Nat} (h:j<l.length):(revTo l k)[j]'(by rw [revTo_len];exact h)=if j<k∨l.length≤j+k then l.getD (l.length - 1 - j) zHp else l.getD j zHp:=by simp [revTo]
theorem revTo_succ (l:List Hp) {k:Nat} (h:2 * k+1<l.length):((revTo l k).set k (l.getD (l.length - 1 - k) zHp)).set (l.length - 1 - k) (l.getD k zHp)=revTo l (k+1):=by
 refine List.ext_getElem (by simp [revTo_len]) fun j h1 h2=>?_
 rw [revTo_len] at h2
 rw [List.getElem_set,List.getElem_set,revTo_at h2,revTo_at h2]
 by_cases e1:l.length - 1 - k=j
 ·subst e1
  rw [if_pos rfl,if_pos (by omega),show l.length - 1 - (l.length - 1 - k)=k by omega]
 rw [if_neg e1]
 by_cases e2:k=j
 ·subst e2
  rw [if_pos rfl,if_pos (by omega)]
 rw [if_neg e2]
 by_cases hj:j<k∨l.length≤j+k
 ·rw [if_pos hj,if_pos (by omega)]
 ·rw [if_neg hj,if_neg (by omega)]
theorem hp_eq {a b:Hp}:a=b↔(a.edge:Int)=b.edge∧a.back=b.back:=by
 constructor
 ·rintro rfl;exact ⟨rfl,rfl⟩
 ·rintro ⟨h1,h2⟩
  cases a;cases b
  simp only at h1 h2
  have h1:=Int.ofNat.inj h1
  rw [h1,h2]
set_option maxHeartbeats 8000000 in
theorem equalHops_sat (a b:List Hp) (h1:a.length≤140737488355328) (h2:b.length≤140737488355328):Sat Tryz.prog 30 [.one (eHps a),.one (eHps b)] (.v (oB (decide (a=b)))):=by
 unfold eHps
 refine sS tyOk Tryz.func30 fun w0 m0 F0=>?_
 simp only [Tryz.ntmps30,envOf,Nat.reduceAdd]
 repeat' (first|((with_reducible refine qV tyOk fun K hK=>?_)<;>simp -dsimp (disch:=first|exact D|fail) only [go_sem,↓reduceIte,seval])|((with_reducible refine hK _ ?_);clear hK K)|refine Q1 ?_|((with_reducible refine qW (T:=TT) (b:=?_) ?_ ?_);rotate_left;exact rfl)|((with_reducible refine yS ?_ ?_)<;>(intro h;try simp only [NM] at h))|fail)
 rotate_left
 ·simp -dsimp (disch:=first|exact D|fail) only [retQ,Tryz.results30,resVals,cellRV,resOf,St.rest,St.freeze,RT,go_sem,↓reduceIte,seval]
  have hn:¬ a=b:=fun e=>by rw [e] at h;exact h rfl
  simp [hn]
 have hl:a.length=b.length:=by omega
 refine AWP.loop (ι:={k:Nat // k≤a.length∧a.take k=b.take k}) (fun k=>⟨26,[(0,.v (.one (.sl 2 (a.map eHp)))),(1,.v (.one (.sl 2 (b.map eHp)))),(12,.v (oI a.length)),(13,.v (oI k.1))],[],[]⟩) (fun k=>a.length - k.1) ⟨0,Nat.zero_le _,rfl⟩ ?_ fun ⟨k,hkl,hi⟩=>?_
 ·refine St.le_mk ?_ ?_ ?_<;>simp only [LE,EN,Nat.reduceEqDiff,reduceIte,Nat.reduceSub]
 simp only at hkl hi ⊢
 rcases Nat.lt_or_ge k a.length with hc|hc
 ·have hb:k<b.length:=by omega
  have g1:(a.map eHp).getD k []=eHp a[k]:=getD_map_lt _ _ _ hc
  have g2:(b.map eHp).getD k []=eHp b[k]:=getD_map_lt _ _ _ hb
  repeat' (first|((first|with_reducible refine qV tyOk fun K hK=>?_|with_reducible refine yD tyOk mixed 6 (by kernel_rfl) fun K hK=>?_)<;>simp -dsimp (disch:=first|exact D|fail) only [go_sem,↓reduceIte,seval,g1,g2,eHp,Option.getD_none])|((with_reducible refine hK _ ?_);clear hK K)|refine Q1 ?_|((with_reducible refine qW (T:=TT) (b:=?_) ?_ ?_);rotate_left;exact rfl)|((with_reducible refine yS ?_ ?_)<;>(intro h;try simp only [NM] at h))|fail)
  ·refine ⟨⟨k+1,by omega,take_eq_succ hc hb hi (hp_eq.2 h)⟩,by simp only;omega,?_⟩
   refine St.le_mk ?_ ?_ ?_<;>simp only [LE,EN,Nat.reduceEqDiff,reduceIte,Nat.reduceSub]
  ·simp -dsimp (disch:=first|exact D|fail) only [retQ,Tryz.results30,resVals,cellRV,resOf,St.rest,St.freeze,RT,go_sem,↓reduceIte,seval]
   have hn:¬ a=b:=fun e=>by
    obtain ⟨e1,e2⟩:=hp_eq.1 (get_of_eq hc hb e)
    simp_all
   simp [hn]
 ·have hk:a=b:=by
   rw [List.take_of_length_le (by omega),List.take_of_length_le (by omega)] at hi
   exact hi
  repeat' (first|((with_reducible refine qV tyOk fun K hK=>?_)<;>simp -dsimp (disch:=first|exact D|fail) only [go_sem,↓reduceIte,seval])|((with_reducible refine hK _ ?_);clear hK K)|refine Q1 ?_|((with_reducible refine qW (T:=TT) (b:=?_) ?_ ?_);rotate_left;exact rfl)|fail)
  simp -dsimp (disch:=first|exact D|fail) only [retQ,Tryz.results30,resVals,cellRV,resOf,St.rest,St.freeze,RT,go_sem,↓reduceIte,seval]
  simp [hk]
abbrev ResH:=Except Int (List Hp)
def verPath (g:Gr) (a b:Int):ResH:=match verSchema g a with
 | .error e=>.error e
 | .ok _=>match verSchema g b with
  | .error e=>.error e
  | .ok _=>.ok (pathL (parN g) a.toNat b.toNat)
def hOut:ResH→List Hp
 | .error _=>[]
 | .ok l=>l
theorem verSchema_ok {g:Gr} {v:Int} {s:Sch} (h:verSchema g v=.ok s):∃O,verSchemas g=.ok O∧0≤v∧v<(O.length:Int)∧s=O.getD v.toNat zSch:=by
 unfold verSchema at h
 split at h
 ·cases h
 ·rename_i O q
  split at h
  ·cases h
  ·injection h with h
   exact ⟨O,q,by omega,by omega,h.symm⟩
theorem noOwn_eHp (l:List Hp):noOwn (l.map eHp)=True:=noOwn_map (fun _=>rfl) l
theorem elem_natI (l:List Nat) (m:Nat):(natI l).elem (m:Int)=decide (m∈l):=by
 rw [Bool.eq_iff_iff]
 simp only [natI,List.elem_eq_mem,decide_eq_true_eq,List.mem_map]
 constructor
 ·rintro ⟨a,h,e⟩
  have:=Int.ofNat.inj e
  subst this
  exact h
 ·intro h
  exact ⟨m,h,rfl⟩
def gr0:Gr:=⟨zSch,[zEdg,zEdg]⟩
theorem sch0:schE zSch=0:=by
 unfold schE zSch
 rfl
theorem ver0:verSchemas gr0=.ok [zSch,zSch,zSch]:=by
 have e1:scrApply zSch []=.ok zSch:=by
  unfold scrApply scrSchemas
  rw [if_neg (by simp),if_neg (by rw [sch0];simp)]
  rfl
 have st:∀(acc:List Sch) (r:List Edg),0<acc.length→acc.getD 0 zSch=zSch→goG acc (zEdg::r)=goG (acc++[zSch]) r:=by
  intro acc r h0 h
  rw [goG,if_neg (by show ¬ ((0:Int)<0∨(acc.length:Int) - 1<0);omega)]
  show (match scrApply (acc.getD 0 zSch) [] with|.error e=>Except.error e|.ok t=>goG (acc++[t]) r)=_
  rw [h,e1]
 have h8:¬ 8≤gr0.edges.length:=by show ¬ 8≤2;omega
 have h9:schE gr0.base=0:=sch0
 unfold verSchemas
 rw [if_neg h8,if_neg (by rw [h9];simp)]
 show goG [zSch] [zEdg,zEdg]=_
 rw [st _ _ (by simp) rfl,st _ _ (by simp) rfl]
 rfl
theorem par0 (v:Nat):parN gr0 v=0:=by
 unfold parN gr0
 simp only
 match v with
 | 0=>rfl
 | 1=>rfl
 | 2=>rfl
 | v+3=>rfl
theorem path0:verPath gr0 1 2=.ok [⟨0,true⟩,⟨1,false⟩]:=by
 have h1:verSchema gr0 1=.ok zSch:=by unfold verSchema;rw [ver0];rfl
 have h2:verSchema gr0 2=.ok zSch:=by unfold verSchema;rw [ver0];rfl
 unfold verPath
 rw [h1,h2]
 simp only
 have a1:anc (parN gr0) 1=[1,0]:=by rw [anc_succ (by omega) (by rw [par0];omega),par0,anc_zero]
 have c1:climb (parN gr0) [1,0] 2=([1],0):=by rw [climb_out (by simp) (by omega) (by rw [par0];omega),par0,climb_in (by simp)]
 have t1:(1:Int).toNat=1:=rfl
 have t2:(2:Int).toNat=2:=rfl
 rw [t1,t2]
 unfold pathL
 rw [a1,c1]
 rfl
set_option maxHeartbeats 8000000 in
theorem cloneEdgs_own (r:List Edg) (h1:r.length≤1099511627776):SatM Tryz.prog 15 [.one (eEdgs r)] [] [] (.v (.one (.ref 2 0 r.length))) [] [(2,⟨2,r.map eEdg,[]⟩)]:=by
 unfold eEdgs
 refine sM tyOk [] [2] Tryz.func15 fun w0 m0 F0=>?_
 simp only [Tryz.ntmps15,envOf,Nat.reduceAdd]
 repeat' (first|((with_reducible refine qV tyOk fun K hK=>?_)<;>simp -dsimp (disch:=first|exact D|fail) only [go_sem,↓reduceIte,seval])|((with_reducible refine hK _ ?_);clear hK K)|refine Q1 ?_|fail)
 intro b hb
 refine hK _ ?_
 clear hK K
 repeat' (first|((with_reducible refine qV tyOk fun K hK=>?_)<;>simp -dsimp (disch:=first|exact D|fail) only [go_sem,↓reduceIte,seval])|((with_reducible refine hK _ ?_);clear hK K)|refine Q1 ?_|((with_reducible refine qW (T:=TT) (b:=?_) ?_ ?_);rotate_left;exact rfl)|((with_reducible refine yS ?_ ?_)<;>(intro h;try simp only [NM] at h))|fail)
 all_goals simp -dsimp (disch:=first|exact D|fail) only [retQ,Tryz.results15,resVals,cellRV,resOf,St.rest,St.freeze,RT,go_sem,↓reduceIte,seval]
 have h2:r=[]:=by
  cases r with
  | nil=>rfl
  | cons x r=>exact absurd ((hb _ rfl (by simp)).symm.trans ‹b=true›) (by decide)
 subst h2
 exact ⟨rfl,rfl⟩
theorem goG_snoc:∀{l:List Edg} {acc O:List Sch} {e:Edg},goG acc l=.ok O→goG acc (l++[e])=goG O [e]
 | [],acc,O,e,h=>by injection h with h;subst h;rfl
 | x::r,acc,O,e,h=>by
  rw [goG] at h
  rw [List.cons_append,goG]
  split at h
  ·cases h
  ·rename_i q
   rw [if_neg q]
   split at h
   ·cases h
   ·exact goG_snoc h
theorem goG_one {O M:List Sch} {e:Edg} (h:goG O [e]=.ok M):∃t,M=O++[t]:=by
 rw [goG] at h
 split at h
 ·cases h
 split at h
 ·cases h
 ·rename_i t _
  rw [goG] at h
  injection h with h
  exact ⟨t,h.symm⟩
def gExt (g:Gr) (p:Int) (steps:List Stp):Gr:=⟨g.base,g.edges++[⟨p,steps⟩]⟩
theorem verSchemas_ext {g:Gr} {p:Int} {steps:List Stp} {O M:List Sch} (h:verSchemas g=.ok O) (h2:verSchemas (gExt g p steps)=.ok M):∃t,M=O++[t]:=by
 unfold verSchemas at h h2
 split at h
 ·cases h
 split at h
 ·cases h
 split at h2
 ·cases h2
 split at h2
 ·cases h2
 have h2:goG [g.base] (g.edges++[⟨p,steps⟩])=.ok M:=h2
 rw [goG_snoc h] at h2
 exact goG_one h2
end Go.Bw
