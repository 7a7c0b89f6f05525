/-
  WHAT IS PROVED HERE, of this translation: diffR_length, diffK_succ, upsertR_ahead, deleteR_ahead, findB_ahead, keyE_of, diffRows_sat, instClone_own, confFits, apply_sat, changesWork_sat, applyL_cons, applyL_stop, tblOf_self, up_step, del_step, diffR_apply, diffK_apply, diffK_apply_all, cells_Change, bytes_Change, rd_chg, rd_chgs, ChgsOk.fits.
  A theorem that ends in sat says what the function it names returns, whatever the state it is called in; the bounds on its arguments stand ahead of it.
-/
import Derived.Test.YtinlgpgdinnefaaN6c
set_option linter.unusedSimpArgs false
set_option linter.unusedVariables false

namespace Go.Bw
open Go.Proofs
def diffR (t : Tbl) : List Row → List Row → List Chg
  | [], [] => []
  | [], y :: b => ⟨1, t.name, [], y⟩ :: diffR t [] b
  | x :: a, [] => ⟨2, t.name, keyOf t.pk x, []⟩ :: diffR t a []
  | x :: a, y :: b =>
    if cmpRows (keyOf t.pk x) (keyOf t.pk y) < 0 then ⟨2, t.name, keyOf t.pk x, []⟩ :: diffR t a (y :: b)
    else if 0 < cmpRows (keyOf t.pk x) (keyOf t.pk y) then ⟨1, t.name, [], y⟩ :: diffR t (x :: a) b
    else (if x = y then [] else [⟨1, t.name, [], y⟩]) ++ diffR t a b
termination_by a b => a.length + b.length
theorem diffR_length (t : Tbl) (a b : List Row) : (diffR t a b).length ≤ a.length + b.length := by
  fun_induction diffR t a b with
  | case1 => simp
  | case2 y b ih => simp at ih ⊢; omega
  | case3 x a ih => simp at ih ⊢; omega
  | case4 x a y b h ih => simp at ih ⊢; omega
  | case5 x a y b h1 h2 ih => simp at ih ⊢; omega
  | case6 x a y b h1 h2 ih =>
    rw [List.length_append]
    split <;> simp at ih ⊢ <;> omega

/-- The difference of two instances, table by table. -/
def diffK (s : Sch) (a b : Inst) (k : Nat) : List Chg := (List.range k).flatMap fun j => diffR (s.tables.getD j zTbl) (a.getD j zRel).rows (b.getD j zRel).rows
theorem diffK_succ (s : Sch) (a b : Inst) (k : Nat) : diffK s a b (k + 1) = diffK s a b k ++ diffR (s.tables.getD k zTbl) (a.getD k zRel).rows (b.getD k zRel).rows := by
  simp [diffK, List.range_succ]
def diffE (s : Sch) (a b : Inst) : Int × List Chg :=
  if schE s ≠ 0 then (schE s, []) else if confE s a ≠ 0 then (confE s a, []) else if confE s b ≠ 0 then (confE s b, []) else (0, diffK s a b s.tables.length)

theorem upsertR_ahead {t : Tbl} {row : Row} : ∀ {P l : List Row}, (∀ p ∈ P, cmpRows (keyOf t.pk p) (keyOf t.pk row) < 0) → upsertR t (P ++ l) row = P ++ upsertR t l row
  | [], _, _ => rfl
  | p :: P, l, h => by
    rw [List.cons_append, upsertR_cons, if_neg (by have := h p (by simp); omega), upsertR_ahead fun q hq => h q (by simp [hq])]
    rfl
theorem deleteR_ahead {t : Tbl} {key : Row} : ∀ {P l : List Row}, (∀ p ∈ P, cmpRows (keyOf t.pk p) key < 0) → deleteR t (P ++ l) key = P ++ deleteR t l key
  | [], _, _ => rfl
  | p :: P, l, h => by
    rw [List.cons_append, deleteR_cons, if_neg (by have := h p (by simp); omega), deleteR_ahead fun q hq => h q (by simp [hq])]
    rfl
theorem findB_ahead {t : Tbl} {key : Row} : ∀ {P l : List Row}, (∀ p ∈ P, cmpRows (keyOf t.pk p) key < 0) → findB t (P ++ l) key = findB t l key
  | [], _, _ => rfl
  | p :: P, l, h => by
    rw [List.cons_append, findB_cons, if_neg (by have := h p (by simp); omega), findB_ahead fun q hq => h q (by simp [hq])]

theorem keyE_of {s : Sch} {k : Nat} (ok : OkSch s) (hk : k < s.tables.length) {x : Row} (h : rowE s.tables[k] x = 0) : keyE s.tables[k] (keyOf s.tables[k].pk x) = 0 := by
  have o := ok.tbl _ (List.getElem_mem hk)
  obtain ⟨h1, h2⟩ := (rowE_zero _ _).1 h
  unfold keyE
  rw [if_neg (by rw [keyOf_length]; simp)]
  have hs : scan (keyCellE s.tables[k]) (keyOf s.tables[k].pk x) 0 = none := by
    rw [scan_eq_none]
    intro j hj
    have hj' : j < s.tables[k].pk.length := by rwa [keyOf_length] at hj
    obtain ⟨p1, p2, p3, _⟩ := o.key j hj'
    have hc : s.tables[k].pk[j].toNat < x.length := by omega
    have e : (keyOf s.tables[k].pk x)[j] = x[s.tables[k].pk[j].toNat] := by
      simp only [keyOf, List.getElem_map, keyCell]
      rw [if_pos ⟨by omega, by omega⟩]
      exact getD_lt _ hc
    have h3 := h2 _ hc
    unfold cellE at h3
    unfold keyCellE
    rw [e]
    split at h3
    · cases h3
    rename_i g1
    split at h3
    · cases h3
    rename_i g2
    split at h3
    · cases h3
    rename_i g3
    have ep : s.tables[k].pk.getD j 0 = s.tables[k].pk[j] := getD_lt _ hj'
    rw [if_neg g1, ep, if_neg]
    intro h4
    exact g3 ⟨fun h5 => g2 ⟨h5, p3⟩, h4⟩
  rw [hs]
end Go.Bw

namespace Go.Bw
open Go.Proofs
attribute [local go_sem ↓] VOps_nil VOps_cons VOp_callJ VVal_callH VOps_guard GOn_tt GOn_ff GOn_tf GOn_ft GOn_not GOn_none HOn_none HOn_tt HOn_ff HOn_tf HOn_ft HOn_not VHead_nil VHead_cons VHead_guard VVal_move VVal_assign VVal_pickE pickK_true pickK_false VVal_not VVal_load loadK_fz loadK_ptr loadK_eptr VVal_fieldAddr VVal_field VVal_indexAddr idxK_sl idxK_ref VVal_index indexK_str VVal_extract VVal_binOp binK_one binK_agg VVal_build VVal_buildSlice VVal_makeFunc VVal_slice sliceK_str sliceK_sl sliceK_ref VVal_slice3 VVal_nilCheck VVal_convert convKk_int convKk_str VVal_len VVal_max VVal_min VOp_assign assignK_int assignK_bool assignK_str assignK_clo assignK_sl assignK_nil assignK_ref assignK_agg assignK_fz assignK_ptr assignK_eptr assignK_any VOp_box VOp_alloc VOp_store storeK_ptr storeK_eptr VOp_buildSlice VOp_append appK_rr appK_rs appK_rn appK_ri appK_nl appStd_eq VOp_copy copyK_ref VOp_clear clearK_ref VOp_cap VOp_eqNil VOp_move VOp_pick VOp_not VOp_load VOp_fieldAddr VOp_field VOp_indexAddr VOp_index VOp_extract VOp_binTmp VOp_binInt VOp_binStr VOp_build VOp_makeFunc VOp_slice VOp_nilCheck VOp_convert VOp_len VOp_max VOp_min mO_some mT_some pk_some pk_none look_cons del_cons
attribute [local go_sem] guardB gOf int_bne beq_true beq_false Bool.not_not gSlot pickK_true pickK_false loadK_fz loadK_ptr loadK_eptr idxK_sl idxK_ref indexK_str binK_one binK_agg sliceK_str sliceK_sl sliceK_ref convKk_int convKk_str maxL minL assignK_int assignK_bool assignK_str assignK_clo assignK_sl assignK_nil assignK_ref assignK_agg assignK_fz assignK_ptr assignK_eptr assignK_any nilRow_eq takeRow_eq appended_eq storeK_ptr storeK_eptr store_mk appIn_eq appMk_eq marked_eq ovOut_nil ovOut_cons ovIn_nil ovIn_cons padRow_eq ysC capK_ref ioSt_mk outB_nil outR_nil outB outR inB_nil inB_cons inR_nil inR_cons L.kl L.kl0 L.ids L.ids0 Option.getD_some evalO constA mO_some mT_some put_mk putO_some putO_none okD_some okD_none pk_some pk_none look_nil del_nil sput noBox_mk noRow_mk newBox_eq newRow0_eq St.killRow RowC.kill rowMap_mk rowOf ovAll ovAdd ovDel ovGet ovShift dstOf ysOf overlay_nil overlay_nil' overlay A.map V.map L.noPtr L.noPtr0 L.noRow L.noRow0 L.peek L.norm L.flat clos_int clos_bool clos_str clos_sl clos_nil clos_any clos_fz L.clos L.isFz L.kd moveL fieldOff eqCells eqCell eqOp oneOf boolOf intOfA tupOf vOf aggOf isPtrLike isSlice lenKind lenL nL elemTI loadV asV binL intBin intDivL shrL boolBin strBin boundN partCells fillL placesOf setL chunks repL capsOf capL callOf argsOf frzV_int frzV_bool frzV_str frzV_sl frzV_nil frzV_fz frzV_any frzV_own frzV_clo frzV_ref frzV_eptr frzV_ptr frzRow_nil frzRow_ov frzRs_nil frzRs_cons frzCs_nil frzCs_cons frzO_some frzO_none frzN_int frzN_bool frzN_str frzN_sl frzN_nil frzN_any frzN_own List.map_cons List.map_nil List.cons_append List.nil_append List.append_nil List.length_cons List.length_nil List.length_map List.length_append List.headD_cons List.tail_cons List.getElem?_cons_zero List.getElem?_cons_succ List.drop_zero List.drop_succ_cons List.drop_nil List.take_succ_cons List.take_zero List.take_nil List.take_length List.filter_cons List.filter_nil List.elem_cons List.elem_nil List.all_cons List.all_nil Option.bind_some Option.map_some Option.some.injEq bne_self_eq_false beq_self_eq_true if_true if_false Bool.false_eq_true true_and and_true and_self Nat.zero_add Nat.add_zero Nat.zero_le Int.toNat_natCast Int.toNat_zero Option.isSome_some List.getElem?_toArray decide_true decide_false ge_iff_le gt_iff_lt Bool.not_true Bool.not_false Nat.le_refl Bool.and_true Bool.true_and Bool.and_false Bool.false_and eVal eRow eRow1 eRows eInt1 eInts eCol eCols eTbl eTbls eFK eFKs eCon eCons eSch eRel eInst eChg eChgs szOf getD_map_lt wrap_nat wrap_in List.take_of_length_le frz_eVal frz_eRow1 frz_eInt1 frz_eCol frz_eTbl frz_eFK frz_eCon frz_eRel frz_eChg noOwn_nil noOwn_cons noOwn_append L.isOwn noOwn_eVal noOwn_eRow1 noOwn_eInt1 noOwn_eCol noOwn_eTbl noOwn_eFK noOwn_eCon noOwn_eRel noOwn_eChg convK_2 convK_3 convK_5 convK_12 convK_21 convK_28 convK_156 convK_164 TT_2 TT_3 TT_4 TT_5 TT_9 TT_12 TT_13 TT_21 TT_22 TT_23 TT_24 TT_25 TT_26 TT_28 TT_30 TT_31 TT_32 TT_33 TT_37 TT_38 TT_41 TT_42 TT_43 TT_54 TT_55 TT_58 TT_59 TT_60 TT_61 TT_65 TT_66 TT_70 TT_71 TT_78 TT_82 TT_83 TT_102 TT_126 TT_130 TT_156 TT_164 boolTy_4 eqK_38 eqK_59 eqK_61
attribute [local congr] VOps.congr VHead.congr VOp.congr VVal.congr pk.congr assignK.congr appK.congr appStd.congr copyK.congr clearK.congr storeK.congr loadK.congr idxK.congr sliceK.congr indexK.congr binK.congr convKk.congr
set_option maxHeartbeats 16000000 in
theorem diffRows_sat (t : Tbl) (a b : List Row) (h0 : t.pk.length ≤ 1099511627776) (h1 : a.length ≤ 1048576) (h2 : b.length ≤ 1048576) (h3 : ∀ y ∈ b, y.length ≤ 1099511627776) (h4 : ∀ y ∈ a, y.length ≤ 1099511627776) :
    Sat Try.prog 87 [.agg (eTbl t), .one (eRows a), .one (eRows b)] (.v (.one (eChgs (diffR t a b)))) := by
  refine sat_of_body tyOk Try.func87 rfl (by kernel_rfl) ⟨Nat.le_of_ble_eq_true rfl, Nat.le_of_ble_eq_true rfl⟩ fun w0 m0 F0 => ?_
  simp only [Try.ntmps87, envOf, Nat.reduceAdd]
  repeat' (first
    | ((first
      | with_reducible refine AWP.regionL tyOk fun K hK => ?_
      | ((with_reducible first | refine GOn.isT ?_ ?_ | refine HOn.isT ?_ ?_ | refine pickK.isT ?_ ?_); focus (first | with_reducible rfl | with_reducible assumption | (simp only [NM, LN]; first | done | with_reducible assumption | omega)))
      | ((with_reducible first | refine GOn.isF ?_ ?_ | refine HOn.isF ?_ ?_ | refine pickK.isF ?_ ?_); focus (first | with_reducible rfl | with_reducible assumption | (simp only [NM, LN]; first | done | with_reducible assumption | omega)))
      | ((with_reducible first | refine GOn.split (fun h => ?_) (fun h => ?_) | refine HOn.split (fun h => ?_) (fun h => ?_) | refine pickK.split (fun h => ?_) (fun h => ?_)) <;> (try simp only [NM] at h))) <;> simp -dsimp (disch := (first | omega | (simp only [LN]; omega))) only [go_sem, ↓reduceIte, seval])
    | ((with_reducible refine hK _ ?_); clear hK K)
    | (with_reducible first | refine AWP.seq ?_ | refine thenQ_normal ?_ | refine AWP.block ?_ | refine AWP.skip ?_ | refine AWP.ret ?_ | refine thenQ_ret ?_ | refine blockQ_ret ?_ | refine AWP.exit ?_ | refine thenQ_exit ?_ | refine blockQ_normal ?_ | refine blockQ_exit ?_)
    | refine blockQ_exit_ne rfl ?_
    | (with_reducible refine And.intro (by (first | with_reducible rfl | with_reducible assumption | omega | (simp only [LN]; first | done | with_reducible rfl | omega) | (simp only [NM, LN]; first | done | with_reducible assumption | omega) | (and_intros <;> first | with_reducible assumption | omega | (simp only [LN]; omega)) | fail)) ?_)
    | ((with_reducible refine AWP.condG (T := TT) (b := ?_) ?_ ?_); rotate_left; exact rfl)
    | (with_reducible first | refine CondG.t ?_ | refine CondG.f ?_ | refine CondG.not ?_)
    | ((with_reducible refine CondG.isT ?_ ?_); focus (first | with_reducible rfl | with_reducible assumption | (simp only [NM, LN]; first | done | with_reducible assumption | omega)))
    | ((with_reducible refine CondG.isF ?_ ?_); focus (first | with_reducible rfl | with_reducible assumption | (simp only [NM, LN]; first | done | with_reducible assumption | omega)))
    | ((with_reducible refine CondG.split (fun h => ?_) (fun h => ?_)) <;> (try simp only [NM] at h)))
  refine AWP.loop (ι := {p : List Row × List Row × List Chg // p.2.2 ++ diffR t p.1 p.2.1 = diffR t a b ∧ p.2.2.length + p.1.length + p.2.1.length ≤ a.length + b.length ∧ (∀ y ∈ p.1, y.length ≤ 1099511627776) ∧ ∀ y ∈ p.2.1, y.length ≤ 1099511627776})
    (fun p => ⟨88, [(1, .v (.one (eRows p.1.1))), (2, .v (.one (eRows p.1.2.1))), (3, .v (.one (.ptr 3 0))), (7, .v (.one (.ref 7 0 p.1.2.2.length)))], [(3, eTbl t)], [(7, ⟨4, p.1.2.2.map eChg, []⟩)]⟩) (fun p => p.1.1.length + p.1.2.1.length) ⟨(a, b, []), rfl, by simp, h4, h3⟩ ?_ fun ⟨(x, y, c), hap, hln, hx, hy⟩ => ?_
  · exact St.le_mk (by simp only [LE, EN, Nat.reduceEqDiff, reduceIte, Nat.reduceSub, eTbl, List.length_nil]) (by simp only [LE, EN, Nat.reduceEqDiff, reduceIte, Nat.reduceSub, eTbl, List.length_nil]) (by simp only [LE, EN, Nat.reduceEqDiff, reduceIte, Nat.reduceSub, eTbl, List.length_nil])
  simp only at hap hln hx hy ⊢
  match x, y with
  | [], [] =>
    repeat' (first
      | ((first
        | with_reducible refine AWP.regionL tyOk fun K hK => ?_
        | ((with_reducible first | refine GOn.isT ?_ ?_ | refine HOn.isT ?_ ?_ | refine pickK.isT ?_ ?_); focus (first | with_reducible rfl | with_reducible assumption | (simp only [NM, LN]; first | done | with_reducible assumption | omega)))
        | ((with_reducible first | refine GOn.isF ?_ ?_ | refine HOn.isF ?_ ?_ | refine pickK.isF ?_ ?_); focus (first | with_reducible rfl | with_reducible assumption | (simp only [NM, LN]; first | done | with_reducible assumption | omega)))
        | ((with_reducible first | refine GOn.split (fun h => ?_) (fun h => ?_) | refine HOn.split (fun h => ?_) (fun h => ?_) | refine pickK.split (fun h => ?_) (fun h => ?_)) <;> (try simp only [NM] at h))) <;> simp -dsimp (disch := (first | omega | (simp only [LN]; omega))) only [go_sem, ↓reduceIte, seval])
      | ((with_reducible refine hK _ ?_); clear hK K)
      | (with_reducible first | refine AWP.seq ?_ | refine thenQ_normal ?_ | refine AWP.block ?_ | refine AWP.skip ?_ | refine AWP.ret ?_ | refine thenQ_ret ?_ | refine blockQ_ret ?_ | refine AWP.exit ?_ | refine thenQ_exit ?_ | refine blockQ_normal ?_ | refine blockQ_exit ?_)
      | refine blockQ_exit_ne rfl ?_
      | (with_reducible refine And.intro (by (first | with_reducible rfl | with_reducible assumption | omega | (simp only [LN]; first | done | with_reducible rfl | omega) | (simp only [NM, LN]; first | done | with_reducible assumption | omega) | (and_intros <;> first | with_reducible assumption | omega | (simp only [LN]; omega)) | fail)) ?_)
      | ((with_reducible refine AWP.condG (T := TT) (b := ?_) ?_ ?_); rotate_left; exact rfl)
      | (with_reducible first | refine CondG.t ?_ | refine CondG.f ?_ | refine CondG.not ?_)
      | ((with_reducible refine CondG.isT ?_ ?_); focus (first | with_reducible rfl | with_reducible assumption | (simp only [NM, LN]; first | done | with_reducible assumption | omega)))
      | ((with_reducible refine CondG.isF ?_ ?_); focus (first | with_reducible rfl | with_reducible assumption | (simp only [NM, LN]; first | done | with_reducible assumption | omega)))
      | ((with_reducible refine CondG.split (fun h => ?_) (fun h => ?_)) <;> (try simp only [NM] at h)))
    rw [diffR, List.append_nil] at hap
    simp -dsimp (disch := (first | omega | (simp only [LN]; omega))) only [retQ, Try.results87, resVals, cellRV, resOf, St.rest, St.freeze, RT, go_sem, ↓reduceIte, seval]
    rw [hap]
  | [], v :: y =>
    simp only [List.length_cons, List.length_nil] at hln
    have hv := hy v (by simp)
    have e : (c ++ [⟨1, t.name, [], v⟩] : List Chg) ++ diffR t [] y = diffR t a b := by rw [← hap, diffR]; simp
    repeat' (first
      | ((first
        | with_reducible refine AWP.regionL tyOk fun K hK => ?_
        | ((with_reducible first | refine GOn.isT ?_ ?_ | refine HOn.isT ?_ ?_ | refine pickK.isT ?_ ?_); focus (first | with_reducible rfl | with_reducible assumption | (simp only [NM, LN]; first | done | with_reducible assumption | omega)))
        | ((with_reducible first | refine GOn.isF ?_ ?_ | refine HOn.isF ?_ ?_ | refine pickK.isF ?_ ?_); focus (first | with_reducible rfl | with_reducible assumption | (simp only [NM, LN]; first | done | with_reducible assumption | omega)))
        | ((with_reducible first | refine GOn.split (fun h => ?_) (fun h => ?_) | refine HOn.split (fun h => ?_) (fun h => ?_) | refine pickK.split (fun h => ?_) (fun h => ?_)) <;> (try simp only [NM] at h))) <;> simp -dsimp (disch := (first | omega | (simp only [LN]; omega))) only [go_sem, ↓reduceIte, seval])
      | ((with_reducible refine hK _ ?_); clear hK K)
      | (with_reducible first | refine AWP.seq ?_ | refine thenQ_normal ?_ | refine AWP.block ?_ | refine AWP.skip ?_ | refine AWP.ret ?_ | refine thenQ_ret ?_ | refine blockQ_ret ?_ | refine AWP.exit ?_ | refine thenQ_exit ?_ | refine blockQ_normal ?_ | refine blockQ_exit ?_)
      | refine blockQ_exit_ne rfl ?_
      | (with_reducible refine And.intro (by (first | with_reducible rfl | with_reducible assumption | omega | (simp only [LN]; first | done | with_reducible rfl | omega) | (simp only [NM, LN]; first | done | with_reducible assumption | omega) | (and_intros <;> first | with_reducible assumption | omega | (simp only [LN]; omega)) | fail)) ?_)
      | ((with_reducible refine AWP.condG (T := TT) (b := ?_) ?_ ?_); rotate_left; exact rfl)
      | (with_reducible first | refine CondG.t ?_ | refine CondG.f ?_ | refine CondG.not ?_)
      | ((with_reducible refine CondG.isT ?_ ?_); focus (first | with_reducible rfl | with_reducible assumption | (simp only [NM, LN]; first | done | with_reducible assumption | omega)))
      | ((with_reducible refine CondG.isF ?_ ?_); focus (first | with_reducible rfl | with_reducible assumption | (simp only [NM, LN]; first | done | with_reducible assumption | omega)))
      | ((with_reducible refine CondG.split (fun h => ?_) (fun h => ?_)) <;> (try simp only [NM] at h)))
    refine AWP.keep [1, 2, 3, 7] ?_
    simp -dsimp (disch := (first | omega | (simp only [LN]; omega))) only [go_sem, ↓reduceIte, seval, RT]
    refine AWP.drawX tyOk mixed [(0, 6)] [(6, [(7, 1)], [(0, 3)]), (8, [], [(0, 1)]), (9, [], []), (10, [], [])] [6, 8, 9, 10] 8 (by decide) (by kernel_rfl) (by kernel_rfl) (by kernel_rfl) (by kernel_rfl) fun K hK => ?_
    simp only [segx_nil, segx_cons, segs, List.drop_succ_cons, List.drop_zero, List.take_succ_cons, List.take_zero, List.getElem?_cons_zero, List.getElem?_cons_succ, List.cons_append, List.nil_append, List.append_nil] at hK ⊢
    simp -dsimp (disch := (first | omega | (simp only [LN]; omega))) only [go_sem, ↓reduceIte, seval, Option.getD_none, List.getD_cons_zero]
    repeat' (first
      | ((first
        | with_reducible refine AWP.regionL tyOk fun K hK => ?_
        | ((with_reducible first | refine GOn.isT ?_ ?_ | refine HOn.isT ?_ ?_ | refine pickK.isT ?_ ?_); focus (first | with_reducible rfl | with_reducible assumption | (simp only [NM, LN]; first | done | with_reducible assumption | omega)))
        | ((with_reducible first | refine GOn.isF ?_ ?_ | refine HOn.isF ?_ ?_ | refine pickK.isF ?_ ?_); focus (first | with_reducible rfl | with_reducible assumption | (simp only [NM, LN]; first | done | with_reducible assumption | omega)))
        | ((with_reducible first | refine GOn.split (fun h => ?_) (fun h => ?_) | refine HOn.split (fun h => ?_) (fun h => ?_) | refine pickK.split (fun h => ?_) (fun h => ?_)) <;> (try simp only [NM] at h))
        | ((with_reducible refine CallJ.is ?_); (first | refine CallJ.pure (cloneRow_sat v hv) ?_ | ((apply CallJ.lentI); (focus (simp -dsimp (disch := (first | omega | (simp only [LN]; omega))) only [go_sem, ↓reduceIte, seval, Option.getD_none, List.getD_cons_zero]; rfl)); (focus (first | exact (cloneRow_sat v hv))))))
        | ((with_reducible refine CallH.is ?_); (first | refine CallH.intro (cloneRow_sat v hv) ?_))) <;> simp -dsimp (disch := (first | omega | (simp only [LN]; omega))) only [go_sem, ↓reduceIte, seval, Option.getD_none, List.getD_cons_zero])
      | ((with_reducible refine hK _ ?_); clear hK K)
      | (with_reducible first | refine AWP.seq ?_ | refine thenQ_normal ?_ | refine AWP.block ?_ | refine AWP.skip ?_ | refine AWP.ret ?_ | refine thenQ_ret ?_ | refine blockQ_ret ?_ | refine AWP.exit ?_ | refine thenQ_exit ?_ | refine blockQ_normal ?_ | refine blockQ_exit ?_)
      | refine blockQ_exit_ne rfl ?_
      | ((with_reducible refine VCy.intro fun K0 hK0 => ?_))
      | ((with_reducible refine VCy.fin ?_); (refine hK0 _ ?_); clear hK0 K0)
      | (with_reducible first | refine VCy.quiet ?_ | refine VCy.none ?_)
      | ((with_reducible first | refine VCy.some fun K hK => ?_ | refine VCy.step fun K hK => ?_); simp -dsimp (disch := (first | omega | (simp only [LN]; omega))) only [go_sem, ↓reduceIte, seval, Option.getD_none, List.getD_cons_zero])
      | ((with_reducible refine VCy.keep ?_ ?_); focus ((simp -dsimp (disch := (first | omega | (simp only [LN]; omega))) only [go_sem, ↓reduceIte, seval, Stable_cons, Stable_nil, sameA_some, sameA_none, Option.getD_none, List.getD_cons_zero]); first | done | with_reducible assumption | omega | (repeat' with_reducible refine And.intro ?_ ?_) <;> first | with_reducible rfl | with_reducible assumption | omega))
      | (with_reducible refine And.intro (by (first | with_reducible rfl | with_reducible assumption | omega | (simp only [LN]; first | done | with_reducible rfl | omega) | (simp only [NM, LN]; first | done | with_reducible assumption | omega) | (and_intros <;> first | with_reducible assumption | omega | (simp only [LN]; omega)) | fail)) ?_)
      | ((with_reducible refine AWP.condG (T := TT) (b := ?_) ?_ ?_); rotate_left; exact rfl)
      | (with_reducible first | refine CondG.t ?_ | refine CondG.f ?_ | refine CondG.not ?_)
      | ((with_reducible refine CondG.isT ?_ ?_); focus (first | with_reducible rfl | with_reducible assumption | (simp only [NM, LN]; first | done | with_reducible assumption | omega)))
      | ((with_reducible refine CondG.isF ?_ ?_); focus (first | with_reducible rfl | with_reducible assumption | (simp only [NM, LN]; first | done | with_reducible assumption | omega)))
      | ((with_reducible refine CondG.split (fun h => ?_) (fun h => ?_)) <;> (try simp only [NM] at h)))
    refine ⟨⟨([], y, c ++ [⟨1, t.name, [], v⟩]), e, by simp; omega, hx, fun z hz => hy z (by simp [hz])⟩, by simp, ?_⟩
    exact St.le_mk (by simp only [LE, EN, Nat.reduceEqDiff, reduceIte, Nat.reduceSub, eTbl, eChg, List.map_append, List.map_cons, List.map_nil, List.length_append, List.length_cons, List.length_nil]) (by simp only [LE, EN, Nat.reduceEqDiff, reduceIte, Nat.reduceSub, eTbl, eChg, List.map_append, List.map_cons, List.map_nil, List.length_append, List.length_cons, List.length_nil]) (by simp only [LE, EN, Nat.reduceEqDiff, reduceIte, Nat.reduceSub, eTbl, eChg, List.map_append, List.map_cons, List.map_nil, List.length_append, List.length_cons, List.length_nil])
  | u :: x, [] =>
    simp only [List.length_cons, List.length_nil] at hln
    have e : (c ++ [⟨2, t.name, keyOf t.pk u, []⟩] : List Chg) ++ diffR t x [] = diffR t a b := by rw [← hap, diffR]; simp
    repeat' (first
      | ((first
        | with_reducible refine AWP.regionL tyOk fun K hK => ?_
        | ((with_reducible first | refine GOn.isT ?_ ?_ | refine HOn.isT ?_ ?_ | refine pickK.isT ?_ ?_); focus (first | with_reducible rfl | with_reducible assumption | (simp only [NM, LN]; first | done | with_reducible assumption | omega)))
        | ((with_reducible first | refine GOn.isF ?_ ?_ | refine HOn.isF ?_ ?_ | refine pickK.isF ?_ ?_); focus (first | with_reducible rfl | with_reducible assumption | (simp only [NM, LN]; first | done | with_reducible assumption | omega)))
        | ((with_reducible first | refine GOn.split (fun h => ?_) (fun h => ?_) | refine HOn.split (fun h => ?_) (fun h => ?_) | refine pickK.split (fun h => ?_) (fun h => ?_)) <;> (try simp only [NM] at h))) <;> simp -dsimp (disch := (first | omega | (simp only [LN]; omega))) only [go_sem, ↓reduceIte, seval])
      | ((with_reducible refine hK _ ?_); clear hK K)
      | (with_reducible first | refine AWP.seq ?_ | refine thenQ_normal ?_ | refine AWP.block ?_ | refine AWP.skip ?_ | refine AWP.ret ?_ | refine thenQ_ret ?_ | refine blockQ_ret ?_ | refine AWP.exit ?_ | refine thenQ_exit ?_ | refine blockQ_normal ?_ | refine blockQ_exit ?_)
      | refine blockQ_exit_ne rfl ?_
      | (with_reducible refine And.intro (by (first | with_reducible rfl | with_reducible assumption | omega | (simp only [LN]; first | done | with_reducible rfl | omega) | (simp only [NM, LN]; first | done | with_reducible assumption | omega) | (and_intros <;> first | with_reducible assumption | omega | (simp only [LN]; omega)) | fail)) ?_)
      | ((with_reducible refine AWP.condG (T := TT) (b := ?_) ?_ ?_); rotate_left; exact rfl)
      | (with_reducible first | refine CondG.t ?_ | refine CondG.f ?_ | refine CondG.not ?_)
      | ((with_reducible refine CondG.isT ?_ ?_); focus (first | with_reducible rfl | with_reducible assumption | (simp only [NM, LN]; first | done | with_reducible assumption | omega)))
      | ((with_reducible refine CondG.isF ?_ ?_); focus (first | with_reducible rfl | with_reducible assumption | (simp only [NM, LN]; first | done | with_reducible assumption | omega)))
      | ((with_reducible refine CondG.split (fun h => ?_) (fun h => ?_)) <;> (try simp only [NM] at h)))
    refine AWP.keep [1, 2, 3, 7] ?_
    simp -dsimp (disch := (first | omega | (simp only [LN]; omega))) only [go_sem, ↓reduceIte, seval, RT]
    refine AWP.drawX tyOk mixed [(0, 7)] [(7, [(8, 1)], [(0, 3)]), (9, [], [(0, 1)]), (10, [], []), (11, [], [])] [7, 9, 10, 11] 8 (by decide) (by kernel_rfl) (by kernel_rfl) (by kernel_rfl) (by kernel_rfl) fun K hK => ?_
    simp only [segx_nil, segx_cons, segs, List.drop_succ_cons, List.drop_zero, List.take_succ_cons, List.take_zero, List.getElem?_cons_zero, List.getElem?_cons_succ, List.cons_append, List.nil_append, List.append_nil] at hK ⊢
    simp -dsimp (disch := (first | omega | (simp only [LN]; omega))) only [go_sem, ↓reduceIte, seval, Option.getD_none, List.getD_cons_zero]
    repeat' (first
      | ((first
        | with_reducible refine AWP.regionL tyOk fun K hK => ?_
        | ((with_reducible first | refine GOn.isT ?_ ?_ | refine HOn.isT ?_ ?_ | refine pickK.isT ?_ ?_); focus (first | with_reducible rfl | with_reducible assumption | (simp only [NM, LN]; first | done | with_reducible assumption | omega)))
        | ((with_reducible first | refine GOn.isF ?_ ?_ | refine HOn.isF ?_ ?_ | refine pickK.isF ?_ ?_); focus (first | with_reducible rfl | with_reducible assumption | (simp only [NM, LN]; first | done | with_reducible assumption | omega)))
        | ((with_reducible first | refine GOn.split (fun h => ?_) (fun h => ?_) | refine HOn.split (fun h => ?_) (fun h => ?_) | refine pickK.split (fun h => ?_) (fun h => ?_)) <;> (try simp only [NM] at h))
        | ((with_reducible refine CallJ.is ?_); (first | refine CallJ.pure (key_sat t u h0) ?_ | ((apply CallJ.lentI); (focus (simp -dsimp (disch := (first | omega | (simp only [LN]; omega))) only [go_sem, ↓reduceIte, seval, Option.getD_none, List.getD_cons_zero]; rfl)); (focus (first | exact (key_sat t u h0))))))
        | ((with_reducible refine CallH.is ?_); (first | refine CallH.intro (key_sat t u h0) ?_))) <;> simp -dsimp (disch := (first | omega | (simp only [LN]; omega))) only [go_sem, ↓reduceIte, seval, Option.getD_none, List.getD_cons_zero])
      | ((with_reducible refine hK _ ?_); clear hK K)
      | (with_reducible first | refine AWP.seq ?_ | refine thenQ_normal ?_ | refine AWP.block ?_ | refine AWP.skip ?_ | refine AWP.ret ?_ | refine thenQ_ret ?_ | refine blockQ_ret ?_ | refine AWP.exit ?_ | refine thenQ_exit ?_ | refine blockQ_normal ?_ | refine blockQ_exit ?_)
      | refine blockQ_exit_ne rfl ?_
      | ((with_reducible refine VCy.intro fun K0 hK0 => ?_))
      | ((with_reducible refine VCy.fin ?_); (refine hK0 _ ?_); clear hK0 K0)
      | (with_reducible first | refine VCy.quiet ?_ | refine VCy.none ?_)
      | ((with_reducible first | refine VCy.some fun K hK => ?_ | refine VCy.step fun K hK => ?_); simp -dsimp (disch := (first | omega | (simp only [LN]; omega))) only [go_sem, ↓reduceIte, seval, Option.getD_none, List.getD_cons_zero])
      | ((with_reducible refine VCy.keep ?_ ?_); focus ((simp -dsimp (disch := (first | omega | (simp only [LN]; omega))) only [go_sem, ↓reduceIte, seval, Stable_cons, Stable_nil, sameA_some, sameA_none, Option.getD_none, List.getD_cons_zero]); first | done | with_reducible assumption | omega | (repeat' with_reducible refine And.intro ?_ ?_) <;> first | with_reducible rfl | with_reducible assumption | omega))
      | (with_reducible refine And.intro (by (first | with_reducible rfl | with_reducible assumption | omega | (simp only [LN]; first | done | with_reducible rfl | omega) | (simp only [NM, LN]; first | done | with_reducible assumption | omega) | (and_intros <;> first | with_reducible assumption | omega | (simp only [LN]; omega)) | fail)) ?_)
      | ((with_reducible refine AWP.condG (T := TT) (b := ?_) ?_ ?_); rotate_left; exact rfl)
      | (with_reducible first | refine CondG.t ?_ | refine CondG.f ?_ | refine CondG.not ?_)
      | ((with_reducible refine CondG.isT ?_ ?_); focus (first | with_reducible rfl | with_reducible assumption | (simp only [NM, LN]; first | done | with_reducible assumption | omega)))
      | ((with_reducible refine CondG.isF ?_ ?_); focus (first | with_reducible rfl | with_reducible assumption | (simp only [NM, LN]; first | done | with_reducible assumption | omega)))
      | ((with_reducible refine CondG.split (fun h => ?_) (fun h => ?_)) <;> (try simp only [NM] at h)))
    refine ⟨⟨(x, [], c ++ [⟨2, t.name, keyOf t.pk u, []⟩]), e, by simp; omega, fun z hz => hx z (by simp [hz]), hy⟩, by simp, ?_⟩
    exact St.le_mk (by simp only [LE, EN, Nat.reduceEqDiff, reduceIte, Nat.reduceSub, eTbl, eChg, List.map_append, List.map_cons, List.map_nil, List.length_append, List.length_cons, List.length_nil]) (by simp only [LE, EN, Nat.reduceEqDiff, reduceIte, Nat.reduceSub, eTbl, eChg, List.map_append, List.map_cons, List.map_nil, List.length_append, List.length_cons, List.length_nil]) (by simp only [LE, EN, Nat.reduceEqDiff, reduceIte, Nat.reduceSub, eTbl, eChg, List.map_append, List.map_cons, List.map_nil, List.length_append, List.length_cons, List.length_nil])
  | u :: x, v :: y =>
    simp only [List.length_cons, List.length_nil] at hln
    have hv := hy v (by simp)
    have hu := hx u (by simp)
    have k1 := keyOf_length t.pk u
    have k2 := keyOf_length t.pk v
    repeat' (first
      | ((first
        | with_reducible refine AWP.regionL tyOk fun K hK => ?_
        | ((with_reducible first | refine GOn.isT ?_ ?_ | refine HOn.isT ?_ ?_ | refine pickK.isT ?_ ?_); focus (first | with_reducible rfl | with_reducible assumption | (simp only [NM, LN]; first | done | with_reducible assumption | omega)))
        | ((with_reducible first | refine GOn.isF ?_ ?_ | refine HOn.isF ?_ ?_ | refine pickK.isF ?_ ?_); focus (first | with_reducible rfl | with_reducible assumption | (simp only [NM, LN]; first | done | with_reducible assumption | omega)))
        | ((with_reducible first | refine GOn.split (fun h => ?_) (fun h => ?_) | refine HOn.split (fun h => ?_) (fun h => ?_) | refine pickK.split (fun h => ?_) (fun h => ?_)) <;> (try simp only [NM] at h))) <;> simp -dsimp (disch := (first | omega | (simp only [LN]; omega))) only [go_sem, ↓reduceIte, seval])
      | ((with_reducible refine hK _ ?_); clear hK K)
      | (with_reducible first | refine AWP.seq ?_ | refine thenQ_normal ?_ | refine AWP.block ?_ | refine AWP.skip ?_ | refine AWP.ret ?_ | refine thenQ_ret ?_ | refine blockQ_ret ?_ | refine AWP.exit ?_ | refine thenQ_exit ?_ | refine blockQ_normal ?_ | refine blockQ_exit ?_)
      | refine blockQ_exit_ne rfl ?_
      | (with_reducible refine And.intro (by (first | with_reducible rfl | with_reducible assumption | omega | (simp only [LN]; first | done | with_reducible rfl | omega) | (simp only [NM, LN]; first | done | with_reducible assumption | omega) | (and_intros <;> first | with_reducible assumption | omega | (simp only [LN]; omega)) | fail)) ?_)
      | ((with_reducible refine AWP.condG (T := TT) (b := ?_) ?_ ?_); rotate_left; exact rfl)
      | (with_reducible first | refine CondG.t ?_ | refine CondG.f ?_ | refine CondG.not ?_)
      | ((with_reducible refine CondG.isT ?_ ?_); focus (first | with_reducible rfl | with_reducible assumption | (simp only [NM, LN]; first | done | with_reducible assumption | omega)))
      | ((with_reducible refine CondG.isF ?_ ?_); focus (first | with_reducible rfl | with_reducible assumption | (simp only [NM, LN]; first | done | with_reducible assumption | omega)))
      | ((with_reducible refine CondG.split (fun h => ?_) (fun h => ?_)) <;> (try simp only [NM] at h)))
    refine AWP.drawAll tyOk mixed 8 (by kernel_rfl) fun K hK => ?_
    simp -dsimp (disch := (first | omega | (simp only [LN]; omega))) only [go_sem, ↓reduceIte, seval, Option.getD_none, List.getD_cons_zero]
    repeat' (first
      | ((first
        | with_reducible refine AWP.regionL tyOk fun K hK => ?_
        | ((with_reducible first | refine GOn.isT ?_ ?_ | refine HOn.isT ?_ ?_ | refine pickK.isT ?_ ?_); focus (first | with_reducible rfl | with_reducible assumption | (simp only [NM, LN]; first | done | with_reducible assumption | omega)))
        | ((with_reducible first | refine GOn.isF ?_ ?_ | refine HOn.isF ?_ ?_ | refine pickK.isF ?_ ?_); focus (first | with_reducible rfl | with_reducible assumption | (simp only [NM, LN]; first | done | with_reducible assumption | omega)))
        | ((with_reducible refine CallJ.is ?_); (first | refine CallJ.pure (key_sat t u h0) ?_ | refine CallJ.pure (key_sat t v h0) ?_ | refine CallJ.pure (compareRows_sat (keyOf t.pk u) (keyOf t.pk v) (by omega) (by omega)) ?_ | ((apply CallJ.lentI); (focus (simp -dsimp (disch := (first | omega | (simp only [LN]; omega))) only [go_sem, ↓reduceIte, seval, Option.getD_none, List.getD_cons_zero]; rfl)); (focus (first | exact (key_sat t u h0) | exact (key_sat t v h0) | exact (compareRows_sat (keyOf t.pk u) (keyOf t.pk v) (by omega) (by omega)))))))
        | ((with_reducible refine CallH.is ?_); (first | refine CallH.intro (key_sat t u h0) ?_ | refine CallH.intro (key_sat t v h0) ?_ | refine CallH.intro (compareRows_sat (keyOf t.pk u) (keyOf t.pk v) (by omega) (by omega)) ?_))) <;> simp -dsimp (disch := (first | omega | (simp only [LN]; omega))) only [go_sem, ↓reduceIte, seval, Option.getD_none, List.getD_cons_zero])
      | ((with_reducible refine hK _ ?_); clear hK K)
      | (with_reducible first | refine AWP.seq ?_ | refine thenQ_normal ?_ | refine AWP.block ?_ | refine AWP.skip ?_ | refine AWP.ret ?_ | refine thenQ_ret ?_ | refine blockQ_ret ?_ | refine AWP.exit ?_ | refine thenQ_exit ?_ | refine blockQ_normal ?_ | refine blockQ_exit ?_)
      | refine blockQ_exit_ne rfl ?_
      | (with_reducible refine And.intro (by (first | with_reducible rfl | with_reducible assumption | omega | (simp only [LN]; first | done | with_reducible rfl | omega) | (simp only [NM, LN]; first | done | with_reducible assumption | omega) | (and_intros <;> first | with_reducible assumption | omega | (simp only [LN]; omega)) | fail)) ?_)
      | ((with_reducible refine AWP.condG (T := TT) (b := ?_) ?_ ?_); rotate_left; exact rfl)
      | (with_reducible first | refine CondG.t ?_ | refine CondG.f ?_ | refine CondG.not ?_)
      | ((with_reducible refine CondG.isT ?_ ?_); focus (first | with_reducible rfl | with_reducible assumption | (simp only [NM, LN]; first | done | with_reducible assumption | omega)))
      | ((with_reducible refine CondG.isF ?_ ?_); focus (first | with_reducible rfl | with_reducible assumption | (simp only [NM, LN]; first | done | with_reducible assumption | omega))))
    rcases Int.lt_trichotomy (cmpRows (keyOf t.pk u) (keyOf t.pk v)) 0 with hlt | heq | hgt
    · have e : (c ++ [⟨2, t.name, keyOf t.pk u, []⟩] : List Chg) ++ diffR t x (v :: y) = diffR t a b := by rw [← hap, diffR, if_pos hlt]; simp
      repeat' (first
        | ((first
          | with_reducible refine AWP.regionL tyOk fun K hK => ?_
          | ((with_reducible first | refine GOn.isT ?_ ?_ | refine HOn.isT ?_ ?_ | refine pickK.isT ?_ ?_); focus (first | with_reducible rfl | with_reducible assumption | (simp only [NM, LN]; first | done | with_reducible assumption | omega)))
          | ((with_reducible first | refine GOn.isF ?_ ?_ | refine HOn.isF ?_ ?_ | refine pickK.isF ?_ ?_); focus (first | with_reducible rfl | with_reducible assumption | (simp only [NM, LN]; first | done | with_reducible assumption | omega)))) <;> simp -dsimp (disch := (first | omega | (simp only [LN]; omega))) only [go_sem, ↓reduceIte, seval])
        | ((with_reducible refine hK _ ?_); clear hK K)
        | (with_reducible first | refine AWP.seq ?_ | refine thenQ_normal ?_ | refine AWP.block ?_ | refine AWP.skip ?_ | refine AWP.ret ?_ | refine thenQ_ret ?_ | refine blockQ_ret ?_ | refine AWP.exit ?_ | refine thenQ_exit ?_ | refine blockQ_normal ?_ | refine blockQ_exit ?_)
        | refine blockQ_exit_ne rfl ?_
        | (with_reducible refine And.intro (by (first | with_reducible rfl | with_reducible assumption | omega | (simp only [LN]; first | done | with_reducible rfl | omega) | (simp only [NM, LN]; first | done | with_reducible assumption | omega) | (and_intros <;> first | with_reducible assumption | omega | (simp only [LN]; omega)) | fail)) ?_)
        | ((with_reducible refine AWP.condG (T := TT) (b := ?_) ?_ ?_); rotate_left; exact rfl)
        | (with_reducible first | refine CondG.t ?_ | refine CondG.f ?_ | refine CondG.not ?_)
        | ((with_reducible refine CondG.isT ?_ ?_); focus (first | with_reducible rfl | with_reducible assumption | (simp only [NM, LN]; first | done | with_reducible assumption | omega)))
        | ((with_reducible refine CondG.isF ?_ ?_); focus (first | with_reducible rfl | with_reducible assumption | (simp only [NM, LN]; first | done | with_reducible assumption | omega))))
      refine AWP.keep [1, 2, 3, 7] ?_
      simp -dsimp (disch := (first | omega | (simp only [LN]; omega))) only [go_sem, ↓reduceIte, seval, RT]
      refine AWP.drawX tyOk mixed [(0, 7)] [(7, [(8, 1)], [(0, 3)]), (9, [], [(0, 1)]), (10, [], []), (11, [], [])] [7, 9, 10, 11] 8 (by decide) (by kernel_rfl) (by kernel_rfl) (by kernel_rfl) (by kernel_rfl) fun K hK => ?_
      simp only [segx_nil, segx_cons, segs, List.drop_succ_cons, List.drop_zero, List.take_succ_cons, List.take_zero, List.getElem?_cons_zero, List.getElem?_cons_succ, List.cons_append, List.nil_append, List.append_nil] at hK ⊢
      simp -dsimp (disch := (first | omega | (simp only [LN]; omega))) only [go_sem, ↓reduceIte, seval, Option.getD_none, List.getD_cons_zero]
      repeat' (first
        | ((first
          | with_reducible refine AWP.regionL tyOk fun K hK => ?_
          | ((with_reducible first | refine GOn.isT ?_ ?_ | refine HOn.isT ?_ ?_ | refine pickK.isT ?_ ?_); focus (first | with_reducible rfl | with_reducible assumption | (simp only [NM, LN]; first | done | with_reducible assumption | omega)))
          | ((with_reducible first | refine GOn.isF ?_ ?_ | refine HOn.isF ?_ ?_ | refine pickK.isF ?_ ?_); focus (first | with_reducible rfl | with_reducible assumption | (simp only [NM, LN]; first | done | with_reducible assumption | omega)))
          | ((with_reducible first | refine GOn.split (fun h => ?_) (fun h => ?_) | refine HOn.split (fun h => ?_) (fun h => ?_) | refine pickK.split (fun h => ?_) (fun h => ?_)) <;> (try simp only [NM] at h))
          | ((with_reducible refine CallJ.is ?_); (first | refine CallJ.pure (key_sat t u h0) ?_ | ((apply CallJ.lentI); (focus (simp -dsimp (disch := (first | omega | (simp only [LN]; omega))) only [go_sem, ↓reduceIte, seval, Option.getD_none, List.getD_cons_zero]; rfl)); (focus (first | exact (key_sat t u h0))))))
          | ((with_reducible refine CallH.is ?_); (first | refine CallH.intro (key_sat t u h0) ?_))) <;> simp -dsimp (disch := (first | omega | (simp only [LN]; omega))) only [go_sem, ↓reduceIte, seval, Option.getD_none, List.getD_cons_zero])
        | ((with_reducible refine hK _ ?_); clear hK K)
        | (with_reducible first | refine AWP.seq ?_ | refine thenQ_normal ?_ | refine AWP.block ?_ | refine AWP.skip ?_ | refine AWP.ret ?_ | refine thenQ_ret ?_ | refine blockQ_ret ?_ | refine AWP.exit ?_ | refine thenQ_exit ?_ | refine blockQ_normal ?_ | refine blockQ_exit ?_)
        | refine blockQ_exit_ne rfl ?_
        | ((with_reducible refine VCy.intro fun K0 hK0 => ?_))
        | ((with_reducible refine VCy.fin ?_); (refine hK0 _ ?_); clear hK0 K0)
        | (with_reducible first | refine VCy.quiet ?_ | refine VCy.none ?_)
        | ((with_reducible first | refine VCy.some fun K hK => ?_ | refine VCy.step fun K hK => ?_); simp -dsimp (disch := (first | omega | (simp only [LN]; omega))) only [go_sem, ↓reduceIte, seval, Option.getD_none, List.getD_cons_zero])
        | ((with_reducible refine VCy.keep ?_ ?_); focus ((simp -dsimp (disch := (first | omega | (simp only [LN]; omega))) only [go_sem, ↓reduceIte, seval, Stable_cons, Stable_nil, sameA_some, sameA_none, Option.getD_none, List.getD_cons_zero]); first | done | with_reducible assumption | omega | (repeat' with_reducible refine And.intro ?_ ?_) <;> first | with_reducible rfl | with_reducible assumption | omega))
        | (with_reducible refine And.intro (by (first | with_reducible rfl | with_reducible assumption | omega | (simp only [LN]; first | done | with_reducible rfl | omega) | (simp only [NM, LN]; first | done | with_reducible assumption | omega) | (and_intros <;> first | with_reducible assumption | omega | (simp only [LN]; omega)) | fail)) ?_)
        | ((with_reducible refine AWP.condG (T := TT) (b := ?_) ?_ ?_); rotate_left; exact rfl)
        | (with_reducible first | refine CondG.t ?_ | refine CondG.f ?_ | refine CondG.not ?_)
        | ((with_reducible refine CondG.isT ?_ ?_); focus (first | with_reducible rfl | with_reducible assumption | (simp only [NM, LN]; first | done | with_reducible assumption | omega)))
        | ((with_reducible refine CondG.isF ?_ ?_); focus (first | with_reducible rfl | with_reducible assumption | (simp only [NM, LN]; first | done | with_reducible assumption | omega)))
        | ((with_reducible refine CondG.split (fun h => ?_) (fun h => ?_)) <;> (try simp only [NM] at h)))
      refine ⟨⟨(x, v :: y, c ++ [⟨2, t.name, keyOf t.pk u, []⟩]), e, by simp; omega, fun z hz => hx z (by simp [hz]), hy⟩, by simp, ?_⟩
      exact St.le_mk (by simp only [LE, EN, Nat.reduceEqDiff, reduceIte, Nat.reduceSub, eTbl, eChg, List.map_append, List.map_cons, List.map_nil, List.length_append, List.length_cons, List.length_nil]) (by simp only [LE, EN, Nat.reduceEqDiff, reduceIte, Nat.reduceSub, eTbl, eChg, List.map_append, List.map_cons, List.map_nil, List.length_append, List.length_cons, List.length_nil]) (by simp only [LE, EN, Nat.reduceEqDiff, reduceIte, Nat.reduceSub, eTbl, eChg, List.map_append, List.map_cons, List.map_nil, List.length_append, List.length_cons, List.length_nil])
    · have n1 : ¬ cmpRows (keyOf t.pk u) (keyOf t.pk v) < 0 := by omega
      have n2 : ¬ 0 < cmpRows (keyOf t.pk u) (keyOf t.pk v) := by omega
      have hu' : u.length ≤ 140737488355328 := by omega
      have hv' : v.length ≤ 140737488355328 := by omega
      by_cases huv : u = v
      · have e : c ++ diffR t x y = diffR t a b := by rw [← hap, diffR, if_neg n1, if_neg n2, if_pos huv]; simp
        repeat' (first
          | ((first
            | with_reducible refine AWP.regionL tyOk fun K hK => ?_
            | ((with_reducible first | refine GOn.isT ?_ ?_ | refine HOn.isT ?_ ?_ | refine pickK.isT ?_ ?_); focus (first | with_reducible rfl | with_reducible assumption | (simp only [NM, LN]; first | done | with_reducible assumption | omega)))
            | ((with_reducible first | refine GOn.isF ?_ ?_ | refine HOn.isF ?_ ?_ | refine pickK.isF ?_ ?_); focus (first | with_reducible rfl | with_reducible assumption | (simp only [NM, LN]; first | done | with_reducible assumption | omega)))) <;> simp -dsimp (disch := (first | omega | (simp only [LN]; omega))) only [go_sem, ↓reduceIte, seval])
          | ((with_reducible refine hK _ ?_); clear hK K)
          | (with_reducible first | refine AWP.seq ?_ | refine thenQ_normal ?_ | refine AWP.block ?_ | refine AWP.skip ?_ | refine AWP.ret ?_ | refine thenQ_ret ?_ | refine blockQ_ret ?_ | refine AWP.exit ?_ | refine thenQ_exit ?_ | refine blockQ_normal ?_ | refine blockQ_exit ?_)
          | refine blockQ_exit_ne rfl ?_
          | (with_reducible refine And.intro (by (first | with_reducible rfl | with_reducible assumption | omega | (simp only [LN]; first | done | with_reducible rfl | omega) | (simp only [NM, LN]; first | done | with_reducible assumption | omega) | (and_intros <;> first | with_reducible assumption | omega | (simp only [LN]; omega)) | fail)) ?_)
          | ((with_reducible refine AWP.condG (T := TT) (b := ?_) ?_ ?_); rotate_left; exact rfl)
          | (with_reducible first | refine CondG.t ?_ | refine CondG.f ?_ | refine CondG.not ?_)
          | ((with_reducible refine CondG.isT ?_ ?_); focus (first | with_reducible rfl | with_reducible assumption | (simp only [NM, LN]; first | done | with_reducible assumption | omega)))
          | ((with_reducible refine CondG.isF ?_ ?_); focus (first | with_reducible rfl | with_reducible assumption | (simp only [NM, LN]; first | done | with_reducible assumption | omega))))
        refine AWP.drawAll tyOk mixed 8 (by kernel_rfl) fun K hK => ?_
        simp -dsimp (disch := (first | omega | (simp only [LN]; omega))) only [go_sem, ↓reduceIte, seval, Option.getD_none, List.getD_cons_zero]
        repeat' (first
          | ((first
            | with_reducible refine AWP.regionL tyOk fun K hK => ?_
            | ((with_reducible first | refine GOn.isT ?_ ?_ | refine HOn.isT ?_ ?_ | refine pickK.isT ?_ ?_); focus (first | with_reducible rfl | with_reducible assumption | (simp only [NM, LN]; first | done | with_reducible assumption | omega)))
            | ((with_reducible first | refine GOn.isF ?_ ?_ | refine HOn.isF ?_ ?_ | refine pickK.isF ?_ ?_); focus (first | with_reducible rfl | with_reducible assumption | (simp only [NM, LN]; first | done | with_reducible assumption | omega)))
            | ((with_reducible refine CallJ.is ?_); (first | refine CallJ.pure (equalRow_sat u v hu' hv') ?_ | ((apply CallJ.lentI); (focus (simp -dsimp (disch := (first | omega | (simp only [LN]; omega))) only [go_sem, ↓reduceIte, seval, Option.getD_none, List.getD_cons_zero]; rfl)); (focus (first | exact (equalRow_sat u v hu' hv'))))))
            | ((with_reducible refine CallH.is ?_); (first | refine CallH.intro (equalRow_sat u v hu' hv') ?_))) <;> simp -dsimp (disch := (first | omega | (simp only [LN]; omega))) only [go_sem, ↓reduceIte, seval, Option.getD_none, List.getD_cons_zero])
          | ((with_reducible refine hK _ ?_); clear hK K)
          | (with_reducible first | refine AWP.seq ?_ | refine thenQ_normal ?_ | refine AWP.block ?_ | refine AWP.skip ?_ | refine AWP.ret ?_ | refine thenQ_ret ?_ | refine blockQ_ret ?_ | refine AWP.exit ?_ | refine thenQ_exit ?_ | refine blockQ_normal ?_ | refine blockQ_exit ?_)
          | refine blockQ_exit_ne rfl ?_
          | (with_reducible refine And.intro (by (first | with_reducible rfl | with_reducible assumption | omega | (simp only [LN]; first | done | with_reducible rfl | omega) | (simp only [NM, LN]; first | done | with_reducible assumption | omega) | (and_intros <;> first | with_reducible assumption | omega | (simp only [LN]; omega)) | fail)) ?_)
          | ((with_reducible refine AWP.condG (T := TT) (b := ?_) ?_ ?_); rotate_left; exact rfl)
          | (with_reducible first | refine CondG.t ?_ | refine CondG.f ?_ | refine CondG.not ?_)
          | ((with_reducible refine CondG.isT ?_ ?_); focus (first | with_reducible rfl | with_reducible assumption | (simp only [NM, LN]; first | done | with_reducible assumption | omega)))
          | ((with_reducible refine CondG.isF ?_ ?_); focus (first | with_reducible rfl | with_reducible assumption | (simp only [NM, LN]; first | done | with_reducible assumption | omega))))
        refine AWP.drawAll tyOk mixed 8 (by kernel_rfl) fun K hK => ?_
        simp -dsimp (disch := (first | omega | (simp only [LN]; omega))) only [go_sem, ↓reduceIte, seval, Option.getD_none, List.getD_cons_zero]
        repeat' (first
          | ((first
            | with_reducible refine AWP.regionL tyOk fun K hK => ?_
            | ((with_reducible first | refine GOn.isT ?_ ?_ | refine HOn.isT ?_ ?_ | refine pickK.isT ?_ ?_); focus (first | with_reducible rfl | with_reducible assumption | (simp only [NM, LN]; first | done | with_reducible assumption | omega)))
            | ((with_reducible first | refine GOn.isF ?_ ?_ | refine HOn.isF ?_ ?_ | refine pickK.isF ?_ ?_); focus (first | with_reducible rfl | with_reducible assumption | (simp only [NM, LN]; first | done | with_reducible assumption | omega)))) <;> simp -dsimp (disch := (first | omega | (simp only [LN]; omega))) only [go_sem, ↓reduceIte, seval, Option.getD_none, List.getD_cons_zero])
          | ((with_reducible refine hK _ ?_); clear hK K)
          | (with_reducible first | refine AWP.seq ?_ | refine thenQ_normal ?_ | refine AWP.block ?_ | refine AWP.skip ?_ | refine AWP.ret ?_ | refine thenQ_ret ?_ | refine blockQ_ret ?_ | refine AWP.exit ?_ | refine thenQ_exit ?_ | refine blockQ_normal ?_ | refine blockQ_exit ?_)
          | refine blockQ_exit_ne rfl ?_
          | (with_reducible refine And.intro (by (first | with_reducible rfl | with_reducible assumption | omega | (simp only [LN]; first | done | with_reducible rfl | omega) | (simp only [NM, LN]; first | done | with_reducible assumption | omega) | (and_intros <;> first | with_reducible assumption | omega | (simp only [LN]; omega)) | fail)) ?_)
          | ((with_reducible refine AWP.condG (T := TT) (b := ?_) ?_ ?_); rotate_left; exact rfl)
          | (with_reducible first | refine CondG.t ?_ | refine CondG.f ?_ | refine CondG.not ?_)
          | ((with_reducible refine CondG.isT ?_ ?_); focus (first | with_reducible rfl | with_reducible assumption | (simp only [NM, LN]; first | done | with_reducible assumption | omega)))
          | ((with_reducible refine CondG.isF ?_ ?_); focus (first | with_reducible rfl | with_reducible assumption | (simp only [NM, LN]; first | done | with_reducible assumption | omega))))
        refine ⟨⟨(x, y, c), e, by simp only; omega, fun z hz => hx z (by simp [hz]), fun z hz => hy z (by simp [hz])⟩, by simp; omega, ?_⟩
        exact St.le_mk (by simp only [LE, EN, Nat.reduceEqDiff, reduceIte, Nat.reduceSub, eTbl]) (by simp only [LE, EN, Nat.reduceEqDiff, reduceIte, Nat.reduceSub, eTbl]) (by simp only [LE, EN, Nat.reduceEqDiff, reduceIte, Nat.reduceSub, eTbl])
      · have e : (c ++ [⟨1, t.name, [], v⟩] : List Chg) ++ diffR t x y = diffR t a b := by rw [← hap, diffR, if_neg n1, if_neg n2, if_neg huv]; simp
        repeat' (first
          | ((first
            | with_reducible refine AWP.regionL tyOk fun K hK => ?_
            | ((with_reducible first | refine GOn.isT ?_ ?_ | refine HOn.isT ?_ ?_ | refine pickK.isT ?_ ?_); focus (first | with_reducible rfl | with_reducible assumption | (simp only [NM, LN]; first | done | with_reducible assumption | omega)))
            | ((with_reducible first | refine GOn.isF ?_ ?_ | refine HOn.isF ?_ ?_ | refine pickK.isF ?_ ?_); focus (first | with_reducible rfl | with_reducible assumption | (simp only [NM, LN]; first | done | with_reducible assumption | omega)))) <;> simp -dsimp (disch := (first | omega | (simp only [LN]; omega))) only [go_sem, ↓reduceIte, seval])
          | ((with_reducible refine hK _ ?_); clear hK K)
          | (with_reducible first | refine AWP.seq ?_ | refine thenQ_normal ?_ | refine AWP.block ?_ | refine AWP.skip ?_ | refine AWP.ret ?_ | refine thenQ_ret ?_ | refine blockQ_ret ?_ | refine AWP.exit ?_ | refine thenQ_exit ?_ | refine blockQ_normal ?_ | refine blockQ_exit ?_)
          | refine blockQ_exit_ne rfl ?_
          | (with_reducible refine And.intro (by (first | with_reducible rfl | with_reducible assumption | omega | (simp only [LN]; first | done | with_reducible rfl | omega) | (simp only [NM, LN]; first | done | with_reducible assumption | omega) | (and_intros <;> first | with_reducible assumption | omega | (simp only [LN]; omega)) | fail)) ?_)
          | ((with_reducible refine AWP.condG (T := TT) (b := ?_) ?_ ?_); rotate_left; exact rfl)
          | (with_reducible first | refine CondG.t ?_ | refine CondG.f ?_ | refine CondG.not ?_)
          | ((with_reducible refine CondG.isT ?_ ?_); focus (first | with_reducible rfl | with_reducible assumption | (simp only [NM, LN]; first | done | with_reducible assumption | omega)))
          | ((with_reducible refine CondG.isF ?_ ?_); focus (first | with_reducible rfl | with_reducible assumption | (simp only [NM, LN]; first | done | with_reducible assumption | omega))))
        refine AWP.drawAll tyOk mixed 8 (by kernel_rfl) fun K hK => ?_
        simp -dsimp (disch := (first | omega | (simp only [LN]; omega))) only [go_sem, ↓reduceIte, seval, Option.getD_none, List.getD_cons_zero]
        repeat' (first
          | ((first
            | with_reducible refine AWP.regionL tyOk fun K hK => ?_
            | ((with_reducible first | refine GOn.isT ?_ ?_ | refine HOn.isT ?_ ?_ | refine pickK.isT ?_ ?_); focus (first | with_reducible rfl | with_reducible assumption | (simp only [NM, LN]; first | done | with_reducible assumption | omega)))
            | ((with_reducible first | refine GOn.isF ?_ ?_ | refine HOn.isF ?_ ?_ | refine pickK.isF ?_ ?_); focus (first | with_reducible rfl | with_reducible assumption | (simp only [NM, LN]; first | done | with_reducible assumption | omega)))
            | ((with_reducible refine CallJ.is ?_); (first | refine CallJ.pure (equalRow_sat u v hu' hv') ?_ | ((apply CallJ.lentI); (focus (simp -dsimp (disch := (first | omega | (simp only [LN]; omega))) only [go_sem, ↓reduceIte, seval, Option.getD_none, List.getD_cons_zero]; rfl)); (focus (first | exact (equalRow_sat u v hu' hv'))))))
            | ((with_reducible refine CallH.is ?_); (first | refine CallH.intro (equalRow_sat u v hu' hv') ?_))) <;> simp -dsimp (disch := (first | omega | (simp only [LN]; omega))) only [go_sem, ↓reduceIte, seval, Option.getD_none, List.getD_cons_zero])
          | ((with_reducible refine hK _ ?_); clear hK K)
          | (with_reducible first | refine AWP.seq ?_ | refine thenQ_normal ?_ | refine AWP.block ?_ | refine AWP.skip ?_ | refine AWP.ret ?_ | refine thenQ_ret ?_ | refine blockQ_ret ?_ | refine AWP.exit ?_ | refine thenQ_exit ?_ | refine blockQ_normal ?_ | refine blockQ_exit ?_)
          | refine blockQ_exit_ne rfl ?_
          | (with_reducible refine And.intro (by (first | with_reducible rfl | with_reducible assumption | omega | (simp only [LN]; first | done | with_reducible rfl | omega) | (simp only [NM, LN]; first | done | with_reducible assumption | omega) | (and_intros <;> first | with_reducible assumption | omega | (simp only [LN]; omega)) | fail)) ?_)
          | ((with_reducible refine AWP.condG (T := TT) (b := ?_) ?_ ?_); rotate_left; exact rfl)
          | (with_reducible first | refine CondG.t ?_ | refine CondG.f ?_ | refine CondG.not ?_)
          | ((with_reducible refine CondG.isT ?_ ?_); focus (first | with_reducible rfl | with_reducible assumption | (simp only [NM, LN]; first | done | with_reducible assumption | omega)))
          | ((with_reducible refine CondG.isF ?_ ?_); focus (first | with_reducible rfl | with_reducible assumption | (simp only [NM, LN]; first | done | with_reducible assumption | omega))))
        refine AWP.keep [1, 2, 3, 7] ?_
        simp -dsimp (disch := (first | omega | (simp only [LN]; omega))) only [go_sem, ↓reduceIte, seval, RT]
        refine AWP.drawX tyOk mixed [(0, 6)] [(6, [(7, 1)], [(0, 3)]), (8, [], [(0, 1)]), (9, [], []), (10, [], [])] [6, 8, 9, 10] 8 (by decide) (by kernel_rfl) (by kernel_rfl) (by kernel_rfl) (by kernel_rfl) fun K hK => ?_
        simp only [segx_nil, segx_cons, segs, List.drop_succ_cons, List.drop_zero, List.take_succ_cons, List.take_zero, List.getElem?_cons_zero, List.getElem?_cons_succ, List.cons_append, List.nil_append, List.append_nil] at hK ⊢
        simp -dsimp (disch := (first | omega | (simp only [LN]; omega))) only [go_sem, ↓reduceIte, seval, Option.getD_none, List.getD_cons_zero]
        repeat' (first
          | ((first
            | with_reducible refine AWP.regionL tyOk fun K hK => ?_
            | ((with_reducible first | refine GOn.isT ?_ ?_ | refine HOn.isT ?_ ?_ | refine pickK.isT ?_ ?_); focus (first | with_reducible rfl | with_reducible assumption | (simp only [NM, LN]; first | done | with_reducible assumption | omega)))
            | ((with_reducible first | refine GOn.isF ?_ ?_ | refine HOn.isF ?_ ?_ | refine pickK.isF ?_ ?_); focus (first | with_reducible rfl | with_reducible assumption | (simp only [NM, LN]; first | done | with_reducible assumption | omega)))
            | ((with_reducible first | refine GOn.split (fun h => ?_) (fun h => ?_) | refine HOn.split (fun h => ?_) (fun h => ?_) | refine pickK.split (fun h => ?_) (fun h => ?_)) <;> (try simp only [NM] at h))
            | ((with_reducible refine CallJ.is ?_); (first | refine CallJ.pure (cloneRow_sat v hv) ?_ | ((apply CallJ.lentI); (focus (simp -dsimp (disch := (first | omega | (simp only [LN]; omega))) only [go_sem, ↓reduceIte, seval, Option.getD_none, List.getD_cons_zero]; rfl)); (focus (first | exact (cloneRow_sat v hv))))))
            | ((with_reducible refine CallH.is ?_); (first | refine CallH.intro (cloneRow_sat v hv) ?_))) <;> simp -dsimp (disch := (first | omega | (simp only [LN]; omega))) only [go_sem, ↓reduceIte, seval, Option.getD_none, List.getD_cons_zero])
          | ((with_reducible refine hK _ ?_); clear hK K)
          | (with_reducible first | refine AWP.seq ?_ | refine thenQ_normal ?_ | refine AWP.block ?_ | refine AWP.skip ?_ | refine AWP.ret ?_ | refine thenQ_ret ?_ | refine blockQ_ret ?_ | refine AWP.exit ?_ | refine thenQ_exit ?_ | refine blockQ_normal ?_ | refine blockQ_exit ?_)
          | refine blockQ_exit_ne rfl ?_
          | ((with_reducible refine VCy.intro fun K0 hK0 => ?_))
          | ((with_reducible refine VCy.fin ?_); (refine hK0 _ ?_); clear hK0 K0)
          | (with_reducible first | refine VCy.quiet ?_ | refine VCy.none ?_)
          | ((with_reducible first | refine VCy.some fun K hK => ?_ | refine VCy.step fun K hK => ?_); simp -dsimp (disch := (first | omega | (simp only [LN]; omega))) only [go_sem, ↓reduceIte, seval, Option.getD_none, List.getD_cons_zero])
          | ((with_reducible refine VCy.keep ?_ ?_); focus ((simp -dsimp (disch := (first | omega | (simp only [LN]; omega))) only [go_sem, ↓reduceIte, seval, Stable_cons, Stable_nil, sameA_some, sameA_none, Option.getD_none, List.getD_cons_zero]); first | done | with_reducible assumption | omega | (repeat' with_reducible refine And.intro ?_ ?_) <;> first | with_reducible rfl | with_reducible assumption | omega))
          | (with_reducible refine And.intro (by (first | with_reducible rfl | with_reducible assumption | omega | (simp only [LN]; first | done | with_reducible rfl | omega) | (simp only [NM, LN]; first | done | with_reducible assumption | omega) | (and_intros <;> first | with_reducible assumption | omega | (simp only [LN]; omega)) | fail)) ?_)
          | ((with_reducible refine AWP.condG (T := TT) (b := ?_) ?_ ?_); rotate_left; exact rfl)
          | (with_reducible first | refine CondG.t ?_ | refine CondG.f ?_ | refine CondG.not ?_)
          | ((with_reducible refine CondG.isT ?_ ?_); focus (first | with_reducible rfl | with_reducible assumption | (simp only [NM, LN]; first | done | with_reducible assumption | omega)))
          | ((with_reducible refine CondG.isF ?_ ?_); focus (first | with_reducible rfl | with_reducible assumption | (simp only [NM, LN]; first | done | with_reducible assumption | omega)))
          | ((with_reducible refine CondG.split (fun h => ?_) (fun h => ?_)) <;> (try simp only [NM] at h)))
        refine AWP.drawAll tyOk mixed 8 (by kernel_rfl) fun K hK => ?_
        simp -dsimp (disch := (first | omega | (simp only [LN]; omega))) only [go_sem, ↓reduceIte, seval, Option.getD_none, List.getD_cons_zero]
        repeat' (first
          | ((first
            | with_reducible refine AWP.regionL tyOk fun K hK => ?_
            | ((with_reducible first | refine GOn.isT ?_ ?_ | refine HOn.isT ?_ ?_ | refine pickK.isT ?_ ?_); focus (first | with_reducible rfl | with_reducible assumption | (simp only [NM, LN]; first | done | with_reducible assumption | omega)))
            | ((with_reducible first | refine GOn.isF ?_ ?_ | refine HOn.isF ?_ ?_ | refine pickK.isF ?_ ?_); focus (first | with_reducible rfl | with_reducible assumption | (simp only [NM, LN]; first | done | with_reducible assumption | omega)))) <;> simp -dsimp (disch := (first | omega | (simp only [LN]; omega))) only [go_sem, ↓reduceIte, seval, Option.getD_none, List.getD_cons_zero])
          | ((with_reducible refine hK _ ?_); clear hK K)
          | (with_reducible first | refine AWP.seq ?_ | refine thenQ_normal ?_ | refine AWP.block ?_ | refine AWP.skip ?_ | refine AWP.ret ?_ | refine thenQ_ret ?_ | refine blockQ_ret ?_ | refine AWP.exit ?_ | refine thenQ_exit ?_ | refine blockQ_normal ?_ | refine blockQ_exit ?_)
          | refine blockQ_exit_ne rfl ?_
          | (with_reducible refine And.intro (by (first | with_reducible rfl | with_reducible assumption | omega | (simp only [LN]; first | done | with_reducible rfl | omega) | (simp only [NM, LN]; first | done | with_reducible assumption | omega) | (and_intros <;> first | with_reducible assumption | omega | (simp only [LN]; omega)) | fail)) ?_)
          | ((with_reducible refine AWP.condG (T := TT) (b := ?_) ?_ ?_); rotate_left; exact rfl)
          | (with_reducible first | refine CondG.t ?_ | refine CondG.f ?_ | refine CondG.not ?_)
          | ((with_reducible refine CondG.isT ?_ ?_); focus (first | with_reducible rfl | with_reducible assumption | (simp only [NM, LN]; first | done | with_reducible assumption | omega)))
          | ((with_reducible refine CondG.isF ?_ ?_); focus (first | with_reducible rfl | with_reducible assumption | (simp only [NM, LN]; first | done | with_reducible assumption | omega))))
        refine ⟨⟨(x, y, c ++ [⟨1, t.name, [], v⟩]), e, by simp; omega, fun z hz => hx z (by simp [hz]), fun z hz => hy z (by simp [hz])⟩, by simp; omega, ?_⟩
        exact St.le_mk (by simp only [LE, EN, Nat.reduceEqDiff, reduceIte, Nat.reduceSub, eTbl, eChg, List.map_append, List.map_cons, List.map_nil, List.length_append, List.length_cons, List.length_nil]) (by simp only [LE, EN, Nat.reduceEqDiff, reduceIte, Nat.reduceSub, eTbl, eChg, List.map_append, List.map_cons, List.map_nil, List.length_append, List.length_cons, List.length_nil]) (by simp only [LE, EN, Nat.reduceEqDiff, reduceIte, Nat.reduceSub, eTbl, eChg, List.map_append, List.map_cons, List.map_nil, List.length_append, List.length_cons, List.length_nil])
    · have n1 : ¬ cmpRows (keyOf t.pk u) (keyOf t.pk v) < 0 := by omega
      have e : (c ++ [⟨1, t.name, [], v⟩] : List Chg) ++ diffR t (u :: x) y = diffR t a b := by rw [← hap, diffR, if_neg n1, if_pos hgt]; simp
      repeat' (first
        | ((first
          | with_reducible refine AWP.regionL tyOk fun K hK => ?_
          | ((with_reducible first | refine GOn.isT ?_ ?_ | refine HOn.isT ?_ ?_ | refine pickK.isT ?_ ?_); focus (first | with_reducible rfl | with_reducible assumption | (simp only [NM, LN]; first | done | with_reducible assumption | omega)))
          | ((with_reducible first | refine GOn.isF ?_ ?_ | refine HOn.isF ?_ ?_ | refine pickK.isF ?_ ?_); focus (first | with_reducible rfl | with_reducible assumption | (simp only [NM, LN]; first | done | with_reducible assumption | omega)))) <;> simp -dsimp (disch := (first | omega | (simp only [LN]; omega))) only [go_sem, ↓reduceIte, seval])
        | ((with_reducible refine hK _ ?_); clear hK K)
        | (with_reducible first | refine AWP.seq ?_ | refine thenQ_normal ?_ | refine AWP.block ?_ | refine AWP.skip ?_ | refine AWP.ret ?_ | refine thenQ_ret ?_ | refine blockQ_ret ?_ | refine AWP.exit ?_ | refine thenQ_exit ?_ | refine blockQ_normal ?_ | refine blockQ_exit ?_)
        | refine blockQ_exit_ne rfl ?_
        | (with_reducible refine And.intro (by (first | with_reducible rfl | with_reducible assumption | omega | (simp only [LN]; first | done | with_reducible rfl | omega) | (simp only [NM, LN]; first | done | with_reducible assumption | omega) | (and_intros <;> first | with_reducible assumption | omega | (simp only [LN]; omega)) | fail)) ?_)
        | ((with_reducible refine AWP.condG (T := TT) (b := ?_) ?_ ?_); rotate_left; exact rfl)
        | (with_reducible first | refine CondG.t ?_ | refine CondG.f ?_ | refine CondG.not ?_)
        | ((with_reducible refine CondG.isT ?_ ?_); focus (first | with_reducible rfl | with_reducible assumption | (simp only [NM, LN]; first | done | with_reducible assumption | omega)))
        | ((with_reducible refine CondG.isF ?_ ?_); focus (first | with_reducible rfl | with_reducible assumption | (simp only [NM, LN]; first | done | with_reducible assumption | omega))))
      refine AWP.keep [1, 2, 3, 7] ?_
      simp -dsimp (disch := (first | omega | (simp only [LN]; omega))) only [go_sem, ↓reduceIte, seval, RT]
      refine AWP.drawX tyOk mixed [(0, 6)] [(6, [(7, 1)], [(0, 3)]), (8, [], [(0, 1)]), (9, [], []), (10, [], [])] [6, 8, 9, 10] 8 (by decide) (by kernel_rfl) (by kernel_rfl) (by kernel_rfl) (by kernel_rfl) fun K hK => ?_
      simp only [segx_nil, segx_cons, segs, List.drop_succ_cons, List.drop_zero, List.take_succ_cons, List.take_zero, List.getElem?_cons_zero, List.getElem?_cons_succ, List.cons_append, List.nil_append, List.append_nil] at hK ⊢
      simp -dsimp (disch := (first | omega | (simp only [LN]; omega))) only [go_sem, ↓reduceIte, seval, Option.getD_none, List.getD_cons_zero]
      repeat' (first
        | ((first
          | with_reducible refine AWP.regionL tyOk fun K hK => ?_
          | ((with_reducible first | refine GOn.isT ?_ ?_ | refine HOn.isT ?_ ?_ | refine pickK.isT ?_ ?_); focus (first | with_reducible rfl | with_reducible assumption | (simp only [NM, LN]; first | done | with_reducible assumption | omega)))
          | ((with_reducible first | refine GOn.isF ?_ ?_ | refine HOn.isF ?_ ?_ | refine pickK.isF ?_ ?_); focus (first | with_reducible rfl | with_reducible assumption | (simp only [NM, LN]; first | done | with_reducible assumption | omega)))
          | ((with_reducible first | refine GOn.split (fun h => ?_) (fun h => ?_) | refine HOn.split (fun h => ?_) (fun h => ?_) | refine pickK.split (fun h => ?_) (fun h => ?_)) <;> (try simp only [NM] at h))
          | ((with_reducible refine CallJ.is ?_); (first | refine CallJ.pure (cloneRow_sat v hv) ?_ | ((apply CallJ.lentI); (focus (simp -dsimp (disch := (first | omega | (simp only [LN]; omega))) only [go_sem, ↓reduceIte, seval, Option.getD_none, List.getD_cons_zero]; rfl)); (focus (first | exact (cloneRow_sat v hv))))))
          | ((with_reducible refine CallH.is ?_); (first | refine CallH.intro (cloneRow_sat v hv) ?_))) <;> simp -dsimp (disch := (first | omega | (simp only [LN]; omega))) only [go_sem, ↓reduceIte, seval, Option.getD_none, List.getD_cons_zero])
        | ((with_reducible refine hK _ ?_); clear hK K)
        | (with_reducible first | refine AWP.seq ?_ | refine thenQ_normal ?_ | refine AWP.block ?_ | refine AWP.skip ?_ | refine AWP.ret ?_ | refine thenQ_ret ?_ | refine blockQ_ret ?_ | refine AWP.exit ?_ | refine thenQ_exit ?_ | refine blockQ_normal ?_ | refine blockQ_exit ?_)
        | refine blockQ_exit_ne rfl ?_
        | ((with_reducible refine VCy.intro fun K0 hK0 => ?_))
        | ((with_reducible refine VCy.fin ?_); (refine hK0 _ ?_); clear hK0 K0)
        | (with_reducible first | refine VCy.quiet ?_ | refine VCy.none ?_)
        | ((with_reducible first | refine VCy.some fun K hK => ?_ | refine VCy.step fun K hK => ?_); simp -dsimp (disch := (first | omega | (simp only [LN]; omega))) only [go_sem, ↓reduceIte, seval, Option.getD_none, List.getD_cons_zero])
        | ((with_reducible refine VCy.keep ?_ ?_); focus ((simp -dsimp (disch := (first | omega | (simp only [LN]; omega))) only [go_sem, ↓reduceIte, seval, Stable_cons, Stable_nil, sameA_some, sameA_none, Option.getD_none, List.getD_cons_zero]); first | done | with_reducible assumption | omega | (repeat' with_reducible refine And.intro ?_ ?_) <;> first | with_reducible rfl | with_reducible assumption | omega))
        | (with_reducible refine And.intro (by (first | with_reducible rfl | with_reducible assumption | omega | (simp only [LN]; first | done | with_reducible rfl | omega) | (simp only [NM, LN]; first | done | with_reducible assumption | omega) | (and_intros <;> first | with_reducible assumption | omega | (simp only [LN]; omega)) | fail)) ?_)
        | ((with_reducible refine AWP.condG (T := TT) (b := ?_) ?_ ?_); rotate_left; exact rfl)
        | (with_reducible first | refine CondG.t ?_ | refine CondG.f ?_ | refine CondG.not ?_)
        | ((with_reducible refine CondG.isT ?_ ?_); focus (first | with_reducible rfl | with_reducible assumption | (simp only [NM, LN]; first | done | with_reducible assumption | omega)))
        | ((with_reducible refine CondG.isF ?_ ?_); focus (first | with_reducible rfl | with_reducible assumption | (simp only [NM, LN]; first | done | with_reducible assumption | omega)))
        | ((with_reducible refine CondG.split (fun h => ?_) (fun h => ?_)) <;> (try simp only [NM] at h)))
      refine ⟨⟨(u :: x, y, c ++ [⟨1, t.name, [], v⟩]), e, by simp; omega, hx, fun z hz => hy z (by simp [hz])⟩, by simp, ?_⟩
      exact St.le_mk (by simp only [LE, EN, Nat.reduceEqDiff, reduceIte, Nat.reduceSub, eTbl, eChg, List.map_append, List.map_cons, List.map_nil, List.length_append, List.length_cons, List.length_nil]) (by simp only [LE, EN, Nat.reduceEqDiff, reduceIte, Nat.reduceSub, eTbl, eChg, List.map_append, List.map_cons, List.map_nil, List.length_append, List.length_cons, List.length_nil]) (by simp only [LE, EN, Nat.reduceEqDiff, reduceIte, Nat.reduceSub, eTbl, eChg, List.map_append, List.map_cons, List.map_nil, List.length_append, List.length_cons, List.length_nil])

set_option maxHeartbeats 8000000 in
theorem instClone_own (i : Inst) (h1 : i.length ≤ 1099511627776) (h2 : ∀ r ∈ i, r.rows.length ≤ 1099511627776 ∧ ∀ x ∈ r.rows, x.length ≤ 1099511627776) : SatM Try.prog 35 [.one (eInst i)] [] [] (.v (.one (.ref 2 0 i.length))) [] [(2, ⟨2, i.map eRel, []⟩)] := by
  refine satM_of_body tyOk [] [2] Try.func35 rfl (by kernel_rfl) ⟨Nat.le_of_ble_eq_true rfl, Nat.le_of_ble_eq_true rfl⟩ fun w0 m0 F0 => ?_
  simp only [Try.ntmps35, envOf, Nat.reduceAdd]
  repeat' (first
    | ((first
      | with_reducible refine AWP.regionL tyOk fun K hK => ?_
      | ((with_reducible first | refine GOn.isT ?_ ?_ | refine HOn.isT ?_ ?_ | refine pickK.isT ?_ ?_); focus (first | with_reducible rfl | with_reducible assumption | (simp only [NM, LN]; first | done | with_reducible assumption | omega)))
      | ((with_reducible first | refine GOn.isF ?_ ?_ | refine HOn.isF ?_ ?_ | refine pickK.isF ?_ ?_); focus (first | with_reducible rfl | with_reducible assumption | (simp only [NM, LN]; first | done | with_reducible assumption | omega)))
      | ((with_reducible first | refine GOn.split (fun h => ?_) (fun h => ?_) | refine HOn.split (fun h => ?_) (fun h => ?_) | refine pickK.split (fun h => ?_) (fun h => ?_)) <;> (try simp only [NM] at h))
      | with_reducible refine AWP.drawAll tyOk mixed 6 (by kernel_rfl) fun K hK => ?_) <;> simp -dsimp (disch := (first | omega | (simp only [LN]; omega))) only [go_sem, ↓reduceIte, seval])
    | ((with_reducible refine hK _ ?_); clear hK K)
    | (with_reducible first | refine AWP.seq ?_ | refine thenQ_normal ?_ | refine AWP.block ?_ | refine AWP.skip ?_ | refine AWP.ret ?_ | refine thenQ_ret ?_ | refine blockQ_ret ?_ | refine AWP.exit ?_ | refine thenQ_exit ?_ | refine blockQ_normal ?_ | refine blockQ_exit ?_)
    | refine blockQ_exit_ne rfl ?_
    | (with_reducible refine And.intro (by (first | with_reducible rfl | with_reducible assumption | omega | (simp only [LN]; first | done | with_reducible rfl | omega) | (simp only [NM, LN]; first | done | with_reducible assumption | omega) | (and_intros <;> first | with_reducible assumption | omega | (simp only [LN]; omega)) | fail)) ?_)
    | ((with_reducible refine AWP.condG (T := TT) (b := ?_) ?_ ?_); rotate_left; exact rfl)
    | (with_reducible first | refine CondG.t ?_ | refine CondG.f ?_ | refine CondG.not ?_)
    | ((with_reducible refine CondG.isT ?_ ?_); focus (first | with_reducible rfl | with_reducible assumption | (simp only [NM, LN]; first | done | with_reducible assumption | omega)))
    | ((with_reducible refine CondG.isF ?_ ?_); focus (first | with_reducible rfl | with_reducible assumption | (simp only [NM, LN]; first | done | with_reducible assumption | omega)))
    | ((with_reducible refine CondG.split (fun h => ?_) (fun h => ?_)) <;> (try simp only [NM] at h)))
  refine AWP.loop (ι := {k : Nat // k ≤ i.length}) (fun k => ⟨23, [(3, .v (.one (.ref 3 0 k.1))), (6, .v (.one (eInst i))), (7, .v (oI i.length)), (8, .v (oI k.1))], [], [(3, ⟨2, (i.take k.1).map eRel, []⟩)]⟩) (fun k => i.length - k.1) ⟨0, Nat.zero_le _⟩ ?_ fun ⟨k, hkl⟩ => ?_
  · exact St.le_mk (by simp only [LE, EN, Nat.reduceEqDiff, reduceIte, Nat.reduceSub]) (by simp only [LE, EN, Nat.reduceEqDiff, reduceIte, Nat.reduceSub]) (by simp only [LE, EN, Nat.reduceEqDiff, reduceIte, Nat.reduceSub])
  have hlen : (i.take k).length = k := by simp; omega
  rcases Nat.lt_or_ge k i.length with hc | hc
  · obtain ⟨b1, b2⟩ := h2 i[k] (List.getElem_mem hc)
    repeat' (first
      | ((first
        | with_reducible refine AWP.regionL tyOk fun K hK => ?_
        | ((with_reducible first | refine GOn.isT ?_ ?_ | refine HOn.isT ?_ ?_ | refine pickK.isT ?_ ?_); focus (first | with_reducible rfl | with_reducible assumption | (simp only [NM, LN]; first | done | with_reducible assumption | omega)))
        | ((with_reducible first | refine GOn.isF ?_ ?_ | refine HOn.isF ?_ ?_ | refine pickK.isF ?_ ?_); focus (first | with_reducible rfl | with_reducible assumption | (simp only [NM, LN]; first | done | with_reducible assumption | omega)))
        | ((with_reducible first | refine GOn.split (fun h => ?_) (fun h => ?_) | refine HOn.split (fun h => ?_) (fun h => ?_) | refine pickK.split (fun h => ?_) (fun h => ?_)) <;> (try simp only [NM] at h))) <;> simp -dsimp (disch := (first | omega | (simp only [LN]; omega))) only [go_sem, ↓reduceIte, seval, hlen])
      | ((with_reducible refine hK _ ?_); clear hK K)
      | (with_reducible first | refine AWP.seq ?_ | refine thenQ_normal ?_ | refine AWP.block ?_ | refine AWP.skip ?_ | refine AWP.ret ?_ | refine thenQ_ret ?_ | refine blockQ_ret ?_ | refine AWP.exit ?_ | refine thenQ_exit ?_ | refine blockQ_normal ?_ | refine blockQ_exit ?_)
      | refine blockQ_exit_ne rfl ?_
      | (with_reducible refine And.intro (by (first | with_reducible rfl | with_reducible assumption | omega | (simp only [LN]; first | done | with_reducible rfl | omega) | (simp only [NM, LN]; first | done | with_reducible assumption | omega) | (and_intros <;> first | with_reducible assumption | omega | (simp only [LN]; omega)) | fail)) ?_)
      | ((with_reducible refine AWP.condG (T := TT) (b := ?_) ?_ ?_); rotate_left; exact rfl)
      | (with_reducible first | refine CondG.t ?_ | refine CondG.f ?_ | refine CondG.not ?_)
      | ((with_reducible refine CondG.isT ?_ ?_); focus (first | with_reducible rfl | with_reducible assumption | (simp only [NM, LN]; first | done | with_reducible assumption | omega)))
      | ((with_reducible refine CondG.isF ?_ ?_); focus (first | with_reducible rfl | with_reducible assumption | (simp only [NM, LN]; first | done | with_reducible assumption | omega)))
      | ((with_reducible refine CondG.split (fun h => ?_) (fun h => ?_)) <;> (try simp only [NM] at h)))
    refine AWP.drawT tyOk mixed 8 8 (by kernel_rfl) rfl rfl fun K hK => ?_
    simp -dsimp (disch := (first | omega | (simp only [LN]; omega))) only [go_sem, ↓reduceIte, seval, hlen]
    repeat' (first
      | ((first
        | with_reducible refine AWP.regionL tyOk fun K hK => ?_
        | ((with_reducible first | refine GOn.isT ?_ ?_ | refine HOn.isT ?_ ?_ | refine pickK.isT ?_ ?_); focus (first | with_reducible rfl | with_reducible assumption | (simp only [NM, LN]; first | done | with_reducible assumption | omega)))
        | ((with_reducible first | refine GOn.isF ?_ ?_ | refine HOn.isF ?_ ?_ | refine pickK.isF ?_ ?_); focus (first | with_reducible rfl | with_reducible assumption | (simp only [NM, LN]; first | done | with_reducible assumption | omega)))
        | ((with_reducible first | refine GOn.split (fun h => ?_) (fun h => ?_) | refine HOn.split (fun h => ?_) (fun h => ?_) | refine pickK.split (fun h => ?_) (fun h => ?_)) <;> (try simp only [NM] at h))
        | ((with_reducible refine CallJ.is ?_); (first | refine CallJ.pure (relClone_sat i[k].rows b1 b2) ?_ | ((apply CallJ.lentI); (focus (simp -dsimp (disch := (first | omega | (simp only [LN]; omega))) only [go_sem, ↓reduceIte, seval, hlen]; rfl)); (focus (first | exact (relClone_sat i[k].rows b1 b2))))))
        | ((with_reducible refine CallH.is ?_); (first | refine CallH.intro (relClone_sat i[k].rows b1 b2) ?_))) <;> simp -dsimp (disch := (first | omega | (simp only [LN]; omega))) only [go_sem, ↓reduceIte, seval, hlen])
      | ((with_reducible refine hK _ ?_); clear hK K)
      | (with_reducible first | refine AWP.seq ?_ | refine thenQ_normal ?_ | refine AWP.block ?_ | refine AWP.skip ?_ | refine AWP.ret ?_ | refine thenQ_ret ?_ | refine blockQ_ret ?_ | refine AWP.exit ?_ | refine thenQ_exit ?_ | refine blockQ_normal ?_ | refine blockQ_exit ?_)
      | refine blockQ_exit_ne rfl ?_
      | (with_reducible refine And.intro (by (first | with_reducible rfl | with_reducible assumption | omega | (simp only [LN]; first | done | with_reducible rfl | omega) | (simp only [NM, LN]; first | done | with_reducible assumption | omega) | (and_intros <;> first | with_reducible assumption | omega | (simp only [LN]; omega)) | fail)) ?_)
      | ((with_reducible refine AWP.condG (T := TT) (b := ?_) ?_ ?_); rotate_left; exact rfl)
      | (with_reducible first | refine CondG.t ?_ | refine CondG.f ?_ | refine CondG.not ?_)
      | ((with_reducible refine CondG.isT ?_ ?_); focus (first | with_reducible rfl | with_reducible assumption | (simp only [NM, LN]; first | done | with_reducible assumption | omega)))
      | ((with_reducible refine CondG.isF ?_ ?_); focus (first | with_reducible rfl | with_reducible assumption | (simp only [NM, LN]; first | done | with_reducible assumption | omega)))
      | ((with_reducible refine CondG.split (fun h => ?_) (fun h => ?_)) <;> (try simp only [NM] at h)))
    intro K hK
    simp -dsimp (disch := (first | omega | (simp only [LN]; omega))) only [go_sem, ↓reduceIte, seval, hlen]
    repeat' (first
      | ((first
        | with_reducible refine AWP.regionL tyOk fun K hK => ?_
        | ((with_reducible first | refine GOn.isT ?_ ?_ | refine HOn.isT ?_ ?_ | refine pickK.isT ?_ ?_); focus (first | with_reducible rfl | with_reducible assumption | (simp only [NM, LN]; first | done | with_reducible assumption | omega)))
        | ((with_reducible first | refine GOn.isF ?_ ?_ | refine HOn.isF ?_ ?_ | refine pickK.isF ?_ ?_); focus (first | with_reducible rfl | with_reducible assumption | (simp only [NM, LN]; first | done | with_reducible assumption | omega)))
        | ((with_reducible first | refine GOn.split (fun h => ?_) (fun h => ?_) | refine HOn.split (fun h => ?_) (fun h => ?_) | refine pickK.split (fun h => ?_) (fun h => ?_)) <;> (try simp only [NM] at h))) <;> simp -dsimp (disch := (first | omega | (simp only [LN]; omega))) only [go_sem, ↓reduceIte, seval, hlen])
      | ((with_reducible refine hK _ ?_); clear hK K)
      | (with_reducible first | refine AWP.seq ?_ | refine thenQ_normal ?_ | refine AWP.block ?_ | refine AWP.skip ?_ | refine AWP.ret ?_ | refine thenQ_ret ?_ | refine blockQ_ret ?_ | refine AWP.exit ?_ | refine thenQ_exit ?_ | refine blockQ_normal ?_ | refine blockQ_exit ?_)
      | refine blockQ_exit_ne rfl ?_
      | (with_reducible refine And.intro (by (first | with_reducible rfl | with_reducible assumption | omega | (simp only [LN]; first | done | with_reducible rfl | omega) | (simp only [NM, LN]; first | done | with_reducible assumption | omega) | (and_intros <;> first | with_reducible assumption | omega | (simp only [LN]; omega)) | fail)) ?_)
      | ((with_reducible refine AWP.condG (T := TT) (b := ?_) ?_ ?_); rotate_left; exact rfl)
      | (with_reducible first | refine CondG.t ?_ | refine CondG.f ?_ | refine CondG.not ?_)
      | ((with_reducible refine CondG.isT ?_ ?_); focus (first | with_reducible rfl | with_reducible assumption | (simp only [NM, LN]; first | done | with_reducible assumption | omega)))
      | ((with_reducible refine CondG.isF ?_ ?_); focus (first | with_reducible rfl | with_reducible assumption | (simp only [NM, LN]; first | done | with_reducible assumption | omega)))
      | ((with_reducible refine CondG.split (fun h => ?_) (fun h => ?_)) <;> (try simp only [NM] at h)))
    refine ⟨⟨k + 1, by omega⟩, by simp only; omega, ?_⟩
    have e := take_snoc i k hc
    exact St.le_mk (by simp only [LE, EN, Nat.reduceEqDiff, reduceIte, Nat.reduceSub, e, eRel, eRows]) (by simp only [LE, EN, Nat.reduceEqDiff, reduceIte, Nat.reduceSub, e, eRel, eRows]) (by simp only [LE, EN, Nat.reduceEqDiff, reduceIte, Nat.reduceSub, e, eRel, eRows])
  · have hk : k = i.length := by omega
    subst hk
    repeat' (first
      | ((first
        | with_reducible refine AWP.regionL tyOk fun K hK => ?_
        | ((with_reducible first | refine GOn.isT ?_ ?_ | refine HOn.isT ?_ ?_ | refine pickK.isT ?_ ?_); focus (first | with_reducible rfl | with_reducible assumption | (simp only [NM, LN]; first | done | with_reducible assumption | omega)))
        | ((with_reducible first | refine GOn.isF ?_ ?_ | refine HOn.isF ?_ ?_ | refine pickK.isF ?_ ?_); focus (first | with_reducible rfl | with_reducible assumption | (simp only [NM, LN]; first | done | with_reducible assumption | omega)))
        | ((with_reducible first | refine GOn.split (fun h => ?_) (fun h => ?_) | refine HOn.split (fun h => ?_) (fun h => ?_) | refine pickK.split (fun h => ?_) (fun h => ?_)) <;> (try simp only [NM] at h))
        | with_reducible refine AWP.drawAll tyOk mixed 6 (by kernel_rfl) fun K hK => ?_) <;> simp -dsimp (disch := (first | omega | (simp only [LN]; omega))) only [go_sem, ↓reduceIte, seval])
      | ((with_reducible refine hK _ ?_); clear hK K)
      | (with_reducible first | refine AWP.seq ?_ | refine thenQ_normal ?_ | refine AWP.block ?_ | refine AWP.skip ?_ | refine AWP.ret ?_ | refine thenQ_ret ?_ | refine blockQ_ret ?_ | refine AWP.exit ?_ | refine thenQ_exit ?_ | refine blockQ_normal ?_ | refine blockQ_exit ?_)
      | refine blockQ_exit_ne rfl ?_
      | (with_reducible refine And.intro (by (first | with_reducible rfl | with_reducible assumption | omega | (simp only [LN]; first | done | with_reducible rfl | omega) | (simp only [NM, LN]; first | done | with_reducible assumption | omega) | (and_intros <;> first | with_reducible assumption | omega | (simp only [LN]; omega)) | fail)) ?_)
      | ((with_reducible refine AWP.condG (T := TT) (b := ?_) ?_ ?_); rotate_left; exact rfl)
      | (with_reducible first | refine CondG.t ?_ | refine CondG.f ?_ | refine CondG.not ?_)
      | ((with_reducible refine CondG.isT ?_ ?_); focus (first | with_reducible rfl | with_reducible assumption | (simp only [NM, LN]; first | done | with_reducible assumption | omega)))
      | ((with_reducible refine CondG.isF ?_ ?_); focus (first | with_reducible rfl | with_reducible assumption | (simp only [NM, LN]; first | done | with_reducible assumption | omega)))
      | ((with_reducible refine CondG.split (fun h => ?_) (fun h => ?_)) <;> (try simp only [NM] at h)))
    simp -dsimp (disch := (first | omega | (simp only [LN]; omega))) only [retQ, Try.results35, resVals, cellRV, resOf, St.rest, St.freeze, RT, go_sem, ↓reduceIte, seval]

/-- The sizes of a write that the reach gives. -/
def ChgsFit (cs : List Chg) : Prop := cs.length ≤ 140737488355328 ∧ ∀ c ∈ cs, c.key.length ≤ 140737488355328 ∧ c.row.length ≤ 140737488355328
theorem confFits {s : Sch} {i : Inst} (hs : Small s) (h : confE s i = 0) : ∀ r ∈ i, r.rows.length ≤ 140737488355328 ∧ ∀ x ∈ r.rows, x.length ≤ 140737488355328 := by
  intro r hr
  obtain ⟨k, hk, rfl⟩ := List.mem_iff_getElem.1 hr
  obtain ⟨h1, h2⟩ := (confE_zero s i).1 h
  have hk' : k < s.tables.length := by omega
  have o := (h2 k hk).2
  have := o.n24
  refine ⟨by omega, fun x hx => ?_⟩
  obtain ⟨j, hj, rfl⟩ := List.mem_iff_getElem.1 hx
  have h3 := ((rowE_zero _ _).1 (o.row j hj)).1
  rw [h3, getD_lt _ hk']
  have := (hs.table _ (List.getElem_mem hk')).1
  omega
set_option maxHeartbeats 16000000 in
theorem apply_sat (s : Sch) (i : Inst) (cs : List Chg) (hf : s.Fits) (hi : InstFits i) (hcs : ChgsFit cs) :
    Sat Try.prog 41 [.agg (eSch s), .one (eInst i), .one (eChgs cs)] (.tup [.one (eInst (applyE s i cs).2), oI (applyE s i cs).1]) := by
  by_cases h0 : schE s = 0
  case neg =>
    have spec : applyE s i cs = (schE s, []) := by simp [applyE, h0]
    rw [spec]
    refine sat_of_body tyOk Try.func41 rfl (by kernel_rfl) ⟨Nat.le_of_ble_eq_true rfl, Nat.le_of_ble_eq_true rfl⟩ fun w0 m0 F0 => ?_
    simp only [Try.ntmps41, envOf, Nat.reduceAdd]
    repeat' (first
      | ((first
        | with_reducible refine AWP.regionL tyOk fun K hK => ?_
        | ((with_reducible first | refine GOn.isT ?_ ?_ | refine HOn.isT ?_ ?_ | refine pickK.isT ?_ ?_); focus (first | with_reducible rfl | with_reducible assumption | (simp only [NM, LN]; first | done | with_reducible assumption | omega)))
        | ((with_reducible first | refine GOn.isF ?_ ?_ | refine HOn.isF ?_ ?_ | refine pickK.isF ?_ ?_); focus (first | with_reducible rfl | with_reducible assumption | (simp only [NM, LN]; first | done | with_reducible assumption | omega)))
        | ((with_reducible first | refine GOn.split (fun h => ?_) (fun h => ?_) | refine HOn.split (fun h => ?_) (fun h => ?_) | refine pickK.split (fun h => ?_) (fun h => ?_)) <;> (try simp only [NM] at h))
        | with_reducible refine AWP.drawAll tyOk mixed 6 (by kernel_rfl) fun K hK => ?_
        | ((with_reducible refine CallJ.is ?_); (first | refine CallJ.pure (schValidate_sat s hf) ?_ | ((apply CallJ.lentI); (focus (simp -dsimp (disch := (first | omega | (simp only [LN]; omega))) only [go_sem, ↓reduceIte, seval, h0]; rfl)); (focus (first | exact (schValidate_sat s hf))))))
        | ((with_reducible refine CallH.is ?_); (first | refine CallH.intro (schValidate_sat s hf) ?_))) <;> simp -dsimp (disch := (first | omega | (simp only [LN]; omega))) only [go_sem, ↓reduceIte, seval, h0])
      | ((with_reducible refine hK _ ?_); clear hK K)
      | (with_reducible first | refine AWP.seq ?_ | refine thenQ_normal ?_ | refine AWP.block ?_ | refine AWP.skip ?_ | refine AWP.ret ?_ | refine thenQ_ret ?_ | refine blockQ_ret ?_ | refine AWP.exit ?_ | refine thenQ_exit ?_ | refine blockQ_normal ?_ | refine blockQ_exit ?_)
      | refine blockQ_exit_ne rfl ?_
      | (with_reducible refine And.intro (by (first | with_reducible rfl | with_reducible assumption | omega | (simp only [LN]; first | done | with_reducible rfl | omega) | (simp only [NM, LN]; first | done | with_reducible assumption | omega) | (and_intros <;> first | with_reducible assumption | omega | (simp only [LN]; omega)) | fail)) ?_)
      | ((with_reducible refine AWP.condG (T := TT) (b := ?_) ?_ ?_); rotate_left; exact rfl)
      | (with_reducible first | refine CondG.t ?_ | refine CondG.f ?_ | refine CondG.not ?_)
      | ((with_reducible refine CondG.isT ?_ ?_); focus (first | with_reducible rfl | with_reducible assumption | (simp only [NM, LN]; first | done | with_reducible assumption | omega)))
      | ((with_reducible refine CondG.isF ?_ ?_); focus (first | with_reducible rfl | with_reducible assumption | (simp only [NM, LN]; first | done | with_reducible assumption | omega)))
      | ((with_reducible refine CondG.split (fun h => ?_) (fun h => ?_)) <;> (try simp only [NM] at h)))
    all_goals simp -dsimp (disch := (first | omega | (simp only [LN]; omega))) only [retQ, Try.results41, resVals, cellRV, resOf, St.rest, St.freeze, RT, go_sem, ↓reduceIte, seval]
  have sm := small_of h0
  have B : Bounds0 s i := sm.bounds0 hi.2
  by_cases h1 : confE s i = 0
  case neg =>
    have spec : applyE s i cs = (confE s i, []) := by simp [applyE, h0, h1]
    rw [spec]
    refine sat_of_body tyOk Try.func41 rfl (by kernel_rfl) ⟨Nat.le_of_ble_eq_true rfl, Nat.le_of_ble_eq_true rfl⟩ fun w0 m0 F0 => ?_
    simp only [Try.ntmps41, envOf, Nat.reduceAdd]
    repeat' (first
      | ((first
        | with_reducible refine AWP.regionL tyOk fun K hK => ?_
        | ((with_reducible first | refine GOn.isT ?_ ?_ | refine HOn.isT ?_ ?_ | refine pickK.isT ?_ ?_); focus (first | with_reducible rfl | with_reducible assumption | (simp only [NM, LN]; first | done | with_reducible assumption | omega)))
        | ((with_reducible first | refine GOn.isF ?_ ?_ | refine HOn.isF ?_ ?_ | refine pickK.isF ?_ ?_); focus (first | with_reducible rfl | with_reducible assumption | (simp only [NM, LN]; first | done | with_reducible assumption | omega)))
        | ((with_reducible first | refine GOn.split (fun h => ?_) (fun h => ?_) | refine HOn.split (fun h => ?_) (fun h => ?_) | refine pickK.split (fun h => ?_) (fun h => ?_)) <;> (try simp only [NM] at h))
        | with_reducible refine AWP.drawAll tyOk mixed 6 (by kernel_rfl) fun K hK => ?_
        | ((with_reducible refine CallJ.is ?_); (first | refine CallJ.pure (schValidate_sat s hf) ?_ | refine CallJ.pure (conforms_sat s i B hi.1) ?_ | ((apply CallJ.lentI); (focus (simp -dsimp (disch := (first | omega | (simp only [LN]; omega))) only [go_sem, ↓reduceIte, seval, h0, h1]; rfl)); (focus (first | exact (schValidate_sat s hf) | exact (conforms_sat s i B hi.1))))))
        | ((with_reducible refine CallH.is ?_); (first | refine CallH.intro (schValidate_sat s hf) ?_ | refine CallH.intro (conforms_sat s i B hi.1) ?_))) <;> simp -dsimp (disch := (first | omega | (simp only [LN]; omega))) only [go_sem, ↓reduceIte, seval, h0, h1])
      | ((with_reducible refine hK _ ?_); clear hK K)
      | (with_reducible first | refine AWP.seq ?_ | refine thenQ_normal ?_ | refine AWP.block ?_ | refine AWP.skip ?_ | refine AWP.ret ?_ | refine thenQ_ret ?_ | refine blockQ_ret ?_ | refine AWP.exit ?_ | refine thenQ_exit ?_ | refine blockQ_normal ?_ | refine blockQ_exit ?_)
      | refine blockQ_exit_ne rfl ?_
      | (with_reducible refine And.intro (by (first | with_reducible rfl | with_reducible assumption | omega | (simp only [LN]; first | done | with_reducible rfl | omega) | (simp only [NM, LN]; first | done | with_reducible assumption | omega) | (and_intros <;> first | with_reducible assumption | omega | (simp only [LN]; omega)) | fail)) ?_)
      | ((with_reducible refine AWP.condG (T := TT) (b := ?_) ?_ ?_); rotate_left; exact rfl)
      | (with_reducible first | refine CondG.t ?_ | refine CondG.f ?_ | refine CondG.not ?_)
      | ((with_reducible refine CondG.isT ?_ ?_); focus (first | with_reducible rfl | with_reducible assumption | (simp only [NM, LN]; first | done | with_reducible assumption | omega)))
      | ((with_reducible refine CondG.isF ?_ ?_); focus (first | with_reducible rfl | with_reducible assumption | (simp only [NM, LN]; first | done | with_reducible assumption | omega)))
      | ((with_reducible refine CondG.split (fun h => ?_) (fun h => ?_)) <;> (try simp only [NM] at h)))
    all_goals simp -dsimp (disch := (first | omega | (simp only [LN]; omega))) only [retQ, Try.results41, resVals, cellRV, resOf, St.rest, St.freeze, RT, go_sem, ↓reduceIte, seval]
  by_cases h2 : 24 < cs.length
  · have spec : applyE s i cs = (2, []) := by simp [applyE, h0, h1, h2]
    rw [spec]
    refine sat_of_body tyOk Try.func41 rfl (by kernel_rfl) ⟨Nat.le_of_ble_eq_true rfl, Nat.le_of_ble_eq_true rfl⟩ fun w0 m0 F0 => ?_
    simp only [Try.ntmps41, envOf, Nat.reduceAdd]
    repeat' (first
      | ((first
        | with_reducible refine AWP.regionL tyOk fun K hK => ?_
        | ((with_reducible first | refine GOn.isT ?_ ?_ | refine HOn.isT ?_ ?_ | refine pickK.isT ?_ ?_); focus (first | with_reducible rfl | with_reducible assumption | (simp only [NM, LN]; first | done | with_reducible assumption | omega)))
        | ((with_reducible first | refine GOn.isF ?_ ?_ | refine HOn.isF ?_ ?_ | refine pickK.isF ?_ ?_); focus (first | with_reducible rfl | with_reducible assumption | (simp only [NM, LN]; first | done | with_reducible assumption | omega)))
        | ((with_reducible first | refine GOn.split (fun h => ?_) (fun h => ?_) | refine HOn.split (fun h => ?_) (fun h => ?_) | refine pickK.split (fun h => ?_) (fun h => ?_)) <;> (try simp only [NM] at h))
        | with_reducible refine AWP.drawAll tyOk mixed 6 (by kernel_rfl) fun K hK => ?_
        | ((with_reducible refine CallJ.is ?_); (first | refine CallJ.pure (schValidate_sat s hf) ?_ | refine CallJ.pure (conforms_sat s i B hi.1) ?_ | ((apply CallJ.lentI); (focus (simp -dsimp (disch := (first | omega | (simp only [LN]; omega))) only [go_sem, ↓reduceIte, seval, h0, h1]; rfl)); (focus (first | exact (schValidate_sat s hf) | exact (conforms_sat s i B hi.1))))))
        | ((with_reducible refine CallH.is ?_); (first | refine CallH.intro (schValidate_sat s hf) ?_ | refine CallH.intro (conforms_sat s i B hi.1) ?_))) <;> simp -dsimp (disch := (first | omega | (simp only [LN]; omega))) only [go_sem, ↓reduceIte, seval, h0, h1])
      | ((with_reducible refine hK _ ?_); clear hK K)
      | (with_reducible first | refine AWP.seq ?_ | refine thenQ_normal ?_ | refine AWP.block ?_ | refine AWP.skip ?_ | refine AWP.ret ?_ | refine thenQ_ret ?_ | refine blockQ_ret ?_ | refine AWP.exit ?_ | refine thenQ_exit ?_ | refine blockQ_normal ?_ | refine blockQ_exit ?_)
      | refine blockQ_exit_ne rfl ?_
      | (with_reducible refine And.intro (by (first | with_reducible rfl | with_reducible assumption | omega | (simp only [LN]; first | done | with_reducible rfl | omega) | (simp only [NM, LN]; first | done | with_reducible assumption | omega) | (and_intros <;> first | with_reducible assumption | omega | (simp only [LN]; omega)) | fail)) ?_)
      | ((with_reducible refine AWP.condG (T := TT) (b := ?_) ?_ ?_); rotate_left; exact rfl)
      | (with_reducible first | refine CondG.t ?_ | refine CondG.f ?_ | refine CondG.not ?_)
      | ((with_reducible refine CondG.isT ?_ ?_); focus (first | with_reducible rfl | with_reducible assumption | (simp only [NM, LN]; first | done | with_reducible assumption | omega)))
      | ((with_reducible refine CondG.isF ?_ ?_); focus (first | with_reducible rfl | with_reducible assumption | (simp only [NM, LN]; first | done | with_reducible assumption | omega)))
      | ((with_reducible refine CondG.split (fun h => ?_) (fun h => ?_)) <;> (try simp only [NM] at h)))
    all_goals simp -dsimp (disch := (first | omega | (simp only [LN]; omega))) only [retQ, Try.results41, resVals, cellRV, resOf, St.rest, St.freeze, RT, go_sem, ↓reduceIte, seval]
  have spec : applyE s i cs = applyL s i cs := by simp [applyE, h0, h1, h2]
  rw [spec]
  obtain ⟨c1, _⟩ := (confE_zero s i).1 h1
  have m1 := sm.tables
  have Bi := bounds_of B h1
  refine sat_of_body tyOk Try.func41 rfl (by kernel_rfl) ⟨Nat.le_of_ble_eq_true rfl, Nat.le_of_ble_eq_true rfl⟩ fun w0 m0 F0 => ?_
  simp only [Try.ntmps41, envOf, Nat.reduceAdd]
  repeat' (first
    | ((first
      | with_reducible refine AWP.regionL tyOk fun K hK => ?_
      | ((with_reducible first | refine GOn.isT ?_ ?_ | refine HOn.isT ?_ ?_ | refine pickK.isT ?_ ?_); focus (first | with_reducible rfl | with_reducible assumption | (simp only [NM, LN]; first | done | with_reducible assumption | omega)))
      | ((with_reducible first | refine GOn.isF ?_ ?_ | refine HOn.isF ?_ ?_ | refine pickK.isF ?_ ?_); focus (first | with_reducible rfl | with_reducible assumption | (simp only [NM, LN]; first | done | with_reducible assumption | omega)))
      | ((with_reducible first | refine GOn.split (fun h => ?_) (fun h => ?_) | refine HOn.split (fun h => ?_) (fun h => ?_) | refine pickK.split (fun h => ?_) (fun h => ?_)) <;> (try simp only [NM] at h))
      | ((with_reducible refine CallJ.is ?_); refine CallJ.io [] [] [] [(2, 33)] [] [33] [] [33] (instClone_own i (by omega) Bi.rel) rfl ⟨rfl, rfl, rfl, rfl⟩ ?_ ?_ ?_; (focus (simp -dsimp (disch := (first | omega | (simp only [LN]; omega))) only [go_sem, ↓reduceIte, seval, h0, h1, dropL_nil, dropL_nil', dropL_cons]; done)); (focus (simp -dsimp (disch := (first | omega | (simp only [LN]; omega))) only [go_sem, ↓reduceIte, seval, h0, h1, dropL_nil, dropL_nil', dropL_cons]; done)))
      | ((with_reducible refine CallJ.is ?_); (first | refine CallJ.pure (schValidate_sat s hf) ?_ | refine CallJ.pure (conforms_sat s i B hi.1) ?_ | ((apply CallJ.lentI); (focus (simp -dsimp (disch := (first | omega | (simp only [LN]; omega))) only [go_sem, ↓reduceIte, seval, h0, h1, dropL_nil, dropL_nil', dropL_cons]; rfl)); (focus (first | exact (schValidate_sat s hf) | exact (conforms_sat s i B hi.1))))))
      | ((with_reducible refine CallH.is ?_); (first | refine CallH.intro (schValidate_sat s hf) ?_ | refine CallH.intro (conforms_sat s i B hi.1) ?_))) <;> simp -dsimp (disch := (first | omega | (simp only [LN]; omega))) only [go_sem, ↓reduceIte, seval, h0, h1, dropL_nil, dropL_nil', dropL_cons])
    | ((with_reducible refine hK _ ?_); clear hK K)
    | (with_reducible first | refine AWP.seq ?_ | refine thenQ_normal ?_ | refine AWP.block ?_ | refine AWP.skip ?_ | refine AWP.ret ?_ | refine thenQ_ret ?_ | refine blockQ_ret ?_ | refine AWP.exit ?_ | refine thenQ_exit ?_ | refine blockQ_normal ?_ | refine blockQ_exit ?_)
    | refine blockQ_exit_ne rfl ?_
    | (with_reducible refine And.intro (by (first | with_reducible rfl | with_reducible assumption | omega | (simp only [LN]; first | done | with_reducible rfl | omega) | (simp only [NM, LN]; first | done | with_reducible assumption | omega) | (and_intros <;> first | with_reducible assumption | omega | (simp only [LN]; omega)) | fail)) ?_)
    | ((with_reducible refine AWP.condG (T := TT) (b := ?_) ?_ ?_); rotate_left; exact rfl)
    | (with_reducible first | refine CondG.t ?_ | refine CondG.f ?_ | refine CondG.not ?_)
    | ((with_reducible refine CondG.isT ?_ ?_); focus (first | with_reducible rfl | with_reducible assumption | (simp only [NM, LN]; first | done | with_reducible assumption | omega)))
    | ((with_reducible refine CondG.isF ?_ ?_); focus (first | with_reducible rfl | with_reducible assumption | (simp only [NM, LN]; first | done | with_reducible assumption | omega)))
    | ((with_reducible refine CondG.split (fun h => ?_) (fun h => ?_)) <;> (try simp only [NM] at h)))
  refine AWP.loop (ι := {p : Nat × Inst // p.1 ≤ cs.length ∧ confE s p.2 = 0 ∧ applyL s p.2 (cs.drop p.1) = applyL s i cs}) (fun p => ⟨101, [(3, .v (.one (.ptr 3 0))), (10, .v (.one (.ref 10 0 i.length))), (34, .v (.one (eChgs cs))), (35, .v (oI cs.length)), (36, .v (oI p.1.1))], [(3, eSch s)], [(10, ⟨2, p.1.2.map eRel, []⟩)]⟩) (fun p => cs.length - p.1.1) ⟨(0, i), Nat.zero_le _, h1, rfl⟩ ?_ fun ⟨(k, cur), hkl, hcf, hap⟩ => ?_
  · exact St.le_mk (by simp only [LE, EN, Nat.reduceEqDiff, reduceIte, Nat.reduceSub, eSch]) (by simp only [LE, EN, Nat.reduceEqDiff, reduceIte, Nat.reduceSub, eSch]) (by simp only [LE, EN, Nat.reduceEqDiff, reduceIte, Nat.reduceSub, eSch])
  simp only at hkl hcf hap ⊢
  obtain ⟨d1, _⟩ := (confE_zero s cur).1 hcf
  have hlen : cur.length = i.length := by omega
  rcases Nat.lt_or_ge k cs.length with hc | hc
  · obtain ⟨f1, f2⟩ := hcs.2 cs[k] (List.getElem_mem hc)
    have step : applyL s cur (cs.drop k) = if (applyC s cur cs[k]).1 ≠ 0 then ((applyC s cur cs[k]).1, []) else applyL s (applyC s cur cs[k]).2 (cs.drop (k + 1)) := by
      rw [List.drop_eq_getElem_cons hc]; rfl
    rw [hap] at step
    have cv := chgValidate_sat s cs[k] h0 f1 f2
    by_cases hE : chgE s cs[k] = 0
    case neg =>
      have st2 : applyL s i cs = (chgE s cs[k], []) := by rw [step]; simp [applyC, hE]
      rw [st2]
      repeat' (first
        | ((first
          | with_reducible refine AWP.regionL tyOk fun K hK => ?_
          | ((with_reducible first | refine GOn.isT ?_ ?_ | refine HOn.isT ?_ ?_ | refine pickK.isT ?_ ?_); focus (first | with_reducible rfl | with_reducible assumption | (simp only [NM, LN]; first | done | with_reducible assumption | omega)))
          | ((with_reducible first | refine GOn.isF ?_ ?_ | refine HOn.isF ?_ ?_ | refine pickK.isF ?_ ?_); focus (first | with_reducible rfl | with_reducible assumption | (simp only [NM, LN]; first | done | with_reducible assumption | omega)))
          | ((with_reducible first | refine GOn.split (fun h => ?_) (fun h => ?_) | refine HOn.split (fun h => ?_) (fun h => ?_) | refine pickK.split (fun h => ?_) (fun h => ?_)) <;> (try simp only [NM] at h))
          | ((with_reducible refine CallJ.is ?_); (first | refine CallJ.pure (cv) ?_ | ((apply CallJ.lentI); (focus (simp -dsimp (disch := (first | omega | (simp only [LN]; omega))) only [go_sem, ↓reduceIte, seval, hE]; rfl)); (focus (first | exact (cv))))))
          | ((with_reducible refine CallH.is ?_); (first | refine CallH.intro (cv) ?_))) <;> simp -dsimp (disch := (first | omega | (simp only [LN]; omega))) only [go_sem, ↓reduceIte, seval, hE])
        | ((with_reducible refine hK _ ?_); clear hK K)
        | (with_reducible first | refine AWP.seq ?_ | refine thenQ_normal ?_ | refine AWP.block ?_ | refine AWP.skip ?_ | refine AWP.ret ?_ | refine thenQ_ret ?_ | refine blockQ_ret ?_ | refine AWP.exit ?_ | refine thenQ_exit ?_ | refine blockQ_normal ?_ | refine blockQ_exit ?_)
        | refine blockQ_exit_ne rfl ?_
        | (with_reducible refine And.intro (by (first | with_reducible rfl | with_reducible assumption | omega | (simp only [LN]; first | done | with_reducible rfl | omega) | (simp only [NM, LN]; first | done | with_reducible assumption | omega) | (and_intros <;> first | with_reducible assumption | omega | (simp only [LN]; omega)) | fail)) ?_)
        | ((with_reducible refine AWP.condG (T := TT) (b := ?_) ?_ ?_); rotate_left; exact rfl)
        | (with_reducible first | refine CondG.t ?_ | refine CondG.f ?_ | refine CondG.not ?_)
        | ((with_reducible refine CondG.isT ?_ ?_); focus (first | with_reducible rfl | with_reducible assumption | (simp only [NM, LN]; first | done | with_reducible assumption | omega)))
        | ((with_reducible refine CondG.isF ?_ ?_); focus (first | with_reducible rfl | with_reducible assumption | (simp only [NM, LN]; first | done | with_reducible assumption | omega)))
        | ((with_reducible refine CondG.split (fun h => ?_) (fun h => ?_)) <;> (try simp only [NM] at h)))
      all_goals simp -dsimp (disch := (first | omega | (simp only [LN]; omega))) only [retQ, Try.results41, resVals, cellRV, resOf, St.rest, St.freeze, RT, go_sem, ↓reduceIte, seval]
    have o := okChg_of hE
    obtain ⟨j, hjj⟩ : ∃ j, tpos s cs[k] = j := ⟨_, rfl⟩
    have hjl := o.lt
    have fs := findTable_sat s cs[k].table (by omega)
    rw [o.pos, hjj, mx0_nat] at fs
    rw [hjj] at hjl
    have hj : j < cur.length := by omega
    have et : tblOf s cs[k].table = s.tables[j] := by rw [o.tbl, hjj]; exact getD_lt _ hjl
    have eg : cur.getD j zRel = cur[j] := getD_lt _ hj
    have Bc := bounds_of (sm.bounds0 (confFits sm hcf)) hcf
    obtain ⟨r1, r2⟩ := Bc.rel cur[j] (List.getElem_mem hj)
    have hpk := (sm.table _ (List.getElem_mem hjl)).2
    have a1 : applyC s cur cs[k] = if cs[k].kind = 1 then if 24 < (upsertR s.tables[j] cur[j].rows cs[k].row).length then (2, []) else (0, setRows cur j (upsertR s.tables[j] cur[j].rows cs[k].row)) else if findB s.tables[j] cur[j].rows cs[k].key then (0, setRows cur j (deleteR s.tables[j] cur[j].rows cs[k].key)) else (9, []) := by
      simp only [applyC, hE, ne_eq, not_true_eq_false, if_false, hjj, et, eg]
    rcases o.kind with hk | hk
    · have b0 := (rowE_zero _ _).1 (et ▸ (o.up hk).2)
      have b1 := (sm.table _ (List.getElem_mem hjl)).1
      rw [if_pos hk] at a1
      have hg : ∀ h : j < (setRows cur j (upsertR s.tables[j] cur[j].rows cs[k].row)).length, (setRows cur j (upsertR s.tables[j] cur[j].rows cs[k].row))[j]'h = ⟨cur[j].table, upsertR s.tables[j] cur[j].rows cs[k].row⟩ := fun h => by rw [setRows_get hj, if_pos rfl]
      have hCl := setRows_length cur j (upsertR s.tables[j] cur[j].rows cs[k].row)
      have ex : (cur.map eRel).set j [L.str cur[j].table, L.sl 1 (List.map eRow1 (upsertR s.tables[j] cur[j].rows cs[k].row))] = (setRows cur j (upsertR s.tables[j] cur[j].rows cs[k].row)).map eRel := by
        simp only [setRows, List.map_set, eg, eRel, eRows]
      obtain ⟨C, hC⟩ : ∃ C, setRows cur j (upsertR s.tables[j] cur[j].rows cs[k].row) = C := ⟨_, rfl⟩
      simp only [hC] at hg hCl a1 ex
      have hjC : j < C.length := by omega
      have hg := hg hjC
      repeat' (first
        | ((first
          | with_reducible refine AWP.regionL tyOk fun K hK => ?_
          | ((with_reducible first | refine GOn.isT ?_ ?_ | refine HOn.isT ?_ ?_ | refine pickK.isT ?_ ?_); focus (first | with_reducible rfl | with_reducible assumption | (simp only [NM, LN]; first | done | with_reducible assumption | omega)))
          | ((with_reducible first | refine GOn.isF ?_ ?_ | refine HOn.isF ?_ ?_ | refine pickK.isF ?_ ?_); focus (first | with_reducible rfl | with_reducible assumption | (simp only [NM, LN]; first | done | with_reducible assumption | omega)))
          | ((with_reducible refine CallJ.is ?_); (first | refine CallJ.pure (cv) ?_ | refine CallJ.pure (fs) ?_ | ((apply CallJ.lentI); (focus (simp -dsimp (disch := (first | omega | (simp only [LN]; omega))) only [go_sem, ↓reduceIte, seval, hE]; rfl)); (focus (first | exact (cv) | exact (fs))))))
          | ((with_reducible refine CallH.is ?_); (first | refine CallH.intro (cv) ?_ | refine CallH.intro (fs) ?_))) <;> simp -dsimp (disch := (first | omega | (simp only [LN]; omega))) only [go_sem, ↓reduceIte, seval, hE])
        | ((with_reducible refine hK _ ?_); clear hK K)
        | (with_reducible first | refine AWP.seq ?_ | refine thenQ_normal ?_ | refine AWP.block ?_ | refine AWP.skip ?_ | refine AWP.ret ?_ | refine thenQ_ret ?_ | refine blockQ_ret ?_ | refine AWP.exit ?_ | refine thenQ_exit ?_ | refine blockQ_normal ?_ | refine blockQ_exit ?_)
        | refine blockQ_exit_ne rfl ?_
        | (with_reducible refine And.intro (by (first | with_reducible rfl | with_reducible assumption | omega | (simp only [LN]; first | done | with_reducible rfl | omega) | (simp only [NM, LN]; first | done | with_reducible assumption | omega) | (and_intros <;> first | with_reducible assumption | omega | (simp only [LN]; omega)) | fail)) ?_)
        | ((with_reducible refine AWP.condG (T := TT) (b := ?_) ?_ ?_); rotate_left; exact rfl)
        | (with_reducible first | refine CondG.t ?_ | refine CondG.f ?_ | refine CondG.not ?_)
        | ((with_reducible refine CondG.isT ?_ ?_); focus (first | with_reducible rfl | with_reducible assumption | (simp only [NM, LN]; first | done | with_reducible assumption | omega)))
        | ((with_reducible refine CondG.isF ?_ ?_); focus (first | with_reducible rfl | with_reducible assumption | (simp only [NM, LN]; first | done | with_reducible assumption | omega))))
      refine AWP.keep [3, 10, 12, 14, 16, 34, 35, 36] ?_
      simp -dsimp (disch := (first | omega | (simp only [LN]; omega))) only [go_sem, ↓reduceIte, seval, RT]
      by_cases hU : 24 < (upsertR s.tables[j] cur[j].rows cs[k].row).length
      · have st2 : applyL s i cs = (2, []) := by rw [step, a1, if_pos hU]; rfl
        have hU' : 24 < ((upsertR s.tables[j] cur[j].rows cs[k].row).length : Int) := by omega
        rw [st2]
        refine AWP.drawX tyOk mixed [(0, 10)] [(10, [(11, 2)], [(0, 2)]), (13, [], [])] [10, 13] 8 (by decide) (by kernel_rfl) (by kernel_rfl) (by kernel_rfl) (by kernel_rfl) fun K hK => ?_
        simp only [segx_nil, segx_cons, segs, List.drop_succ_cons, List.drop_zero, List.take_succ_cons, List.take_zero, List.getElem?_cons_zero, List.getElem?_cons_succ, List.cons_append, List.nil_append, List.append_nil] at hK ⊢
        simp -dsimp (disch := (first | omega | (simp only [LN]; omega))) only [go_sem, ↓reduceIte, seval, hlen]
        repeat' (first
          | ((first
            | with_reducible refine AWP.regionL tyOk fun K hK => ?_
            | ((with_reducible first | refine GOn.isT ?_ ?_ | refine HOn.isT ?_ ?_ | refine pickK.isT ?_ ?_); focus (first | with_reducible rfl | with_reducible assumption | (simp only [NM, LN]; first | done | with_reducible assumption | omega)))
            | ((with_reducible first | refine GOn.isF ?_ ?_ | refine HOn.isF ?_ ?_ | refine pickK.isF ?_ ?_); focus (first | with_reducible rfl | with_reducible assumption | (simp only [NM, LN]; first | done | with_reducible assumption | omega)))
            | ((with_reducible refine CallJ.is ?_); (first | refine CallJ.pure (relUpsert_sat s.tables[j] cur[j].rows cs[k].row (by omega) r1 (by omega) r2) ?_ | ((apply CallJ.lentI); (focus (simp -dsimp (disch := (first | omega | (simp only [LN]; omega))) only [go_sem, ↓reduceIte, seval, hlen, ex, hCl, hg, Option.getD_none]; rfl)); (focus (first | exact (relUpsert_sat s.tables[j] cur[j].rows cs[k].row (by omega) r1 (by omega) r2))))))
            | ((with_reducible refine CallH.is ?_); (first | refine CallH.intro (relUpsert_sat s.tables[j] cur[j].rows cs[k].row (by omega) r1 (by omega) r2) ?_))) <;> simp -dsimp (disch := (first | omega | (simp only [LN]; omega))) only [go_sem, ↓reduceIte, seval, hlen, ex, hCl, hg, Option.getD_none])
          | ((with_reducible refine hK _ ?_); clear hK K)
          | (with_reducible first | refine AWP.seq ?_ | refine thenQ_normal ?_ | refine AWP.block ?_ | refine AWP.skip ?_ | refine AWP.ret ?_ | refine thenQ_ret ?_ | refine blockQ_ret ?_ | refine AWP.exit ?_ | refine thenQ_exit ?_ | refine blockQ_normal ?_ | refine blockQ_exit ?_)
          | refine blockQ_exit_ne rfl ?_
          | ((with_reducible refine VCy.intro fun K0 hK0 => ?_))
          | ((with_reducible refine VCy.fin ?_); (refine hK0 _ ?_); clear hK0 K0)
          | (with_reducible first | refine VCy.quiet ?_ | refine VCy.none ?_)
          | ((with_reducible first | refine VCy.some fun K hK => ?_ | refine VCy.step fun K hK => ?_); simp -dsimp (disch := (first | omega | (simp only [LN]; omega))) only [go_sem, ↓reduceIte, seval, hlen, ex, hCl, hg, Option.getD_none])
          | ((with_reducible refine VCy.keep ?_ ?_); focus ((simp -dsimp (disch := (first | omega | (simp only [LN]; omega))) only [go_sem, ↓reduceIte, seval, Stable_cons, Stable_nil, sameA_some, sameA_none, hlen, ex, hCl, hg, Option.getD_none]); first | done | with_reducible assumption | omega | (repeat' with_reducible refine And.intro ?_ ?_) <;> first | with_reducible rfl | with_reducible assumption | omega))
          | (with_reducible refine And.intro (by (first | with_reducible rfl | with_reducible assumption | omega | (simp only [LN]; first | done | with_reducible rfl | omega) | (simp only [NM, LN]; first | done | with_reducible assumption | omega) | (and_intros <;> first | with_reducible assumption | omega | (simp only [LN]; omega)) | fail)) ?_)
          | ((with_reducible refine AWP.condG (T := TT) (b := ?_) ?_ ?_); rotate_left; exact rfl)
          | (with_reducible first | refine CondG.t ?_ | refine CondG.f ?_ | refine CondG.not ?_)
          | ((with_reducible refine CondG.isT ?_ ?_); focus (first | with_reducible rfl | with_reducible assumption | (simp only [NM, LN]; first | done | with_reducible assumption | omega)))
          | ((with_reducible refine CondG.isF ?_ ?_); focus (first | with_reducible rfl | with_reducible assumption | (simp only [NM, LN]; first | done | with_reducible assumption | omega))))
        simp -dsimp (disch := (first | omega | (simp only [LN]; omega))) only [retQ, Try.results41, resVals, cellRV, resOf, St.rest, St.freeze, RT, go_sem, ↓reduceIte, seval]
      · have a2 : applyC s cur cs[k] = (0, C) := by rw [a1, if_neg hU]
        have st2 : applyL s C (cs.drop (k + 1)) = applyL s i cs := by rw [step, a2]; rfl
        have hU' : ¬ 24 < ((upsertR s.tables[j] cur[j].rows cs[k].row).length : Int) := by omega
        have hcf2 : confE s C = 0 := by
          have := applyC_conf hcf (c := cs[k]) (by rw [a2])
          rwa [a2] at this
        refine AWP.drawX tyOk mixed [(0, 10)] [(10, [(11, 2)], [(0, 2)]), (13, [], [])] [10, 13] 8 (by decide) (by kernel_rfl) (by kernel_rfl) (by kernel_rfl) (by kernel_rfl) fun K hK => ?_
        simp only [segx_nil, segx_cons, segs, List.drop_succ_cons, List.drop_zero, List.take_succ_cons, List.take_zero, List.getElem?_cons_zero, List.getElem?_cons_succ, List.cons_append, List.nil_append, List.append_nil] at hK ⊢
        simp -dsimp (disch := (first | omega | (simp only [LN]; omega))) only [go_sem, ↓reduceIte, seval, hlen]
        repeat' (first
          | ((first
            | with_reducible refine AWP.regionL tyOk fun K hK => ?_
            | ((with_reducible first | refine GOn.isT ?_ ?_ | refine HOn.isT ?_ ?_ | refine pickK.isT ?_ ?_); focus (first | with_reducible rfl | with_reducible assumption | (simp only [NM, LN]; first | done | with_reducible assumption | omega)))
            | ((with_reducible first | refine GOn.isF ?_ ?_ | refine HOn.isF ?_ ?_ | refine pickK.isF ?_ ?_); focus (first | with_reducible rfl | with_reducible assumption | (simp only [NM, LN]; first | done | with_reducible assumption | omega)))
            | ((with_reducible refine CallJ.is ?_); (first | refine CallJ.pure (relUpsert_sat s.tables[j] cur[j].rows cs[k].row (by omega) r1 (by omega) r2) ?_ | ((apply CallJ.lentI); (focus (simp -dsimp (disch := (first | omega | (simp only [LN]; omega))) only [go_sem, ↓reduceIte, seval, hlen, ex, hCl, hg, Option.getD_none]; rfl)); (focus (first | exact (relUpsert_sat s.tables[j] cur[j].rows cs[k].row (by omega) r1 (by omega) r2))))))
            | ((with_reducible refine CallH.is ?_); (first | refine CallH.intro (relUpsert_sat s.tables[j] cur[j].rows cs[k].row (by omega) r1 (by omega) r2) ?_))) <;> simp -dsimp (disch := (first | omega | (simp only [LN]; omega))) only [go_sem, ↓reduceIte, seval, hlen, ex, hCl, hg, Option.getD_none])
          | ((with_reducible refine hK _ ?_); clear hK K)
          | (with_reducible first | refine AWP.seq ?_ | refine thenQ_normal ?_ | refine AWP.block ?_ | refine AWP.skip ?_ | refine AWP.ret ?_ | refine thenQ_ret ?_ | refine blockQ_ret ?_ | refine AWP.exit ?_ | refine thenQ_exit ?_ | refine blockQ_normal ?_ | refine blockQ_exit ?_)
          | refine blockQ_exit_ne rfl ?_
          | ((with_reducible refine VCy.intro fun K0 hK0 => ?_))
          | ((with_reducible refine VCy.fin ?_); (refine hK0 _ ?_); clear hK0 K0)
          | (with_reducible first | refine VCy.quiet ?_ | refine VCy.none ?_)
          | ((with_reducible first | refine VCy.some fun K hK => ?_ | refine VCy.step fun K hK => ?_); simp -dsimp (disch := (first | omega | (simp only [LN]; omega))) only [go_sem, ↓reduceIte, seval, hlen, ex, hCl, hg, Option.getD_none])
          | ((with_reducible refine VCy.keep ?_ ?_); focus ((simp -dsimp (disch := (first | omega | (simp only [LN]; omega))) only [go_sem, ↓reduceIte, seval, Stable_cons, Stable_nil, sameA_some, sameA_none, hlen, ex, hCl, hg, Option.getD_none]); first | done | with_reducible assumption | omega | (repeat' with_reducible refine And.intro ?_ ?_) <;> first | with_reducible rfl | with_reducible assumption | omega))
          | (with_reducible refine And.intro (by (first | with_reducible rfl | with_reducible assumption | omega | (simp only [LN]; first | done | with_reducible rfl | omega) | (simp only [NM, LN]; first | done | with_reducible assumption | omega) | (and_intros <;> first | with_reducible assumption | omega | (simp only [LN]; omega)) | fail)) ?_)
          | ((with_reducible refine AWP.condG (T := TT) (b := ?_) ?_ ?_); rotate_left; exact rfl)
          | (with_reducible first | refine CondG.t ?_ | refine CondG.f ?_ | refine CondG.not ?_)
          | ((with_reducible refine CondG.isT ?_ ?_); focus (first | with_reducible rfl | with_reducible assumption | (simp only [NM, LN]; first | done | with_reducible assumption | omega)))
          | ((with_reducible refine CondG.isF ?_ ?_); focus (first | with_reducible rfl | with_reducible assumption | (simp only [NM, LN]; first | done | with_reducible assumption | omega))))
        refine ⟨⟨(k + 1, C), by simp only; omega, hcf2, st2⟩, by simp only; omega, ?_⟩
        exact St.le_mk (by simp only [LE, EN, Nat.reduceEqDiff, reduceIte, Nat.reduceSub, eSch]) (by simp only [LE, EN, Nat.reduceEqDiff, reduceIte, Nat.reduceSub, eSch]) (by simp only [LE, EN, Nat.reduceEqDiff, reduceIte, Nat.reduceSub, eSch])
    · rw [if_neg (by omega)] at a1
      have hk' : ¬ cs[k].kind = 1 := by omega
      by_cases hF : findB s.tables[j] cur[j].rows cs[k].key = true
      · rw [if_pos hF] at a1
        repeat' (first
          | ((first
            | with_reducible refine AWP.regionL tyOk fun K hK => ?_
            | ((with_reducible first | refine GOn.isT ?_ ?_ | refine HOn.isT ?_ ?_ | refine pickK.isT ?_ ?_); focus (first | with_reducible rfl | with_reducible assumption | (simp only [NM, LN]; first | done | with_reducible assumption | omega)))
            | ((with_reducible first | refine GOn.isF ?_ ?_ | refine HOn.isF ?_ ?_ | refine pickK.isF ?_ ?_); focus (first | with_reducible rfl | with_reducible assumption | (simp only [NM, LN]; first | done | with_reducible assumption | omega)))
            | ((with_reducible refine CallJ.is ?_); (first | refine CallJ.pure (cv) ?_ | refine CallJ.pure (fs) ?_ | ((apply CallJ.lentI); (focus (simp -dsimp (disch := (first | omega | (simp only [LN]; omega))) only [go_sem, ↓reduceIte, seval, hE]; rfl)); (focus (first | exact (cv) | exact (fs))))))
            | ((with_reducible refine CallH.is ?_); (first | refine CallH.intro (cv) ?_ | refine CallH.intro (fs) ?_))) <;> simp -dsimp (disch := (first | omega | (simp only [LN]; omega))) only [go_sem, ↓reduceIte, seval, hE])
          | ((with_reducible refine hK _ ?_); clear hK K)
          | (with_reducible first | refine AWP.seq ?_ | refine thenQ_normal ?_ | refine AWP.block ?_ | refine AWP.skip ?_ | refine AWP.ret ?_ | refine thenQ_ret ?_ | refine blockQ_ret ?_ | refine AWP.exit ?_ | refine thenQ_exit ?_ | refine blockQ_normal ?_ | refine blockQ_exit ?_)
          | refine blockQ_exit_ne rfl ?_
          | (with_reducible refine And.intro (by (first | with_reducible rfl | with_reducible assumption | omega | (simp only [LN]; first | done | with_reducible rfl | omega) | (simp only [NM, LN]; first | done | with_reducible assumption | omega) | (and_intros <;> first | with_reducible assumption | omega | (simp only [LN]; omega)) | fail)) ?_)
          | ((with_reducible refine AWP.condG (T := TT) (b := ?_) ?_ ?_); rotate_left; exact rfl)
          | (with_reducible first | refine CondG.t ?_ | refine CondG.f ?_ | refine CondG.not ?_)
          | ((with_reducible refine CondG.isT ?_ ?_); focus (first | with_reducible rfl | with_reducible assumption | (simp only [NM, LN]; first | done | with_reducible assumption | omega)))
          | ((with_reducible refine CondG.isF ?_ ?_); focus (first | with_reducible rfl | with_reducible assumption | (simp only [NM, LN]; first | done | with_reducible assumption | omega))))
        have ex : (cur.map eRel).set j [L.str cur[j].table, L.sl 1 (List.map eRow1 (deleteR s.tables[j] cur[j].rows cs[k].key))] = (setRows cur j (deleteR s.tables[j] cur[j].rows cs[k].key)).map eRel := by
          simp only [setRows, List.map_set, eg, eRel, eRows]
        have st2 : applyL s (setRows cur j (deleteR s.tables[j] cur[j].rows cs[k].key)) (cs.drop (k + 1)) = applyL s i cs := by rw [step, a1]; rfl
        have hcf2 : confE s (setRows cur j (deleteR s.tables[j] cur[j].rows cs[k].key)) = 0 := by
          have := applyC_conf hcf (c := cs[k]) (by rw [a1])
          rwa [a1] at this
        refine AWP.keep [3, 10, 12, 14, 16, 34, 35, 36] ?_
        simp -dsimp (disch := (first | omega | (simp only [LN]; omega))) only [go_sem, ↓reduceIte, seval, RT]
        refine AWP.drawX tyOk mixed [(0, 10)] [(10, [(11, 5)], [(0, 2)]), (16, [], [(13, 1)]), (17, [], [])] [10, 16, 17] 8 (by decide) (by kernel_rfl) (by kernel_rfl) (by kernel_rfl) (by kernel_rfl) fun K hK => ?_
        simp only [segx_nil, segx_cons, segs, List.drop_succ_cons, List.drop_zero, List.take_succ_cons, List.take_zero, List.getElem?_cons_zero, List.getElem?_cons_succ, List.cons_append, List.nil_append, List.append_nil] at hK ⊢
        simp -dsimp (disch := (first | omega | (simp only [LN]; omega))) only [go_sem, ↓reduceIte, seval, hlen]
        repeat' (first
          | ((first
            | with_reducible refine AWP.regionL tyOk fun K hK => ?_
            | ((with_reducible first | refine GOn.isT ?_ ?_ | refine HOn.isT ?_ ?_ | refine pickK.isT ?_ ?_); focus (first | with_reducible rfl | with_reducible assumption | (simp only [NM, LN]; first | done | with_reducible assumption | omega)))
            | ((with_reducible first | refine GOn.isF ?_ ?_ | refine HOn.isF ?_ ?_ | refine pickK.isF ?_ ?_); focus (first | with_reducible rfl | with_reducible assumption | (simp only [NM, LN]; first | done | with_reducible assumption | omega)))
            | ((with_reducible refine CallJ.is ?_); (first | refine CallJ.pure (relDelete_sat s.tables[j] cur[j].rows cs[k].key (by omega) r1 f1 r2) ?_ | ((apply CallJ.lentI); (focus (simp -dsimp (disch := (first | omega | (simp only [LN]; omega))) only [go_sem, ↓reduceIte, seval, hlen, hF]; rfl)); (focus (first | exact (relDelete_sat s.tables[j] cur[j].rows cs[k].key (by omega) r1 f1 r2))))))
            | ((with_reducible refine CallH.is ?_); (first | refine CallH.intro (relDelete_sat s.tables[j] cur[j].rows cs[k].key (by omega) r1 f1 r2) ?_))) <;> simp -dsimp (disch := (first | omega | (simp only [LN]; omega))) only [go_sem, ↓reduceIte, seval, hlen, hF])
          | ((with_reducible refine hK _ ?_); clear hK K)
          | (with_reducible first | refine AWP.seq ?_ | refine thenQ_normal ?_ | refine AWP.block ?_ | refine AWP.skip ?_ | refine AWP.ret ?_ | refine thenQ_ret ?_ | refine blockQ_ret ?_ | refine AWP.exit ?_ | refine thenQ_exit ?_ | refine blockQ_normal ?_ | refine blockQ_exit ?_)
          | refine blockQ_exit_ne rfl ?_
          | ((with_reducible refine VCy.intro fun K0 hK0 => ?_))
          | ((with_reducible refine VCy.fin ?_); (refine hK0 _ ?_); clear hK0 K0)
          | (with_reducible first | refine VCy.quiet ?_ | refine VCy.none ?_)
          | ((with_reducible first | refine VCy.some fun K hK => ?_ | refine VCy.step fun K hK => ?_); simp -dsimp (disch := (first | omega | (simp only [LN]; omega))) only [go_sem, ↓reduceIte, seval, hlen, hF])
          | ((with_reducible refine VCy.keep ?_ ?_); focus ((simp -dsimp (disch := (first | omega | (simp only [LN]; omega))) only [go_sem, ↓reduceIte, seval, Stable_cons, Stable_nil, sameA_some, sameA_none, hlen, hF]); first | done | with_reducible assumption | omega | (repeat' with_reducible refine And.intro ?_ ?_) <;> first | with_reducible rfl | with_reducible assumption | omega))
          | (with_reducible refine And.intro (by (first | with_reducible rfl | with_reducible assumption | omega | (simp only [LN]; first | done | with_reducible rfl | omega) | (simp only [NM, LN]; first | done | with_reducible assumption | omega) | (and_intros <;> first | with_reducible assumption | omega | (simp only [LN]; omega)) | fail)) ?_)
          | ((with_reducible refine AWP.condG (T := TT) (b := ?_) ?_ ?_); rotate_left; exact rfl)
          | (with_reducible first | refine CondG.t ?_ | refine CondG.f ?_ | refine CondG.not ?_)
          | ((with_reducible refine CondG.isT ?_ ?_); focus (first | with_reducible rfl | with_reducible assumption | (simp only [NM, LN]; first | done | with_reducible assumption | omega)))
          | ((with_reducible refine CondG.isF ?_ ?_); focus (first | with_reducible rfl | with_reducible assumption | (simp only [NM, LN]; first | done | with_reducible assumption | omega))))
        refine ⟨⟨(k + 1, setRows cur j (deleteR s.tables[j] cur[j].rows cs[k].key)), by simp only; omega, hcf2, st2⟩, by simp only; omega, ?_⟩
        exact St.le_mk (by simp only [LE, EN, Nat.reduceEqDiff, reduceIte, Nat.reduceSub, eSch, ex]) (by simp only [LE, EN, Nat.reduceEqDiff, reduceIte, Nat.reduceSub, eSch, ex]) (by simp only [LE, EN, Nat.reduceEqDiff, reduceIte, Nat.reduceSub, eSch, ex])
      · rw [if_neg hF] at a1
        have hF : findB s.tables[j] cur[j].rows cs[k].key = false := by simpa using hF
        have st2 : applyL s i cs = (9, []) := by rw [step, a1]; rfl
        rw [st2]
        repeat' (first
          | ((first
            | with_reducible refine AWP.regionL tyOk fun K hK => ?_
            | ((with_reducible first | refine GOn.isT ?_ ?_ | refine HOn.isT ?_ ?_ | refine pickK.isT ?_ ?_); focus (first | with_reducible rfl | with_reducible assumption | (simp only [NM, LN]; first | done | with_reducible assumption | omega)))
            | ((with_reducible first | refine GOn.isF ?_ ?_ | refine HOn.isF ?_ ?_ | refine pickK.isF ?_ ?_); focus (first | with_reducible rfl | with_reducible assumption | (simp only [NM, LN]; first | done | with_reducible assumption | omega)))
            | ((with_reducible refine CallJ.is ?_); (first | refine CallJ.pure (cv) ?_ | refine CallJ.pure (fs) ?_ | ((apply CallJ.lentI); (focus (simp -dsimp (disch := (first | omega | (simp only [LN]; omega))) only [go_sem, ↓reduceIte, seval, hE]; rfl)); (focus (first | exact (cv) | exact (fs))))))
            | ((with_reducible refine CallH.is ?_); (first | refine CallH.intro (cv) ?_ | refine CallH.intro (fs) ?_))) <;> simp -dsimp (disch := (first | omega | (simp only [LN]; omega))) only [go_sem, ↓reduceIte, seval, hE])
          | ((with_reducible refine hK _ ?_); clear hK K)
          | (with_reducible first | refine AWP.seq ?_ | refine thenQ_normal ?_ | refine AWP.block ?_ | refine AWP.skip ?_ | refine AWP.ret ?_ | refine thenQ_ret ?_ | refine blockQ_ret ?_ | refine AWP.exit ?_ | refine thenQ_exit ?_ | refine blockQ_normal ?_ | refine blockQ_exit ?_)
          | refine blockQ_exit_ne rfl ?_
          | (with_reducible refine And.intro (by (first | with_reducible rfl | with_reducible assumption | omega | (simp only [LN]; first | done | with_reducible rfl | omega) | (simp only [NM, LN]; first | done | with_reducible assumption | omega) | (and_intros <;> first | with_reducible assumption | omega | (simp only [LN]; omega)) | fail)) ?_)
          | ((with_reducible refine AWP.condG (T := TT) (b := ?_) ?_ ?_); rotate_left; exact rfl)
          | (with_reducible first | refine CondG.t ?_ | refine CondG.f ?_ | refine CondG.not ?_)
          | ((with_reducible refine CondG.isT ?_ ?_); focus (first | with_reducible rfl | with_reducible assumption | (simp only [NM, LN]; first | done | with_reducible assumption | omega)))
          | ((with_reducible refine CondG.isF ?_ ?_); focus (first | with_reducible rfl | with_reducible assumption | (simp only [NM, LN]; first | done | with_reducible assumption | omega))))
        refine AWP.keep [3, 10, 12, 14, 16, 34, 35, 36] ?_
        simp -dsimp (disch := (first | omega | (simp only [LN]; omega))) only [go_sem, ↓reduceIte, seval, RT]
        refine AWP.drawX tyOk mixed [(0, 10)] [(10, [(11, 5)], [(0, 2)]), (16, [], [(13, 1)]), (17, [], [])] [10, 16, 17] 8 (by decide) (by kernel_rfl) (by kernel_rfl) (by kernel_rfl) (by kernel_rfl) fun K hK => ?_
        simp only [segx_nil, segx_cons, segs, List.drop_succ_cons, List.drop_zero, List.take_succ_cons, List.take_zero, List.getElem?_cons_zero, List.getElem?_cons_succ, List.cons_append, List.nil_append, List.append_nil] at hK ⊢
        simp -dsimp (disch := (first | omega | (simp only [LN]; omega))) only [go_sem, ↓reduceIte, seval, hlen]
        repeat' (first
          | ((first
            | with_reducible refine AWP.regionL tyOk fun K hK => ?_
            | ((with_reducible first | refine GOn.isT ?_ ?_ | refine HOn.isT ?_ ?_ | refine pickK.isT ?_ ?_); focus (first | with_reducible rfl | with_reducible assumption | (simp only [NM, LN]; first | done | with_reducible assumption | omega)))
            | ((with_reducible first | refine GOn.isF ?_ ?_ | refine HOn.isF ?_ ?_ | refine pickK.isF ?_ ?_); focus (first | with_reducible rfl | with_reducible assumption | (simp only [NM, LN]; first | done | with_reducible assumption | omega)))
            | ((with_reducible refine CallJ.is ?_); (first | refine CallJ.pure (relDelete_sat s.tables[j] cur[j].rows cs[k].key (by omega) r1 f1 r2) ?_ | ((apply CallJ.lentI); (focus (simp -dsimp (disch := (first | omega | (simp only [LN]; omega))) only [go_sem, ↓reduceIte, seval, hlen, hF]; rfl)); (focus (first | exact (relDelete_sat s.tables[j] cur[j].rows cs[k].key (by omega) r1 f1 r2))))))
            | ((with_reducible refine CallH.is ?_); (first | refine CallH.intro (relDelete_sat s.tables[j] cur[j].rows cs[k].key (by omega) r1 f1 r2) ?_))) <;> simp -dsimp (disch := (first | omega | (simp only [LN]; omega))) only [go_sem, ↓reduceIte, seval, hlen, hF])
          | ((with_reducible refine hK _ ?_); clear hK K)
          | (with_reducible first | refine AWP.seq ?_ | refine thenQ_normal ?_ | refine AWP.block ?_ | refine AWP.skip ?_ | refine AWP.ret ?_ | refine thenQ_ret ?_ | refine blockQ_ret ?_ | refine AWP.exit ?_ | refine thenQ_exit ?_ | refine blockQ_normal ?_ | refine blockQ_exit ?_)
          | refine blockQ_exit_ne rfl ?_
          | ((with_reducible refine VCy.intro fun K0 hK0 => ?_))
          | ((with_reducible refine VCy.fin ?_); (refine hK0 _ ?_); clear hK0 K0)
          | (with_reducible first | refine VCy.quiet ?_ | refine VCy.none ?_)
          | ((with_reducible first | refine VCy.some fun K hK => ?_ | refine VCy.step fun K hK => ?_); simp -dsimp (disch := (first | omega | (simp only [LN]; omega))) only [go_sem, ↓reduceIte, seval, hlen, hF])
          | ((with_reducible refine VCy.keep ?_ ?_); focus ((simp -dsimp (disch := (first | omega | (simp only [LN]; omega))) only [go_sem, ↓reduceIte, seval, Stable_cons, Stable_nil, sameA_some, sameA_none, hlen, hF]); first | done | with_reducible assumption | omega | (repeat' with_reducible refine And.intro ?_ ?_) <;> first | with_reducible rfl | with_reducible assumption | omega))
          | (with_reducible refine And.intro (by (first | with_reducible rfl | with_reducible assumption | omega | (simp only [LN]; first | done | with_reducible rfl | omega) | (simp only [NM, LN]; first | done | with_reducible assumption | omega) | (and_intros <;> first | with_reducible assumption | omega | (simp only [LN]; omega)) | fail)) ?_)
          | ((with_reducible refine AWP.condG (T := TT) (b := ?_) ?_ ?_); rotate_left; exact rfl)
          | (with_reducible first | refine CondG.t ?_ | refine CondG.f ?_ | refine CondG.not ?_)
          | ((with_reducible refine CondG.isT ?_ ?_); focus (first | with_reducible rfl | with_reducible assumption | (simp only [NM, LN]; first | done | with_reducible assumption | omega)))
          | ((with_reducible refine CondG.isF ?_ ?_); focus (first | with_reducible rfl | with_reducible assumption | (simp only [NM, LN]; first | done | with_reducible assumption | omega))))
        simp -dsimp (disch := (first | omega | (simp only [LN]; omega))) only [retQ, Try.results41, resVals, cellRV, resOf, St.rest, St.freeze, RT, go_sem, ↓reduceIte, seval]
  · have hk : k = cs.length := by omega
    subst hk
    have hle : i.length ≤ cur.length := by omega
    have hap2 : applyL s i cs = (0, cur) := by rw [← hap, List.drop_length]; rfl
    rw [hap2]
    repeat' (first
      | ((first
        | with_reducible refine AWP.regionL tyOk fun K hK => ?_
        | ((with_reducible first | refine GOn.isT ?_ ?_ | refine HOn.isT ?_ ?_ | refine pickK.isT ?_ ?_); focus (first | with_reducible rfl | with_reducible assumption | (simp only [NM, LN]; first | done | with_reducible assumption | omega)))
        | ((with_reducible first | refine GOn.isF ?_ ?_ | refine HOn.isF ?_ ?_ | refine pickK.isF ?_ ?_); focus (first | with_reducible rfl | with_reducible assumption | (simp only [NM, LN]; first | done | with_reducible assumption | omega)))
        | ((with_reducible first | refine GOn.split (fun h => ?_) (fun h => ?_) | refine HOn.split (fun h => ?_) (fun h => ?_) | refine pickK.split (fun h => ?_) (fun h => ?_)) <;> (try simp only [NM] at h))) <;> simp -dsimp (disch := (first | omega | (simp only [LN]; omega))) only [go_sem, ↓reduceIte, seval])
      | ((with_reducible refine hK _ ?_); clear hK K)
      | (with_reducible first | refine AWP.seq ?_ | refine thenQ_normal ?_ | refine AWP.block ?_ | refine AWP.skip ?_ | refine AWP.ret ?_ | refine thenQ_ret ?_ | refine blockQ_ret ?_ | refine AWP.exit ?_ | refine thenQ_exit ?_ | refine blockQ_normal ?_ | refine blockQ_exit ?_)
      | refine blockQ_exit_ne rfl ?_
      | (with_reducible refine And.intro (by (first | with_reducible rfl | with_reducible assumption | omega | (simp only [LN]; first | done | with_reducible rfl | omega) | (simp only [NM, LN]; first | done | with_reducible assumption | omega) | (and_intros <;> first | with_reducible assumption | omega | (simp only [LN]; omega)) | fail)) ?_)
      | ((with_reducible refine AWP.condG (T := TT) (b := ?_) ?_ ?_); rotate_left; exact rfl)
      | (with_reducible first | refine CondG.t ?_ | refine CondG.f ?_ | refine CondG.not ?_)
      | ((with_reducible refine CondG.isT ?_ ?_); focus (first | with_reducible rfl | with_reducible assumption | (simp only [NM, LN]; first | done | with_reducible assumption | omega)))
      | ((with_reducible refine CondG.isF ?_ ?_); focus (first | with_reducible rfl | with_reducible assumption | (simp only [NM, LN]; first | done | with_reducible assumption | omega)))
      | ((with_reducible refine CondG.split (fun h => ?_) (fun h => ?_)) <;> (try simp only [NM] at h)))
    simp -dsimp (disch := (first | omega | (simp only [LN]; omega))) only [retQ, Try.results41, resVals, cellRV, resOf, St.rest, St.freeze, RT, go_sem, ↓reduceIte, seval]
    rw [if_pos (by omega)]

set_option maxHeartbeats 16000000 in
theorem changesWork_sat : Sat Try.prog 40 [] (.v (oB true)) := by
  have f1 : (⟨[peopleT], [], []⟩ : Sch).Fits := ⟨by decide, by decide, by decide, by decide, by decide⟩
  have f2 : InstFits [⟨⟨#[112, 101, 111, 112, 108, 101]⟩, []⟩] := ⟨by decide, by decide⟩
  have f3 : ChgsFit [⟨1, ⟨#[112, 101, 111, 112, 108, 101]⟩, [], [⟨1, 5, ByteArray.empty⟩, ⟨0, 0, ByteArray.empty⟩]⟩] := ⟨by decide, by decide⟩
  have e1 : applyE ⟨[peopleT], [], []⟩ [⟨⟨#[112, 101, 111, 112, 108, 101]⟩, []⟩] [⟨1, ⟨#[112, 101, 111, 112, 108, 101]⟩, [], [⟨1, 5, ByteArray.empty⟩, ⟨0, 0, ByteArray.empty⟩]⟩] = (0, [⟨⟨#[112, 101, 111, 112, 108, 101]⟩, [[⟨1, 5, ByteArray.empty⟩, ⟨0, 0, ByteArray.empty⟩]]⟩]) := by kernel_rfl
  have s1 := apply_sat ⟨[peopleT], [], []⟩ [⟨⟨#[112, 101, 111, 112, 108, 101]⟩, []⟩] [⟨1, ⟨#[112, 101, 111, 112, 108, 101]⟩, [], [⟨1, 5, ByteArray.empty⟩, ⟨0, 0, ByteArray.empty⟩]⟩] f1 f2 f3
  rw [e1] at s1
  refine sat_of_body tyOk Try.func40 rfl (by kernel_rfl) ⟨Nat.le_of_ble_eq_true rfl, Nat.le_of_ble_eq_true rfl⟩ fun w0 m0 F0 => ?_
  simp only [Try.ntmps40, envOf, Nat.reduceAdd]
  repeat' (first
    | ((first
      | with_reducible refine AWP.regionL tyOk fun K hK => ?_
      | ((with_reducible first | refine GOn.isT ?_ ?_ | refine HOn.isT ?_ ?_ | refine pickK.isT ?_ ?_); focus (first | with_reducible rfl | with_reducible assumption | (simp only [NM, LN]; first | done | with_reducible assumption | omega)))
      | ((with_reducible first | refine GOn.isF ?_ ?_ | refine HOn.isF ?_ ?_ | refine pickK.isF ?_ ?_); focus (first | with_reducible rfl | with_reducible assumption | (simp only [NM, LN]; first | done | with_reducible assumption | omega)))
      | ((with_reducible first | refine GOn.split (fun h => ?_) (fun h => ?_) | refine HOn.split (fun h => ?_) (fun h => ?_) | refine pickK.split (fun h => ?_) (fun h => ?_)) <;> (try simp only [NM] at h))
      | ((with_reducible refine CallJ.is ?_); (first | refine CallJ.pure (people_sat) ?_ | ((apply CallJ.lentI); (focus (simp -dsimp (disch := (first | omega | (simp only [LN]; omega))) only [go_sem, ↓reduceIte, seval]; rfl)); (focus (first | exact (people_sat))))))
      | ((with_reducible refine CallH.is ?_); (first | refine CallH.intro (people_sat) ?_))) <;> simp -dsimp (disch := (first | omega | (simp only [LN]; omega))) only [go_sem, ↓reduceIte, seval])
    | ((with_reducible refine hK _ ?_); clear hK K)
    | (with_reducible first | refine AWP.seq ?_ | refine thenQ_normal ?_ | refine AWP.block ?_ | refine AWP.skip ?_ | refine AWP.ret ?_ | refine thenQ_ret ?_ | refine blockQ_ret ?_ | refine AWP.exit ?_ | refine thenQ_exit ?_ | refine blockQ_normal ?_ | refine blockQ_exit ?_)
    | refine blockQ_exit_ne rfl ?_
    | (with_reducible refine And.intro (by (first | with_reducible rfl | with_reducible assumption | omega | (simp only [LN]; first | done | with_reducible rfl | omega) | (simp only [NM, LN]; first | done | with_reducible assumption | omega) | (and_intros <;> first | with_reducible assumption | omega | (simp only [LN]; omega)) | fail)) ?_)
    | ((with_reducible refine AWP.condG (T := TT) (b := ?_) ?_ ?_); rotate_left; exact rfl)
    | (with_reducible first | refine CondG.t ?_ | refine CondG.f ?_ | refine CondG.not ?_)
    | ((with_reducible refine CondG.isT ?_ ?_); focus (first | with_reducible rfl | with_reducible assumption | (simp only [NM, LN]; first | done | with_reducible assumption | omega)))
    | ((with_reducible refine CondG.isF ?_ ?_); focus (first | with_reducible rfl | with_reducible assumption | (simp only [NM, LN]; first | done | with_reducible assumption | omega)))
    | ((with_reducible refine CondG.split (fun h => ?_) (fun h => ?_)) <;> (try simp only [NM] at h)))
  refine AWP.drawY tyOk mixed [(0, 2), (4, 1)] (.cons 2 [] [(0, 1), (4, 1)] (.cons 3 [] [(0, 1), (4, 1)] (.cons 5 [(6, 1)] [(0, 1)] (.cons 7 [] [(0, 1)] (.cons 8 [(9, 3)] [] (.cons 12 [] [(11, 1)] (.cons 13 [] [] .leaf .none) .none) .none) .none) .none) .none) (.cons 3 [] [(0, 2), (4, 1)] (.cons 2 [] [(0, 1), (4, 1)] (.cons 5 [(6, 1)] [(0, 1)] (.cons 7 [] [(0, 1)] (.cons 8 [(9, 3)] [] (.cons 12 [] [(11, 1)] (.cons 13 [] [] .leaf .none) .none) .none) .none) .none) (.cons 5 [(6, 1)] [(0, 2)] (.cons 2 [] [(0, 1), (6, 1)] (.cons 7 [] [(0, 1)] (.cons 8 [(9, 3)] [] (.cons 12 [] [(11, 1)] (.cons 13 [] [] .leaf .none) .none) .none) .none) (.cons 7 [] [(0, 2)] (.cons 2 [] [(0, 1)] (.cons 8 [(9, 3)] [] (.cons 12 [] [(11, 1)] (.cons 13 [] [] .leaf .none) .none) .none) .none) .none)) .none)) .none)) [2, 3, 5, 7, 8, 12, 13] 8 (by decide) (by kernel_rfl) (by kernel_rfl) (by kernel_rfl) (by kernel_rfl) fun K hK => ?_
  simp only [segt_leaf, segt_none, segt_cons, segs, List.drop_succ_cons, List.drop_zero, List.take_succ_cons, List.take_zero, List.getElem?_cons_zero, List.getElem?_cons_succ, List.cons_append, List.nil_append, List.append_nil] at hK ⊢
  simp -dsimp (disch := (first | omega | (simp only [LN]; omega))) only [go_sem, ↓reduceIte, seval]
  repeat' (first
    | ((first
      | with_reducible refine AWP.regionL tyOk fun K hK => ?_
      | ((with_reducible first | refine GOn.isT ?_ ?_ | refine HOn.isT ?_ ?_ | refine pickK.isT ?_ ?_); focus (first | with_reducible rfl | with_reducible assumption | (simp only [NM, LN]; first | done | with_reducible assumption | omega)))
      | ((with_reducible first | refine GOn.isF ?_ ?_ | refine HOn.isF ?_ ?_ | refine pickK.isF ?_ ?_); focus (first | with_reducible rfl | with_reducible assumption | (simp only [NM, LN]; first | done | with_reducible assumption | omega)))
      | ((with_reducible first | refine GOn.split (fun h => ?_) (fun h => ?_) | refine HOn.split (fun h => ?_) (fun h => ?_) | refine pickK.split (fun h => ?_) (fun h => ?_)) <;> (try simp only [NM] at h))
      | ((with_reducible refine CallJ.is ?_); (first | refine CallJ.pure (integer_sat _) ?_ | refine CallJ.pure (s1) ?_ | ((apply CallJ.frozI [] []); (focus (simp -dsimp (disch := (first | omega | (simp only [LN]; omega))) only [go_sem, ↓reduceIte, seval, List.getD_cons_zero, RT, St.rest, St.freeze]; rfl)); (focus (first | exact (integer_sat _) | exact (s1))))))
      | ((with_reducible refine CallH.is ?_); (first | refine CallH.intro (integer_sat _) ?_ | refine CallH.intro (s1) ?_))) <;> simp -dsimp (disch := (first | omega | (simp only [LN]; omega))) only [go_sem, ↓reduceIte, seval, List.getD_cons_zero, RT, St.rest, St.freeze])
    | ((with_reducible refine hK _ ?_); clear hK K)
    | (with_reducible first | refine AWP.seq ?_ | refine thenQ_normal ?_ | refine AWP.block ?_ | refine AWP.skip ?_ | refine AWP.ret ?_ | refine thenQ_ret ?_ | refine blockQ_ret ?_ | refine AWP.exit ?_ | refine thenQ_exit ?_ | refine blockQ_normal ?_ | refine blockQ_exit ?_)
    | refine blockQ_exit_ne rfl ?_
    | ((with_reducible refine VCt.intro fun K0 hK0 => ?_))
    | ((with_reducible refine VCt.fin ?_); (refine hK0 _ ?_); clear hK0 K0)
    | (with_reducible first | refine VCy.quiet ?_ | refine VCt.none ?_)
    | ((with_reducible first | refine VCt.some fun K hK => ?_ | refine VCt.step fun K hK => ?_); simp -dsimp (disch := (first | omega | (simp only [LN]; omega))) only [go_sem, ↓reduceIte, seval, List.getD_cons_zero, RT, St.rest, St.freeze])
    | ((with_reducible refine VCy.keep ?_ ?_); focus ((simp -dsimp (disch := (first | omega | (simp only [LN]; omega))) only [go_sem, ↓reduceIte, seval, Stable_cons, Stable_nil, sameA_some, sameA_none, List.getD_cons_zero, RT, St.rest, St.freeze]); first | done | with_reducible assumption | omega | (repeat' with_reducible refine And.intro ?_ ?_) <;> first | with_reducible rfl | with_reducible assumption | omega))
    | ((with_reducible refine VCt.fork (fun K hK => ?_) ?_); (focus (simp -dsimp (disch := (first | omega | (simp only [LN]; omega))) only [go_sem, ↓reduceIte, seval, List.getD_cons_zero, RT, St.rest, St.freeze])))
    | (with_reducible refine And.intro (by (first | with_reducible rfl | with_reducible assumption | omega | (simp only [LN]; first | done | with_reducible rfl | omega) | (simp only [NM, LN]; first | done | with_reducible assumption | omega) | (and_intros <;> first | with_reducible assumption | omega | (simp only [LN]; omega)) | fail)) ?_)
    | ((with_reducible refine AWP.condG (T := TT) (b := ?_) ?_ ?_); rotate_left; exact rfl)
    | (with_reducible first | refine CondG.t ?_ | refine CondG.f ?_ | refine CondG.not ?_)
    | ((with_reducible refine CondG.isT ?_ ?_); focus (first | with_reducible rfl | with_reducible assumption | (simp only [NM, LN]; first | done | with_reducible assumption | omega)))
    | ((with_reducible refine CondG.isF ?_ ?_); focus (first | with_reducible rfl | with_reducible assumption | (simp only [NM, LN]; first | done | with_reducible assumption | omega)))
    | ((with_reducible refine CondG.split (fun h => ?_) (fun h => ?_)) <;> (try simp only [NM] at h)))
  all_goals simp -dsimp (disch := (first | omega | (simp only [LN]; omega))) only [retQ, Try.results40, resVals, cellRV, resOf, St.rest, St.freeze, RT, go_sem, ↓reduceIte, seval]
  all_goals rfl
end Go.Bw

namespace Go.Bw
open Go.Proofs
theorem applyL_cons {s : Sch} {i i' : Inst} {c : Chg} (cs : List Chg) (h : applyC s i c = (0, i')) : applyL s i (c :: cs) = applyL s i' cs := by
  rw [applyL, h]
  simp
theorem applyL_stop {s : Sch} {i : Inst} {c : Chg} {e : Int} (cs : List Chg) (he : e ≠ 0) (h : applyC s i c = (e, [])) : applyL s i (c :: cs) = (e, []) := by
  rw [applyL, h]
  simp [he]
theorem tblOf_self {s : Sch} (ok : OkSch s) {k : Nat} (hk : k < s.tables.length) : tblOf s s.tables[k].name = s.tables[k] := by
  simp only [tblOf, ok.at_self hk, Int.toNat_natCast]
  exact getD_lt _ hk
theorem up_step {s : Sch} (ok : OkSch s) {k : Nat} (hk : k < s.tables.length) (i : Inst) {y : Row} (hy : rowE s.tables[k] y = 0) :
    applyC s i ⟨1, s.tables[k].name, [], y⟩ = if 24 < (upsertR s.tables[k] (i.getD k zRel).rows y).length then (2, []) else (0, setRows i k (upsertR s.tables[k] (i.getD k zRel).rows y)) := by
  have e1 : chgE s ⟨1, s.tables[k].name, [], y⟩ = 0 := by
    have h1 := ok.at_self hk
    have h2 := tblOf_self ok hk
    simp only [chgE]
    rw [if_neg (by simp), h1, if_neg (by omega), if_pos trivial, h2, hy]
  have e2 : tpos s ⟨1, s.tables[k].name, [], y⟩ = k := by simp only [tpos, ok.at_self hk, Int.toNat_natCast]
  simp only [applyC, e1, e2, tblOf_self ok hk, ne_eq, not_true_eq_false, if_false, if_true]
theorem del_step {s : Sch} (ok : OkSch s) {k : Nat} (hk : k < s.tables.length) (i : Inst) {key : Row} (hy : keyE s.tables[k] key = 0) :
    applyC s i ⟨2, s.tables[k].name, key, []⟩ = if findB s.tables[k] (i.getD k zRel).rows key then (0, setRows i k (deleteR s.tables[k] (i.getD k zRel).rows key)) else (9, []) := by
  have e1 : chgE s ⟨2, s.tables[k].name, key, []⟩ = 0 := by
    have h1 := ok.at_self hk
    have h2 := tblOf_self ok hk
    simp only [chgE]
    rw [if_neg (by simp), h1, if_neg (by omega), if_neg (by omega), h2, hy]
  have e2 : tpos s ⟨2, s.tables[k].name, key, []⟩ = k := by simp only [tpos, ok.at_self hk, Int.toNat_natCast]
  simp only [applyC, e1, e2, tblOf_self ok hk, ne_eq, not_true_eq_false, if_false]
  rw [if_neg (by omega)]

theorem diffR_apply {s : Sch} (ok : OkSch s) {k : Nat} (hk : k < s.tables.length) (a b : List Row) (P : List Row) (i : Inst) (hi : k < i.length) (hc : confE s i = 0) (hR : (i.getD k zRel).rows = P ++ a)
    (va : ∀ x ∈ a, rowE s.tables[k] x = 0) (vb : ∀ y ∈ b, rowE s.tables[k] y = 0) (sa : SR s.tables[k] a) (sb : SR s.tables[k] b)
    (pa : ∀ p ∈ P, ∀ x ∈ a, cmpRows (keyOf s.tables[k].pk p) (keyOf s.tables[k].pk x) < 0) (pb : ∀ p ∈ P, ∀ y ∈ b, cmpRows (keyOf s.tables[k].pk p) (keyOf s.tables[k].pk y) < 0) (rest : List Chg) :
    applyL s i (diffR s.tables[k] a b ++ rest) = (2, []) ∨ applyL s i (diffR s.tables[k] a b ++ rest) = applyL s (setRows i k (P ++ b)) rest := by
  -- one change that puts y behind P
  have put : ∀ (a a' b : List Row) (y : Row) (P : List Row) (i : Inst), k < i.length → confE s i = 0 → rowE s.tables[k] y = 0 → (i.getD k zRel).rows = P ++ a → (∀ p ∈ P, cmpRows (keyOf s.tables[k].pk p) (keyOf s.tables[k].pk y) < 0) → upsertR s.tables[k] a y = y :: a' →
      (∀ i', k < i'.length → confE s i' = 0 → (i'.getD k zRel).rows = (P ++ [y]) ++ a' → applyL s i' (diffR s.tables[k] a' b ++ rest) = (2, []) ∨ applyL s i' (diffR s.tables[k] a' b ++ rest) = applyL s (setRows i' k (P ++ [y] ++ b)) rest) →
      applyL s i (⟨1, s.tables[k].name, [], y⟩ :: (diffR s.tables[k] a' b ++ rest)) = (2, []) ∨ applyL s i (⟨1, s.tables[k].name, [], y⟩ :: (diffR s.tables[k] a' b ++ rest)) = applyL s (setRows i k (P ++ y :: b)) rest := by
    intro a a' b y P i hi hc vy hR py hu ih
    have h1 := up_step ok hk i vy
    have e : upsertR s.tables[k] (i.getD k zRel).rows y = P ++ [y] ++ a' := by rw [hR, upsertR_ahead py, hu]; simp
    rw [e] at h1
    by_cases hl : 24 < (P ++ [y] ++ a').length
    · rw [if_pos hl] at h1
      exact .inl (applyL_stop _ (by decide) h1)
    · rw [if_neg hl] at h1
      have hc' := applyC_conf hc (c := ⟨1, s.tables[k].name, [], y⟩) (by rw [h1])
      rw [h1] at hc'
      rw [applyL_cons _ h1]
      have h2 := ih _ (by rw [setRows_length]; exact hi) hc' (by rw [setRows_getD hi, if_pos rfl])
      rw [setRows_set hi] at h2
      simpa using h2
  -- one change that takes x away behind P
  have take : ∀ (a b : List Row) (x : Row) (P : List Row) (i : Inst), k < i.length → confE s i = 0 → rowE s.tables[k] x = 0 → (i.getD k zRel).rows = P ++ x :: a → (∀ p ∈ P, cmpRows (keyOf s.tables[k].pk p) (keyOf s.tables[k].pk x) < 0) →
      (∀ i', k < i'.length → confE s i' = 0 → (i'.getD k zRel).rows = P ++ a → applyL s i' (diffR s.tables[k] a b ++ rest) = (2, []) ∨ applyL s i' (diffR s.tables[k] a b ++ rest) = applyL s (setRows i' k (P ++ b)) rest) →
      applyL s i (⟨2, s.tables[k].name, keyOf s.tables[k].pk x, []⟩ :: (diffR s.tables[k] a b ++ rest)) = (2, []) ∨ applyL s i (⟨2, s.tables[k].name, keyOf s.tables[k].pk x, []⟩ :: (diffR s.tables[k] a b ++ rest)) = applyL s (setRows i k (P ++ b)) rest := by
    intro a b x P i hi hc vx hR px ih
    have h1 := del_step ok hk i (keyE_of ok hk vx)
    have hr := cmpRows_is.refl (keyOf s.tables[k].pk x)
    have e1 : findB s.tables[k] (i.getD k zRel).rows (keyOf s.tables[k].pk x) = true := by
      rw [hR, findB_ahead px, findB_cons, if_pos (by omega), hr]; rfl
    have e2 : deleteR s.tables[k] (i.getD k zRel).rows (keyOf s.tables[k].pk x) = P ++ a := by
      rw [hR, deleteR_ahead px, deleteR_cons, if_pos (by omega), if_pos hr]
    rw [e1, e2, if_pos rfl] at h1
    have hc' := applyC_conf hc (c := ⟨2, s.tables[k].name, keyOf s.tables[k].pk x, []⟩) (by rw [h1])
    rw [h1] at hc'
    rw [applyL_cons _ h1]
    have h2 := ih _ (by rw [setRows_length]; exact hi) hc' (by rw [setRows_getD hi, if_pos rfl])
    rw [setRows_set hi] at h2
    exact h2
  have snoc : ∀ {P : List Row} {y : Row} {l : List Row}, (∀ p ∈ P, ∀ x ∈ l, cmpRows (keyOf s.tables[k].pk p) (keyOf s.tables[k].pk x) < 0) → (∀ x ∈ l, cmpRows (keyOf s.tables[k].pk y) (keyOf s.tables[k].pk x) < 0) →
      ∀ p ∈ P ++ [y], ∀ x ∈ l, cmpRows (keyOf s.tables[k].pk p) (keyOf s.tables[k].pk x) < 0 := by
    intro P y l h1 h2 p hp x hx
    rcases List.mem_append.1 hp with hp | hp
    · exact h1 p hp x hx
    · rw [List.mem_singleton.1 hp]; exact h2 x hx
  fun_induction diffR s.tables[k] a b generalizing P i with
  | case1 =>
    refine .inr ?_
    rw [← hR, setRows_same]
    rfl
  | case2 y b ih =>
    obtain ⟨sb1, sb2⟩ := List.pairwise_cons.1 sb
    refine put [] [] b y P i hi hc (vb y (by simp)) hR (fun p hp => pb p hp y (by simp)) (upsertR_nil _ _) fun i' hi' hc' hR' => ?_
    exact ih (P ++ [y]) i' hi' hc' hR' (by simp) (fun z hz => vb z (by simp [hz])) .nil sb2 (by simp) (snoc (fun p hp z hz => pb p hp z (by simp [hz])) sb1)
  | case3 x a ih =>
    obtain ⟨sa1, sa2⟩ := List.pairwise_cons.1 sa
    refine take a [] x P i hi hc (va x (by simp)) hR (fun p hp => pa p hp x (by simp)) fun i' hi' hc' hR' => ?_
    exact ih P i' hi' hc' hR' (fun z hz => va z (by simp [hz])) (by simp) sa2 .nil (fun p hp z hz => pa p hp z (by simp [hz])) (by simp)
  | case4 x a y b h ih =>
    obtain ⟨sa1, sa2⟩ := List.pairwise_cons.1 sa
    refine take a (y :: b) x P i hi hc (va x (by simp)) hR (fun p hp => pa p hp x (by simp)) fun i' hi' hc' hR' => ?_
    exact ih P i' hi' hc' hR' (fun z hz => va z (by simp [hz])) vb sa2 sb (fun p hp z hz => pa p hp z (by simp [hz])) pb
  | case5 x a y b h1 h2 ih =>
    obtain ⟨sa1, sa2⟩ := List.pairwise_cons.1 sa
    obtain ⟨sb1, sb2⟩ := List.pairwise_cons.1 sb
    have hyx : cmpRows (keyOf s.tables[k].pk y) (keyOf s.tables[k].pk x) < 0 := by
      have := cmpRows_is.anti (keyOf s.tables[k].pk y) (keyOf s.tables[k].pk x)
      omega
    refine put (x :: a) (x :: a) b y P i hi hc (vb y (by simp)) hR (fun p hp => pb p hp y (by simp)) (by rw [upsertR_cons, if_pos (by omega), if_neg (by omega)]) fun i' hi' hc' hR' => ?_
    refine ih (P ++ [y]) i' hi' hc' hR' va (fun z hz => vb z (by simp [hz])) sa sb2 (snoc pa fun z hz => ?_) (snoc (fun p hp z hz => pb p hp z (by simp [hz])) sb1)
    rcases List.mem_cons.1 hz with rfl | hz
    · exact hyx
    · exact cmpRows_is.trans _ _ _ hyx (sa1 z hz)
  | case6 x a y b h1 h2 ih =>
    obtain ⟨sa1, sa2⟩ := List.pairwise_cons.1 sa
    obtain ⟨sb1, sb2⟩ := List.pairwise_cons.1 sb
    have e0 : cmpRows (keyOf s.tables[k].pk x) (keyOf s.tables[k].pk y) = 0 := by omega
    have hkey := (cmpRows_is.eq0 _ _).1 e0
    by_cases hxy : x = y
    · rw [if_pos hxy, List.nil_append]
      have h3 := ih (P ++ [x]) i hi hc (by rw [hR]; simp) (fun z hz => va z (by simp [hz])) (fun z hz => vb z (by simp [hz])) sa2 sb2 (snoc (fun p hp z hz => pa p hp z (by simp [hz])) sa1) (snoc (fun p hp z hz => pb p hp z (by simp [hz])) (hxy ▸ sb1))
      subst hxy
      simpa using h3
    · rw [if_neg hxy, List.append_assoc, List.singleton_append]
      refine put (x :: a) a b y P i hi hc (vb y (by simp)) hR (fun p hp => pb p hp y (by simp)) (by rw [upsertR_cons, if_pos (by omega), if_pos e0]) fun i' hi' hc' hR' => ?_
      exact ih (P ++ [y]) i' hi' hc' hR' (fun z hz => va z (by simp [hz])) (fun z hz => vb z (by simp [hz])) sa2 sb2 (snoc (fun p hp z hz => pa p hp z (by simp [hz])) (hkey ▸ sa1)) (snoc (fun p hp z hz => pb p hp z (by simp [hz])) sb1)

/-- The difference of two instances leads from the one to the other, or a table grows too large. -/
theorem diffK_apply {s : Sch} (hs : schE s = 0) {a b : Inst} (ha : confE s a = 0) (hb : confE s b = 0) : ∀ (k : Nat), k ≤ s.tables.length → ∀ rest, applyL s a (diffK s a b k ++ rest) = (2, []) ∨ applyL s a (diffK s a b k ++ rest) = applyL s (b.take k ++ a.drop k) rest
  | 0, _, rest => .inr rfl
  | k + 1, hk, rest => by
    have ok := okSch_of hs
    obtain ⟨la, ca⟩ := (confE_zero s a).1 ha
    obtain ⟨lb, cb⟩ := (confE_zero s b).1 hb
    have hka : k < a.length := by omega
    have hkb : k < b.length := by omega
    have hkt : k < s.tables.length := by omega
    have ea : a.getD k zRel = a[k] := getD_lt _ hka
    have eb : b.getD k zRel = b[k] := getD_lt _ hkb
    have et : s.tables.getD k zTbl = s.tables[k] := getD_lt _ hkt
    obtain ⟨na, ra⟩ := ca k hka
    obtain ⟨nb, rb⟩ := cb k hkb
    rw [et] at na ra nb rb
    have hname : a[k].table = b[k].table := (sEq_iff.1 na).trans (sEq_iff.1 nb).symm
    rw [diffK_succ, List.append_assoc, ea, eb, et]
    rcases diffK_apply hs ha hb k (by omega) (diffR s.tables[k] a[k].rows b[k].rows ++ rest) with h | h
    · exact .inl h
    · rw [h]
      obtain ⟨_, va, sa⟩ := (okRel_iff _ _).1 ra
      obtain ⟨_, vb, sb⟩ := (okRel_iff _ _).1 rb
      have hlen : (b.take k ++ a.drop k).length = a.length := by simp; omega
      have hget : (b.take k ++ a.drop k).getD k zRel = a[k] := by
        have h1 : k < (b.take k ++ a.drop k).length := by omega
        have h2 : (b.take k ++ a.drop k).getD k zRel = (b.take k ++ a.drop k)[k] := getD_lt _ h1
        rw [h2, List.getElem_append_right (by simp; omega)]
        simp [Nat.min_eq_left (Nat.le_of_lt hkb)]
      have hconf : confE s (b.take k ++ a.drop k) = 0 := by
        refine (confE_zero _ _).2 ⟨by omega, fun j hj => ?_⟩
        rcases Nat.lt_or_ge j k with hjk | hjk
        · have e : (b.take k ++ a.drop k)[j] = b[j]'(by omega) := by rw [List.getElem_append_left (by simp; omega)]; simp
          rw [e]
          exact cb j (by omega)
        · have e : (b.take k ++ a.drop k)[j] = a[j]'(by omega) := by
            rw [List.getElem_append_right (by simp; omega)]
            simp only [List.getElem_drop, List.length_take]
            congr 1
            omega
          rw [e]
          exact ca j (by omega)
      have h1 := diffR_apply ok hkt a[k].rows b[k].rows [] (b.take k ++ a.drop k) (by omega) hconf (by rw [hget]; rfl) va vb sa sb (by simp) (by simp) rest
      have hset : setRows (b.take k ++ a.drop k) k ([] ++ b[k].rows) = b.take (k + 1) ++ a.drop (k + 1) := by
        unfold setRows
        rw [hget, List.nil_append, hname, take_snoc b k hkb, List.drop_eq_getElem_cons hka]
        rw [List.set_append_right _ _ (by simp; omega)]
        have e0 : k - (b.take k).length = 0 := by simp; omega
        rw [e0]
        simp only [List.set_cons_zero, List.append_assoc, List.singleton_append]
      rw [hset] at h1
      exact h1
theorem diffK_apply_all {s : Sch} (hs : schE s = 0) {a b : Inst} (ha : confE s a = 0) (hb : confE s b = 0) : applyL s a (diffK s a b s.tables.length) = (2, []) ∨ applyL s a (diffK s a b s.tables.length) = (0, b) := by
  obtain ⟨la, _⟩ := (confE_zero s a).1 ha
  obtain ⟨lb, _⟩ := (confE_zero s b).1 hb
  have h := diffK_apply hs ha hb s.tables.length (Nat.le_refl _) []
  rw [List.append_nil, List.take_of_length_le (by omega), List.drop_of_length_le (by omega), List.append_nil] at h
  exact h
end Go.Bw

namespace Go.Bw
open Go.Proofs
variable {w : World}
theorem cells_Change : Try.prog.cellsOf 83 = 4 := by kernel_rfl
theorem bytes_Change : Try.prog.bytesOf 83 = 72 := by kernel_rfl
theorem rd_chg : Rd Try.prog w 83 eChg Chg.Ok :=
  (rd_struct4 Try.underlying83 ⟨rfl, rfl, rfl, rfl⟩ ⟨cells_int, cells_string, cells_Row, cells_Row⟩ cells_Change rd_I rd_S rd_row rd_row).to (fun p => ⟨p.1, p.2.1, p.2.2.1, p.2.2.2.1⟩) (fun _ => by simp [eChg]) fun _ h => ⟨h.1, h.2.1, h.2.2.1, h.2.2.2.1⟩
theorem rd_chgs : Rd Try.prog w 78 (fun l => [eChgs l]) ChgsOk :=
  rd_slice Try.underlying78 cells_Change bytes_Change (fun _ => rfl) rd_chg
theorem ChgsOk.fits {l : List Chg} (h : ChgsOk l) : ChgsFit l := by
  obtain ⟨a1, a2⟩ := h
  rw [reachBytes_eq] at a1
  refine ⟨by omega, fun c hc => ?_⟩
  obtain ⟨_, _, ⟨b1, _⟩, ⟨b2, _⟩⟩ := a2 c hc
  rw [reachBytes_eq] at b1 b2
  omega
end Go.Bw
