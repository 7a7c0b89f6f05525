/-
  WHAT IS PROVED HERE, of this translation: thenQ_mono, AWP.meet, symMergeC, symMerge_satM, blkW_t, blkW_f, mrgW_t, mrgW_m, mrgW_f, stW_t, stW_f, stable_satM, sortStable_satM, target_sat, tgt_length, indexFuncChg_sat, idx_any, containsChg_sat, compact1_sat, compact2_sat, vldE_zero, lastC_sub, chg_small, cmpC_chg, compact_sat, ChgsFit.take, ChgsFit.drop, applyE_bad, applyE_fits, ChgsFit.append, .., insR_ok, insS_ok, bsW_true, bsW_false, symF_ok, Srt.sub, blkW_ok, mrgW_ok, stW_ok, stableF_ok, sorted_eq, cmpChg_lt, cmpChg_ord, lastC_pair, lastC_id, compact_again, lookC_lastC, lookC_compact, compact_same, valFits_of, rowFits_ok, keyFits_ok, chgF_of, changeCompactSame_sat, gPow, tPow, gSyn, gRng, laidW_rel.
  A theorem that ends in sat says what the function it names returns, whatever the state it is called in; the bounds on its arguments stand ahead of it.
-/
import Derived.Test.YtmmbghbkpjmifaaDoorRows
import Derived.Test.YtmmbghbkpjmifaaDoorTie
import Derived.Test.YtmmbghbkpjmifaaDoorCards
import Derived.Lib.LaidTab
import Derived.Stop.LaidErr
import Derived.Stop.Joined
import Derived.OpenShut
import Derived.LaidMore
import Derived.SevenTiedAt
import Derived.Deep.DeepHandedRow
import Derived.Lay
import Derived.WalkKit
import Derived.ProofKit
import Derived.Test.YtmmbghbkpjmifaaDoorN18g
set_option linter.unusedSimpArgs false
set_option linter.unusedVariables false

namespace Go.Bw
open Go.Proofs
attribute [local go_sem ↓] VOps_nil VOps_cons VOp_callJ VVal_callH VOps_guard GOn_tt GOn_ff GOn_tf GOn_ft GOn_not GOn_none HOn_none HOn_tt HOn_ff HOn_tf HOn_ft HOn_not VHead_nil VHead_cons VHead_guard VVal_move VVal_assign VVal_pickE pickK_true pickK_false VVal_not VVal_neg negK_int VVal_load loadK_fz loadK_ptr loadK_eptr VVal_fieldAddr VVal_field VVal_indexAddr idxK_sl idxK_ref VVal_index indexK_str VVal_extract VVal_binOp binK_one binK_agg VVal_build VVal_buildSlice VVal_makeFunc VVal_slice sliceK_str sliceK_sl sliceK_nil sliceK_ref VVal_slice3 VVal_nilCheck VVal_convert convKk_int convKk_str VVal_len VVal_max VVal_min VOp_assign assignK_int assignK_bool assignK_str assignK_clo assignK_sl assignK_nil assignK_ref assignK_agg assignK_fz assignK_ptr assignK_eptr assignK_any VOp_box VOp_alloc VOp_store storeK_ptr storeK_eptr VOp_buildSlice VOp_append appK_rr appK_rs appK_rn appK_ri appK_nr appK_ns appK_nn appK_ni appStd_eq VOp_copy copyK_ref VOp_clear clearK_ref VOp_cap VOp_eqNil VOp_move VOp_pick VOp_not VOp_neg VOp_load VOp_fieldAddr VOp_field VOp_indexAddr VOp_index VOp_extract VOp_binTmp VOp_binInt VOp_binStr VOp_binPtr VOp_build VOp_makeFunc VOp_slice VOp_nilCheck VOp_convert VOp_len VOp_max VOp_min mO_some mT_some pk_some pk_none look_cons del_cons
attribute [local go_sem] guardB gOf int_bne beq_true beq_false Bool.not_not gSlot pickK_true pickK_false negK_int loadK_fz loadK_ptr loadK_eptr idxK_sl idxK_ref indexK_str binK_one binK_agg sliceK_str sliceK_sl sliceK_nil sliceK_ref convKk_int convKk_str maxL minL assignK_int assignK_bool assignK_str assignK_clo assignK_sl assignK_nil assignK_ref assignK_agg assignK_fz assignK_ptr assignK_eptr assignK_any nilRow_eq takeRow_eq appended_eq storeK_ptr storeK_eptr store_mk appIn_eq appMk_eq marked_eq ovOut_nil ovOut_cons ovIn_nil ovIn_cons padRow_eq ysC capK_nil capK_ref ioSt_mk outB_nil outR_nil outB outR inB_nil inB_cons inR_nil inR_cons L.kl L.kl0 L.ids L.ids0 Option.getD_some evalO constA mO_some mT_some put_mk putO_some putO_none okD_some okD_none pk_some pk_none look_nil del_nil sput noBox_mk noRow_mk newBox_eq newRow0_eq St.killRow RowC.kill rowMap_mk rowOf ovAll ovAdd ovDel ovGet ovShift dstOf ysOf overlay_nil overlay_nil' overlay A.map V.map L.noPtr L.noPtr0 L.noRow L.noRow0 L.peek L.norm L.flat clos_int clos_bool clos_str clos_sl clos_nil clos_any clos_fz L.clos L.isFz L.kd moveL fieldOff eqCells eqCell eqOp oneOf boolOf intOfA tupOf vOf aggOf isPtrLike isSlice lenKind lenL nL elemTI loadV asV binL intBin intDivL shrL boolBin strBin strAdd ptrNil boundN partCells fillL placesOf setL chunks repL capsOf capL callOf argsOf frzV_int frzV_bool frzV_str frzV_sl frzV_nil frzV_fz frzV_any frzV_own frzV_clo frzV_ref frzV_eptr frzV_ptr frzRow_nil frzRow_ov frzRs_nil frzRs_cons frzCs_nil frzCs_cons frzO_some frzO_none frzN_int frzN_bool frzN_str frzN_sl frzN_nil frzN_any frzN_own List.map_cons List.map_nil List.cons_append List.nil_append List.append_nil List.length_cons List.length_nil List.length_map List.length_append List.headD_cons List.tail_cons List.getElem?_cons_zero List.getElem?_cons_succ List.drop_zero List.drop_succ_cons List.drop_nil List.take_succ_cons List.take_zero List.take_nil List.take_length List.filter_cons List.filter_nil List.elem_cons List.elem_nil List.all_cons List.all_nil Option.bind_some Option.map_some Option.some.injEq bne_self_eq_false beq_self_eq_true if_true if_false Bool.false_eq_true true_and and_true and_self Nat.zero_add Nat.add_zero Nat.zero_le Int.toNat_natCast Int.toNat_zero Option.isSome_some List.getElem?_toArray decide_true decide_false ge_iff_le gt_iff_lt Bool.not_true Bool.not_false Nat.le_refl Bool.and_true Bool.true_and Bool.and_false Bool.false_and eVal eRow eRow1 eRows eInt1 eInts eCol eCols eTbl eTbls eFK eFKs eCon eCons eSch eRel eInst eChg eChgs szOf getD_map_lt wrap_nat wrap_in List.take_of_length_le frz_eVal frz_eRow1 frz_eInt1 frz_eCol frz_eTbl frz_eFK frz_eCon frz_eRel frz_eChg noOwn_nil noOwn_cons noOwn_append L.isOwn noOwn_eVal noOwn_eRow1 noOwn_eInt1 noOwn_eCol noOwn_eTbl noOwn_eFK noOwn_eCon noOwn_eRel noOwn_eChg convK_2 convK_3 convK_5 convK_12 convK_21 convK_57 convK_155 convK_162 convK_166 TT_2 TT_3 TT_4 TT_5 TT_9 TT_12 TT_13 TT_21 TT_22 TT_23 TT_24 TT_25 TT_26 TT_27 TT_28 TT_38 TT_39 TT_40 TT_41 TT_42 TT_45 TT_46 TT_47 TT_48 TT_49 TT_50 TT_51 TT_52 TT_54 TT_55 TT_56 TT_57 TT_65 TT_66 TT_82 TT_83 TT_84 TT_100 TT_101 TT_118 TT_155 TT_162 TT_166 boolTy_4 eqK_46 eqK_50 eqK_52
attribute [local congr] VOps.congr VHead.congr VOp.congr VVal.congr pk.congr assignK.congr appK.congr appStd.congr copyK.congr clearK.congr storeK.congr loadK.congr idxK.congr sliceK.congr indexK.congr binK.congr convKk.congr
section
variable {P : Program} {w0 : World} {m0 : Mem} {F0 : Home}
theorem thenQ_mono {R R' : St → Prop} {Q : Exit → St → Prop} (h : ∀ s, R s → R' s) : ∀ e s, thenQ R Q e s → thenQ R' Q e s
  | .normal, s, hq => h s hq
  | .ret, _, hq | .exit _, _, hq | .goto _, _, hq | .panic _, _, hq | .outgrown, _, hq => hq
theorem AWP.meet {Q Q1 Q2 : Exit → St → Prop} {s : St} {c c' c2 : Code} (t : St) (h1 : AWP P w0 m0 F0 c (thenQ (AWP P w0 m0 F0 c' (thenQ (fun s' => St.le t s') Q1)) Q) s) (h2 : AWP P w0 m0 F0 c2 Q2 t) :
    AWP P w0 m0 F0 c (thenQ (AWP P w0 m0 F0 c' (thenQ (AWP P w0 m0 F0 c2 Q2) Q1)) Q) s :=
  h1.mono (thenQ_mono fun _ hs => hs.mono (thenQ_mono fun _ ht => h2.weak ht))
end
set_option maxHeartbeats 32000000 in
theorem symMergeC (f : FuncId) (z : List L) (c : Chg → Chg → Int) (n : Nat) (cs : List Chg) (hc : CmpC Tryd.prog f (.fz z) c cs) (a m b : Nat) (ha : a < m) (hm : m < b) (hb : b ≤ cs.length) (hn : b - a ≤ n + 1) (hl : cs.length ≤ 140737488355328) (g1 : ¬ m - a = 1) (g2 : ¬ b - m = 1)
    (ih : ∀ (ds : List Chg), ds.Perm cs → ∀ (a m b : Nat), a < m → m < b → b ≤ cs.length → b - a ≤ n →
      SatM Tryd.prog 106 [.one (.ref 1000 0 cs.length), oI a, oI m, oI b, .one (.clo f [.fz z])] [] (rowC ds) (.tup []) [] (rowC (symF c n ds a m b))) :
    SatM Tryd.prog 106 [.one (.ref 1000 0 cs.length), oI a, oI m, oI b, .one (.clo f [.fz z])] [] (rowC cs) (.tup []) [] (rowC (symF c (n + 1) cs a m b)) := by
  rw [symF, if_neg g1, if_neg g2]
  obtain ⟨mid, hmid⟩ : ∃ x, (a + b) / 2 = x := ⟨_, rfl⟩
  obtain ⟨s0, hs0⟩ : ∃ x, (if mid < m then mid + m - b else a) = x := ⟨_, rfl⟩
  obtain ⟨r0, hr0⟩ : ∃ x, (if mid < m then mid else m) = x := ⟨_, rfl⟩
  have bnd : a ≤ s0 ∧ s0 ≤ r0 ∧ r0 ≤ mid ∧ r0 ≤ m ∧ mid + m - s0 ≤ b ∧ (∀ x, s0 ≤ x → x < r0 → mid + m - 1 - x < b) := by
    subst hs0; subst hr0
    split
    · refine ⟨by omega, by omega, by omega, by omega, by omega, fun x h1 h2 => by omega⟩
    · refine ⟨by omega, by omega, by omega, by omega, by omega, fun x h1 h2 => by omega⟩
  obtain ⟨c1, c2, c3, c4, c5, c6⟩ := bnd
  obtain ⟨s, hs⟩ : ∃ x, bsW (fun x => !lessAt c cs (mid + m - 1 - x) x) s0 r0 = x := ⟨_, rfl⟩
  have hrm := bsW_mem (fun x => !lessAt c cs (mid + m - 1 - x) x) s0 r0 c2
  rw [hs] at hrm
  simp only [hmid, hs0, hr0, hs]
  obtain ⟨e, he⟩ : ∃ x, mid + m - s = x := ⟨_, rfl⟩
  have heb : e ≤ b := by omega
  have hei : (e : Int) = (mid : Int) + m - s := by omega
  have hml : mid < b := by omega
  have ham : a < mid := by omega
  rw [he]
  obtain ⟨d1, hd1⟩ : ∃ x, (if s < m ∧ m < e then rotW m (m - s) (e - m) cs else cs) = x := ⟨_, rfl⟩
  obtain ⟨d2, hd2⟩ : ∃ x, (if a < s ∧ s < mid then symF c n d1 a s mid else d1) = x := ⟨_, rfl⟩
  obtain ⟨d3, hd3⟩ : ∃ x, (if mid < e ∧ e < b then symF c n d2 mid e b else d2) = x := ⟨_, rfl⟩
  rw [hd1, hd2, hd3]
  have p1 : d1.Perm cs := by
    rw [← hd1]; split
    · exact rotW_perm _ _ _ _
    · exact .refl _
  have p2 : d2.Perm cs := by
    rw [← hd2]; split
    · exact (symF_perm c _ _ _ _ _).trans p1
    · exact p1
  have l1 := p1.length_eq
  have l2 := p2.length_eq
  have hw := half_nat' a b
  rw [hmid] at hw
  have i1 : ¬ (m : Int) - (a : Int) = 1 := by omega
  have i2 : ¬ (b : Int) - (m : Int) = 1 := by omega
  have ei0 : (s0 : Int) = if mid < m then (mid : Int) + m - b else a := by
    rw [← hs0]; split
    · omega
    · rfl
  have ei1 : (r0 : Int) = if mid < m then (mid : Int) else m := by
    rw [← hr0]; split <;> rfl
  have t1 := fun (k : s < m ∧ m < e) => rotate_satM cs f z s m e k.1 k.2 (by omega) hl
  have t2 := fun (k : a < s ∧ s < mid) => ih d1 p1 a s mid k.1 k.2 (by omega) (by omega)
  have t3 := fun (k : mid < e ∧ e < b) => ih d2 p2 mid e b k.1 k.2 hb (by omega)
  unfold rowC at t1 t2 t3 ⊢
  clear ih
  refine satM_of_body tyOk [] [1000] Tryd.func106 rfl (by kernel_rfl) ⟨Nat.le_of_ble_eq_true rfl, Nat.le_of_ble_eq_true rfl⟩ fun w0 m0 F0 => ?_
  simp only [Tryd.ntmps106, envOf, Nat.reduceAdd]
  repeat' (first | ((first | ((fail_if_success (refine AWP.isRegion 27 ?_)); (with_reducible refine qV tyOk fun K hK => ?_)) | (with_reducible first | refine qG ?_ | refine qH ?_ | refine qP ?_ | refine qGx ?_ | refine qHx ?_ | refine qPx ?_) | ((with_reducible first | refine qS ?_ ?_ | refine qT ?_ ?_ | refine qU ?_ ?_) <;> (intro h; try simp only [NM] at h))) <;> simp -dsimp (disch := (first | omega | (simp only [LN]; omega))) only [go_sem, ↓reduceIte, seval, wrap_u64, hw, bits_u64, und_int, und_uint, i1, i2]) | ((with_reducible refine hK _ ?_); clear hK K) | (with_reducible first | refine qA ?_ | refine qB ?_ | refine qC ?_ | refine qD ?_ | refine qE ?_ | refine qF ?_ | refine qL ?_ | refine qM ?_ | refine qN ?_ | refine qO ?_ | refine qQ ?_) | refine qR rfl ?_ | (with_reducible refine AI ?_) | ((with_reducible refine qW (T := TT) (b := ?_) ?_ ?_); rotate_left; exact rfl) | (with_reducible first | refine qX ?_ | refine qY ?_ | refine qZ ?_) | (with_reducible first | refine qI ?_ | refine qIx ?_ | fail) | ((with_reducible refine yS ?_ ?_) <;> (intro h; try simp only [NM] at h)))
  refine AWP.meet ⟨220, [(0, .v (.one (.ref 1000 0 cs.length))), (1, .v (oI a)), (2, .v (oI m)), (3, .v (oI b)), (4, .v (.one (.clo f [.fz z]))), (18, .v (oI mid)), (19, .v (.one (.int .i64 ((mid : Int) + m)))), (20, .v (oI s0)), (21, .v (oI r0))], [], [(1000, ⟨4, cs.map eChg, []⟩)]⟩ ?_ ?_
  · by_cases hlt : mid < m
    · rw [if_pos hlt] at ei0 ei1
      repeat' (first | ((first | with_reducible refine qV tyOk fun K hK => ?_ | (with_reducible first | refine qG ?_ | refine qH ?_ | refine qP ?_ | refine qGx ?_ | refine qHx ?_ | refine qPx ?_) | ((with_reducible first | refine qS ?_ ?_ | refine qT ?_ ?_ | refine qU ?_ ?_) <;> (intro h; try simp only [NM] at h))) <;> simp -dsimp (disch := (first | omega | (simp only [LN]; omega))) only [go_sem, ↓reduceIte, seval]) | ((with_reducible refine hK _ ?_); clear hK K) | (with_reducible first | refine qA ?_ | refine qB ?_ | refine qC ?_ | refine qD ?_ | refine qE ?_ | refine qF ?_ | refine qL ?_ | refine qM ?_ | refine qN ?_ | refine qO ?_ | refine qQ ?_) | refine qR rfl ?_ | (with_reducible refine AI ?_) | ((with_reducible refine qW (T := TT) (b := ?_) ?_ ?_); rotate_left; exact rfl) | (with_reducible first | refine qX ?_ | refine qY ?_ | refine qZ ?_) | (with_reducible first | refine qI ?_ | refine qIx ?_ | fail) | ((with_reducible refine yS ?_ ?_) <;> (intro h; try simp only [NM] at h)))
      refine St.le_mk ?_ ?_ ?_ <;> simp only [LE, EN, Nat.reduceEqDiff, reduceIte, Nat.reduceSub, ei0, ei1]
    · rw [if_neg hlt] at ei0 ei1
      repeat' (first | ((first | with_reducible refine qV tyOk fun K hK => ?_ | (with_reducible first | refine qG ?_ | refine qH ?_ | refine qP ?_ | refine qGx ?_ | refine qHx ?_ | refine qPx ?_) | ((with_reducible first | refine qS ?_ ?_ | refine qT ?_ ?_ | refine qU ?_ ?_) <;> (intro h; try simp only [NM] at h))) <;> simp -dsimp (disch := (first | omega | (simp only [LN]; omega))) only [go_sem, ↓reduceIte, seval]) | ((with_reducible refine hK _ ?_); clear hK K) | (with_reducible first | refine qA ?_ | refine qB ?_ | refine qC ?_ | refine qD ?_ | refine qE ?_ | refine qF ?_ | refine qL ?_ | refine qM ?_ | refine qN ?_ | refine qO ?_ | refine qQ ?_) | refine qR rfl ?_ | (with_reducible refine AI ?_) | ((with_reducible refine qW (T := TT) (b := ?_) ?_ ?_); rotate_left; exact rfl) | (with_reducible first | refine qX ?_ | refine qY ?_ | refine qZ ?_) | (with_reducible first | refine qI ?_ | refine qIx ?_ | fail) | ((with_reducible refine yS ?_ ?_) <;> (intro h; try simp only [NM] at h)))
      refine St.le_mk ?_ ?_ ?_ <;> simp only [LE, EN, Nat.reduceEqDiff, reduceIte, Nat.reduceSub, ei0, ei1]
  repeat' (first | ((first | with_reducible refine qV tyOk fun K hK => ?_ | (with_reducible first | refine qG ?_ | refine qH ?_ | refine qP ?_ | refine qGx ?_ | refine qHx ?_ | refine qPx ?_) | ((with_reducible first | refine qS ?_ ?_ | refine qT ?_ ?_ | refine qU ?_ ?_) <;> (intro h; try simp only [NM] at h))) <;> simp -dsimp (disch := (first | omega | (simp only [LN]; omega))) only [go_sem, ↓reduceIte, seval]) | ((with_reducible refine hK _ ?_); clear hK K) | (with_reducible first | refine qA ?_ | refine qB ?_ | refine qC ?_ | refine qD ?_ | refine qE ?_ | refine qF ?_ | refine qL ?_ | refine qM ?_ | refine qN ?_ | refine qO ?_ | refine qQ ?_) | refine qR rfl ?_ | (with_reducible refine AI ?_) | ((with_reducible refine qW (T := TT) (b := ?_) ?_ ?_); rotate_left; exact rfl) | (with_reducible first | refine qX ?_ | refine qY ?_ | refine qZ ?_) | (with_reducible first | refine qI ?_ | refine qIx ?_ | fail) | ((with_reducible refine yS ?_ ?_) <;> (intro h; try simp only [NM] at h)))
  refine AWP.loop (ι := {p : Nat × Nat // s0 ≤ p.1 ∧ p.1 ≤ p.2 ∧ p.2 ≤ r0 ∧ bsW (fun x => !lessAt c cs (mid + m - 1 - x) x) p.1 p.2 = s}) (fun p => ⟨220, [(0, .v (.one (.ref 1000 0 cs.length))), (1, .v (oI a)), (2, .v (oI m)), (3, .v (oI b)), (4, .v (.one (.clo f [.fz z]))), (18, .v (oI mid)), (19, .v (.one (.int .i64 ((mid : Int) + m)))), (20, .v (oI p.1.1)), (21, .v (oI p.1.2)), (22, .v (.one (.int .i64 ((mid : Int) + m - 1))))], [], [(1000, ⟨4, cs.map eChg, []⟩)]⟩) (fun p => p.1.2 - p.1.1) ⟨(s0, r0), by simp only; omega, by simp only; omega, by simp only; omega, hs⟩ ?_ fun ⟨(i, j), hi1, hi2, hi3, hI⟩ => ?_
  · refine St.le_mk ?_ ?_ ?_ <;> simp only [LE, EN, Nat.reduceEqDiff, reduceIte, Nat.reduceSub]
  simp only at hi1 hi2 hi3 hI ⊢
  rcases Nat.lt_or_ge i j with h1 | h1
  · obtain ⟨x, hx⟩ : ∃ x, (i + j) / 2 = x := ⟨_, rfl⟩
    have q1 : x < cs.length := by omega
    have q2 : mid + m - 1 - x < cs.length := by have := c6 x (by omega) (by omega); omega
    have hw := half_nat' i j
    rw [hx] at hw
    have cc := hc cs[mid + m - 1 - x] (List.getElem_mem _) cs[x] (List.getElem_mem _)
    have lj := lessAt_eq c q2 q1
    have ex : ((mid : Int) + m - 1 - x).toNat = mid + m - 1 - x := by omega
    have s1 := bsW_t (fun x => !lessAt c cs (mid + m - 1 - x) x) i j h1
    have s2 := bsW_f (fun x => !lessAt c cs (mid + m - 1 - x) x) i j h1
    simp only [hx, Bool.not_eq_true', Bool.not_eq_false'] at s1 s2
    repeat' (first | ((first | with_reducible refine qV tyOk fun K hK => ?_ | (with_reducible first | refine qG ?_ | refine qH ?_ | refine qP ?_ | refine qGx ?_ | refine qHx ?_ | refine qPx ?_) | ((with_reducible first | refine qS ?_ ?_ | refine qT ?_ ?_ | refine qU ?_ ?_) <;> (intro h; try simp only [NM] at h))) <;> simp -dsimp (disch := (first | omega | (simp only [LN]; omega))) only [go_sem, ↓reduceIte, seval, wrap_u64, hw, bits_u64, und_int, und_uint]) | ((with_reducible refine hK _ ?_); clear hK K) | (with_reducible first | refine qA ?_ | refine qB ?_ | refine qC ?_ | refine qD ?_ | refine qE ?_ | refine qF ?_ | refine qL ?_ | refine qM ?_ | refine qN ?_ | refine qO ?_ | refine qQ ?_) | refine qR rfl ?_ | (with_reducible refine AI ?_) | ((with_reducible refine qW (T := TT) (b := ?_) ?_ ?_); rotate_left; exact rfl) | (with_reducible first | refine qX ?_ | refine qY ?_ | refine qZ ?_) | (with_reducible first | refine qI ?_ | refine qIx ?_ | fail) | ((with_reducible refine yS ?_ ?_) <;> (intro h; try simp only [NM] at h)))
    refine AWP.drawX tyOk mixed [(0, 11)] [(11, [(12, 2)], [])] [11] 8 (by decide) (by kernel_rfl) (by kernel_rfl) (by kernel_rfl) (by kernel_rfl) fun K hK => ?_
    simp only [segx_nil, segx_cons, segs, List.drop_succ_cons, List.drop_zero, List.take_succ_cons, List.take_zero, List.getElem?_cons_zero, List.getElem?_cons_succ, List.cons_append, List.nil_append, List.append_nil] at hK ⊢
    simp -dsimp (disch := (first | omega | (simp only [LN]; omega))) only [go_sem, ↓reduceIte, seval, Option.getD_none, ex]
    repeat' (first | ((first | with_reducible refine qV tyOk fun K hK => ?_ | (with_reducible first | refine qG ?_ | refine qH ?_ | refine qP ?_ | refine qGx ?_ | refine qHx ?_ | refine qPx ?_) | ((with_reducible first | refine qS ?_ ?_ | refine qT ?_ ?_ | refine qU ?_ ?_) <;> (intro h; try simp only [NM] at h)) | ((with_reducible refine CallJ.is ?_); (first | refine CallJ.pure (cc) ?_ | ((apply CallJ.lentI); (focus (simp -dsimp (disch := (first | omega | (simp only [LN]; omega))) only [go_sem, ↓reduceIte, seval, Option.getD_none, ex]; rfl)); (focus (first | exact (cc)))))) | ((with_reducible refine CallH.is ?_); (first | refine CallH.intro (cc) ?_))) <;> simp -dsimp (disch := (first | omega | (simp only [LN]; omega))) only [go_sem, ↓reduceIte, seval, Option.getD_none, ex]) | ((with_reducible refine hK _ ?_); clear hK K) | (with_reducible first | refine qA ?_ | refine qB ?_ | refine qC ?_ | refine qD ?_ | refine qE ?_ | refine qF ?_ | refine qL ?_ | refine qM ?_ | refine qN ?_ | refine qO ?_ | refine qQ ?_) | refine qR rfl ?_ | ((with_reducible refine VCy.intro fun K0 hK0 => ?_)) | ((with_reducible refine VCy.fin ?_); (refine hK0 _ ?_); clear hK0 K0) | (with_reducible first | refine VCy.quiet ?_ | refine VCy.none ?_) | ((with_reducible first | refine VCy.some fun K hK => ?_ | refine VCy.step fun K hK => ?_); simp -dsimp (disch := (first | omega | (simp only [LN]; omega))) only [go_sem, ↓reduceIte, seval, Option.getD_none, ex]) | ((with_reducible refine VCy.keep ?_ ?_); focus ((simp -dsimp (disch := (first | omega | (simp only [LN]; omega))) only [go_sem, ↓reduceIte, seval, Stable_cons, Stable_nil, sameA_some, sameA_none, Option.getD_none, ex]); first | done | with_reducible assumption | omega | (repeat' with_reducible refine And.intro ?_ ?_) <;> first | with_reducible rfl | with_reducible assumption | omega)) | (with_reducible refine AI ?_) | ((with_reducible refine qW (T := TT) (b := ?_) ?_ ?_); rotate_left; exact rfl) | (with_reducible first | refine qX ?_ | refine qY ?_ | refine qZ ?_) | (with_reducible first | refine qI ?_ | refine qIx ?_ | fail) | ((with_reducible refine yS ?_ ?_) <;> (intro h; try simp only [NM] at h)))
    · refine ⟨⟨(i, x), hi1, by simp only; omega, by simp only; omega, by rw [← s2 (by rw [lj]; exact decide_eq_true (by omega)), hI]⟩, by simp only; omega, ?_⟩
      refine St.le_mk ?_ ?_ ?_ <;> simp only [LE, EN, Nat.reduceEqDiff, reduceIte, Nat.reduceSub]
    · refine ⟨⟨(x + 1, j), by simp only; omega, by simp only; omega, hi3, by rw [← s1 (by rw [lj]; exact decide_eq_false (by omega)), hI]⟩, by simp only; omega, ?_⟩
      refine St.le_mk ?_ ?_ ?_ <;> simp only [LE, EN, Nat.reduceEqDiff, reduceIte, Nat.reduceSub, Int.natCast_add]
  · rw [bsW_e _ _ _ (by omega)] at hI
    subst hI
    repeat' (first | ((first | ((fail_if_success (refine AWP.isRegion 39 ?_)); (with_reducible refine qV tyOk fun K hK => ?_)) | (with_reducible first | refine qG ?_ | refine qH ?_ | refine qP ?_ | refine qGx ?_ | refine qHx ?_ | refine qPx ?_) | ((with_reducible first | refine qS ?_ ?_ | refine qT ?_ ?_ | refine qU ?_ ?_) <;> (intro h; try simp only [NM] at h))) <;> simp -dsimp (disch := (first | omega | (simp only [LN]; omega))) only [go_sem, ↓reduceIte, seval]) | ((with_reducible refine hK _ ?_); clear hK K) | (with_reducible first | refine qA ?_ | refine qB ?_ | refine qC ?_ | refine qD ?_ | refine qE ?_ | refine qF ?_ | refine qL ?_ | refine qM ?_ | refine qN ?_ | refine qO ?_ | refine qQ ?_) | refine qR rfl ?_ | (with_reducible refine AI ?_) | ((with_reducible refine qW (T := TT) (b := ?_) ?_ ?_); rotate_left; exact rfl) | (with_reducible first | refine qX ?_ | refine qY ?_ | refine qZ ?_) | (with_reducible first | refine qI ?_ | refine qIx ?_ | fail) | ((with_reducible refine yS ?_ ?_) <;> (intro h; try simp only [NM] at h)))
    rw [← hei]
    refine AWP.meet ⟨220, [(0, .v (.one (.ref 1000 0 cs.length))), (1, .v (oI a)), (3, .v (oI b)), (4, .v (.one (.clo f [.fz z]))), (18, .v (oI mid)), (20, .v (oI i)), (24, .v (oI e))], [], [(1000, ⟨4, d1.map eChg, []⟩)]⟩ ?_ ?_
    · by_cases k1 : i < m ∧ m < e
      · have t1 := t1 k1
        rw [if_pos k1] at hd1
        rw [hd1] at t1
        obtain ⟨k1, k1'⟩ := k1
        repeat' (first | ((first | with_reducible refine qV tyOk fun K hK => ?_ | (with_reducible first | refine qG ?_ | refine qH ?_ | refine qP ?_ | refine qGx ?_ | refine qHx ?_ | refine qPx ?_) | ((with_reducible first | refine qS ?_ ?_ | refine qT ?_ ?_ | refine qU ?_ ?_) <;> (intro h; try simp only [NM] at h)) | ((with_reducible refine CallJ.is ?_); refine CallJ.io [] [(1000, 1000)] [] [(1000, 1000)] [] [] [] [1000, 1000] (t1) rfl ⟨rfl, rfl, rfl, rfl⟩ ?_ ?_ ?_; (focus (simp -dsimp (disch := (first | omega | (simp only [LN]; omega))) only [go_sem, ↓reduceIte, seval, dropL_nil, dropL_nil', dropL_cons]; done)); (focus (simp -dsimp (disch := (first | omega | (simp only [LN]; omega))) only [go_sem, ↓reduceIte, seval, dropL_nil, dropL_nil', dropL_cons]; done)))) <;> simp -dsimp (disch := (first | omega | (simp only [LN]; omega))) only [go_sem, ↓reduceIte, seval, dropL_nil, dropL_nil', dropL_cons]) | ((with_reducible refine hK _ ?_); clear hK K) | (with_reducible first | refine qA ?_ | refine qB ?_ | refine qC ?_ | refine qD ?_ | refine qE ?_ | refine qF ?_ | refine qL ?_ | refine qM ?_ | refine qN ?_ | refine qO ?_ | refine qQ ?_) | refine qR rfl ?_ | (with_reducible refine AI ?_) | ((with_reducible refine qW (T := TT) (b := ?_) ?_ ?_); rotate_left; exact rfl) | (with_reducible first | refine qX ?_ | refine qY ?_ | refine qZ ?_) | (with_reducible first | refine qI ?_ | refine qIx ?_ | fail) | ((with_reducible refine yS ?_ ?_) <;> (intro h; try simp only [NM] at h)))
        refine St.le_mk ?_ ?_ ?_ <;> simp only [LE, EN, Nat.reduceEqDiff, reduceIte, Nat.reduceSub]
      · rw [if_neg k1] at hd1
        rw [← hd1]
        repeat' (first | ((first | with_reducible refine qV tyOk fun K hK => ?_ | (with_reducible first | refine qG ?_ | refine qH ?_ | refine qP ?_ | refine qGx ?_ | refine qHx ?_ | refine qPx ?_) | ((with_reducible first | refine qS ?_ ?_ | refine qT ?_ ?_ | refine qU ?_ ?_) <;> (intro h; try simp only [NM] at h))) <;> simp -dsimp (disch := (first | omega | (simp only [LN]; omega))) only [go_sem, ↓reduceIte, seval]) | ((with_reducible refine hK _ ?_); clear hK K) | (with_reducible first | refine qA ?_ | refine qB ?_ | refine qC ?_ | refine qD ?_ | refine qE ?_ | refine qF ?_ | refine qL ?_ | refine qM ?_ | refine qN ?_ | refine qO ?_ | refine qQ ?_) | refine qR rfl ?_ | (with_reducible refine AI ?_) | ((with_reducible refine qW (T := TT) (b := ?_) ?_ ?_); rotate_left; exact rfl) | (with_reducible first | refine qX ?_ | refine qY ?_ | refine qZ ?_) | (with_reducible first | refine qI ?_ | refine qIx ?_ | fail) | ((with_reducible refine yS ?_ ?_) <;> (intro h; try simp only [NM] at h)))
        all_goals first | (exfalso; omega) | skip
        all_goals refine St.le_mk ?_ ?_ ?_ <;> simp only [LE, EN, Nat.reduceEqDiff, reduceIte, Nat.reduceSub]
    repeat with_reducible refine qA ?_
    refine AWP.meet ⟨220, [(0, .v (.one (.ref 1000 0 cs.length))), (3, .v (oI b)), (4, .v (.one (.clo f [.fz z]))), (18, .v (oI mid)), (24, .v (oI e))], [], [(1000, ⟨4, d2.map eChg, []⟩)]⟩ ?_ ?_
    · by_cases k1 : a < i ∧ i < mid
      · have t1 := t2 k1
        rw [if_pos k1] at hd2
        rw [hd2] at t1
        obtain ⟨k1, k1'⟩ := k1
        repeat' (first | ((first | with_reducible refine qV tyOk fun K hK => ?_ | (with_reducible first | refine qG ?_ | refine qH ?_ | refine qP ?_ | refine qGx ?_ | refine qHx ?_ | refine qPx ?_) | ((with_reducible first | refine qS ?_ ?_ | refine qT ?_ ?_ | refine qU ?_ ?_) <;> (intro h; try simp only [NM] at h)) | ((with_reducible refine CallJ.is ?_); refine CallJ.io [] [(1000, 1000)] [] [(1000, 1000)] [] [] [] [1000, 1000] (t1) rfl ⟨rfl, rfl, rfl, rfl⟩ ?_ ?_ ?_; (focus (simp -dsimp (disch := (first | omega | (simp only [LN]; omega))) only [go_sem, ↓reduceIte, seval, dropL_nil, dropL_nil', dropL_cons]; done)); (focus (simp -dsimp (disch := (first | omega | (simp only [LN]; omega))) only [go_sem, ↓reduceIte, seval, dropL_nil, dropL_nil', dropL_cons]; done)))) <;> simp -dsimp (disch := (first | omega | (simp only [LN]; omega))) only [go_sem, ↓reduceIte, seval, dropL_nil, dropL_nil', dropL_cons]) | ((with_reducible refine hK _ ?_); clear hK K) | (with_reducible first | refine qA ?_ | refine qB ?_ | refine qC ?_ | refine qD ?_ | refine qE ?_ | refine qF ?_ | refine qL ?_ | refine qM ?_ | refine qN ?_ | refine qO ?_ | refine qQ ?_) | refine qR rfl ?_ | (with_reducible refine AI ?_) | ((with_reducible refine qW (T := TT) (b := ?_) ?_ ?_); rotate_left; exact rfl) | (with_reducible first | refine qX ?_ | refine qY ?_ | refine qZ ?_) | (with_reducible first | refine qI ?_ | refine qIx ?_ | fail) | ((with_reducible refine yS ?_ ?_) <;> (intro h; try simp only [NM] at h)))
        refine St.le_mk ?_ ?_ ?_ <;> simp only [LE, EN, Nat.reduceEqDiff, reduceIte, Nat.reduceSub]
      · rw [if_neg k1] at hd2
        rw [← hd2]
        repeat' (first | ((first | with_reducible refine qV tyOk fun K hK => ?_ | (with_reducible first | refine qG ?_ | refine qH ?_ | refine qP ?_ | refine qGx ?_ | refine qHx ?_ | refine qPx ?_) | ((with_reducible first | refine qS ?_ ?_ | refine qT ?_ ?_ | refine qU ?_ ?_) <;> (intro h; try simp only [NM] at h))) <;> simp -dsimp (disch := (first | omega | (simp only [LN]; omega))) only [go_sem, ↓reduceIte, seval]) | ((with_reducible refine hK _ ?_); clear hK K) | (with_reducible first | refine qA ?_ | refine qB ?_ | refine qC ?_ | refine qD ?_ | refine qE ?_ | refine qF ?_ | refine qL ?_ | refine qM ?_ | refine qN ?_ | refine qO ?_ | refine qQ ?_) | refine qR rfl ?_ | (with_reducible refine AI ?_) | ((with_reducible refine qW (T := TT) (b := ?_) ?_ ?_); rotate_left; exact rfl) | (with_reducible first | refine qX ?_ | refine qY ?_ | refine qZ ?_) | (with_reducible first | refine qI ?_ | refine qIx ?_ | fail) | ((with_reducible refine yS ?_ ?_) <;> (intro h; try simp only [NM] at h)))
        all_goals first | (exfalso; omega) | skip
        all_goals refine St.le_mk ?_ ?_ ?_ <;> simp only [LE, EN, Nat.reduceEqDiff, reduceIte, Nat.reduceSub]
    by_cases k1 : mid < e ∧ e < b
    · have t1 := t3 k1
      rw [if_pos k1] at hd3
      rw [hd3] at t1
      obtain ⟨k1, k1'⟩ := k1
      repeat' (first | ((first | with_reducible refine qV tyOk fun K hK => ?_ | (with_reducible first | refine qG ?_ | refine qH ?_ | refine qP ?_ | refine qGx ?_ | refine qHx ?_ | refine qPx ?_) | ((with_reducible first | refine qS ?_ ?_ | refine qT ?_ ?_ | refine qU ?_ ?_) <;> (intro h; try simp only [NM] at h)) | ((with_reducible refine CallJ.is ?_); refine CallJ.io [] [(1000, 1000)] [] [(1000, 1000)] [] [] [] [1000, 1000] (t1) rfl ⟨rfl, rfl, rfl, rfl⟩ ?_ ?_ ?_; (focus (simp -dsimp (disch := (first | omega | (simp only [LN]; omega))) only [go_sem, ↓reduceIte, seval, dropL_nil, dropL_nil', dropL_cons]; done)); (focus (simp -dsimp (disch := (first | omega | (simp only [LN]; omega))) only [go_sem, ↓reduceIte, seval, dropL_nil, dropL_nil', dropL_cons]; done)))) <;> simp -dsimp (disch := (first | omega | (simp only [LN]; omega))) only [go_sem, ↓reduceIte, seval, dropL_nil, dropL_nil', dropL_cons]) | ((with_reducible refine hK _ ?_); clear hK K) | (with_reducible first | refine qA ?_ | refine qB ?_ | refine qC ?_ | refine qD ?_ | refine qE ?_ | refine qF ?_ | refine qL ?_ | refine qM ?_ | refine qN ?_ | refine qO ?_ | refine qQ ?_) | refine qR rfl ?_ | (with_reducible refine AI ?_) | ((with_reducible refine qW (T := TT) (b := ?_) ?_ ?_); rotate_left; exact rfl) | (with_reducible first | refine qX ?_ | refine qY ?_ | refine qZ ?_) | (with_reducible first | refine qI ?_ | refine qIx ?_ | fail) | ((with_reducible refine yS ?_ ?_) <;> (intro h; try simp only [NM] at h)))
      simp -dsimp (disch := (first | omega | (simp only [LN]; omega))) only [retQ, Tryd.results106, resVals, cellRV, resOf, St.rest, St.freeze, RT, go_sem, ↓reduceIte, seval]
    · rw [if_neg k1] at hd3
      rw [← hd3]
      repeat' (first | ((first | with_reducible refine qV tyOk fun K hK => ?_ | (with_reducible first | refine qG ?_ | refine qH ?_ | refine qP ?_ | refine qGx ?_ | refine qHx ?_ | refine qPx ?_) | ((with_reducible first | refine qS ?_ ?_ | refine qT ?_ ?_ | refine qU ?_ ?_) <;> (intro h; try simp only [NM] at h))) <;> simp -dsimp (disch := (first | omega | (simp only [LN]; omega))) only [go_sem, ↓reduceIte, seval]) | ((with_reducible refine hK _ ?_); clear hK K) | (with_reducible first | refine qA ?_ | refine qB ?_ | refine qC ?_ | refine qD ?_ | refine qE ?_ | refine qF ?_ | refine qL ?_ | refine qM ?_ | refine qN ?_ | refine qO ?_ | refine qQ ?_) | refine qR rfl ?_ | (with_reducible refine AI ?_) | ((with_reducible refine qW (T := TT) (b := ?_) ?_ ?_); rotate_left; exact rfl) | (with_reducible first | refine qX ?_ | refine qY ?_ | refine qZ ?_) | (with_reducible first | refine qI ?_ | refine qIx ?_ | fail) | ((with_reducible refine yS ?_ ?_) <;> (intro h; try simp only [NM] at h)))
      all_goals first | (exfalso; omega) | skip
      all_goals simp -dsimp (disch := (first | omega | (simp only [LN]; omega))) only [retQ, Tryd.results106, resVals, cellRV, resOf, St.rest, St.freeze, RT, go_sem, ↓reduceIte, seval]
theorem symMerge_satM (f : FuncId) (z : List L) (c : Chg → Chg → Int) : ∀ (n : Nat) (cs : List Chg) (_ : CmpC Tryd.prog f (.fz z) c cs) (a m b : Nat) (_ : a < m) (_ : m < b) (_ : b ≤ cs.length) (_ : b - a ≤ n) (_ : cs.length ≤ 140737488355328),
    SatM Tryd.prog 106 [.one (.ref 1000 0 cs.length), oI a, oI m, oI b, .one (.clo f [.fz z])] [] (rowC cs) (.tup []) [] (rowC (symF c n cs a m b))
  | 0, cs, hc, a, m, b, ha, hm, hb, hn, hl => by omega
  | n + 1, cs, hc, a, m, b, ha, hm, hb, hn, hl => by
    by_cases g1 : m - a = 1
    · rw [symF, if_pos g1]
      exact symMergeA f z c cs hc a m b ha hm hb hl g1
    · by_cases g2 : b - m = 1
      · rw [symF, if_neg g1, if_pos g2]
        exact symMergeB f z c cs hc a m b ha hm hb hl g1 g2
      · refine symMergeC f z c n cs hc a m b ha hm hb hn hl g1 g2 fun ds hp a m b ha hm hb hn => ?_
        have := symMerge_satM f z c n ds (hc.perm hp) a m b ha hm (hp.length_eq ▸ hb) hn (hp.length_eq ▸ hl)
        rw [hp.length_eq] at this
        exact this
end Go.Bw

namespace Go.Bw
open Go.Proofs
attribute [local go_sem ↓] VOps_nil VOps_cons VOp_callJ VVal_callH VOps_guard GOn_tt GOn_ff GOn_tf GOn_ft GOn_not GOn_none HOn_none HOn_tt HOn_ff HOn_tf HOn_ft HOn_not VHead_nil VHead_cons VHead_guard VVal_move VVal_assign VVal_pickE pickK_true pickK_false VVal_not VVal_neg negK_int VVal_load loadK_fz loadK_ptr loadK_eptr VVal_fieldAddr VVal_field VVal_indexAddr idxK_sl idxK_ref VVal_index indexK_str VVal_extract VVal_binOp binK_one binK_agg VVal_build VVal_buildSlice VVal_makeFunc VVal_slice sliceK_str sliceK_sl sliceK_nil sliceK_ref VVal_slice3 VVal_nilCheck VVal_convert convKk_int convKk_str VVal_len VVal_max VVal_min VOp_assign assignK_int assignK_bool assignK_str assignK_clo assignK_sl assignK_nil assignK_ref assignK_agg assignK_fz assignK_ptr assignK_eptr assignK_any VOp_box VOp_alloc VOp_store storeK_ptr storeK_eptr VOp_buildSlice VOp_append appK_rr appK_rs appK_rn appK_ri appK_nr appK_ns appK_nn appK_ni appStd_eq VOp_copy copyK_ref VOp_clear clearK_ref VOp_cap VOp_eqNil VOp_move VOp_pick VOp_not VOp_neg VOp_load VOp_fieldAddr VOp_field VOp_indexAddr VOp_index VOp_extract VOp_binTmp VOp_binInt VOp_binStr VOp_binPtr VOp_build VOp_makeFunc VOp_slice VOp_nilCheck VOp_convert VOp_len VOp_max VOp_min mO_some mT_some pk_some pk_none look_cons del_cons
attribute [local go_sem] guardB gOf int_bne beq_true beq_false Bool.not_not gSlot pickK_true pickK_false negK_int loadK_fz loadK_ptr loadK_eptr idxK_sl idxK_ref indexK_str binK_one binK_agg sliceK_str sliceK_sl sliceK_nil sliceK_ref convKk_int convKk_str maxL minL assignK_int assignK_bool assignK_str assignK_clo assignK_sl assignK_nil assignK_ref assignK_agg assignK_fz assignK_ptr assignK_eptr assignK_any nilRow_eq takeRow_eq appended_eq storeK_ptr storeK_eptr store_mk appIn_eq appMk_eq marked_eq ovOut_nil ovOut_cons ovIn_nil ovIn_cons padRow_eq ysC capK_nil capK_ref ioSt_mk outB_nil outR_nil outB outR inB_nil inB_cons inR_nil inR_cons L.kl L.kl0 L.ids L.ids0 Option.getD_some evalO constA mO_some mT_some put_mk putO_some putO_none okD_some okD_none pk_some pk_none look_nil del_nil sput noBox_mk noRow_mk newBox_eq newRow0_eq St.killRow RowC.kill rowMap_mk rowOf ovAll ovAdd ovDel ovGet ovShift dstOf ysOf overlay_nil overlay_nil' overlay A.map V.map L.noPtr L.noPtr0 L.noRow L.noRow0 L.peek L.norm L.flat clos_int clos_bool clos_str clos_sl clos_nil clos_any clos_fz L.clos L.isFz L.kd moveL fieldOff eqCells eqCell eqOp oneOf boolOf intOfA tupOf vOf aggOf isPtrLike isSlice lenKind lenL nL elemTI loadV asV binL intBin intDivL shrL boolBin strBin strAdd ptrNil boundN partCells fillL placesOf setL chunks repL capsOf capL callOf argsOf frzV_int frzV_bool frzV_str frzV_sl frzV_nil frzV_fz frzV_any frzV_own frzV_clo frzV_ref frzV_eptr frzV_ptr frzRow_nil frzRow_ov frzRs_nil frzRs_cons frzCs_nil frzCs_cons frzO_some frzO_none frzN_int frzN_bool frzN_str frzN_sl frzN_nil frzN_any frzN_own List.map_cons List.map_nil List.cons_append List.nil_append List.append_nil List.length_cons List.length_nil List.length_map List.length_append List.headD_cons List.tail_cons List.getElem?_cons_zero List.getElem?_cons_succ List.drop_zero List.drop_succ_cons List.drop_nil List.take_succ_cons List.take_zero List.take_nil List.take_length List.filter_cons List.filter_nil List.elem_cons List.elem_nil List.all_cons List.all_nil Option.bind_some Option.map_some Option.some.injEq bne_self_eq_false beq_self_eq_true if_true if_false Bool.false_eq_true true_and and_true and_self Nat.zero_add Nat.add_zero Nat.zero_le Int.toNat_natCast Int.toNat_zero Option.isSome_some List.getElem?_toArray decide_true decide_false ge_iff_le gt_iff_lt Bool.not_true Bool.not_false Nat.le_refl Bool.and_true Bool.true_and Bool.and_false Bool.false_and eVal eRow eRow1 eRows eInt1 eInts eCol eCols eTbl eTbls eFK eFKs eCon eCons eSch eRel eInst eChg eChgs szOf getD_map_lt wrap_nat wrap_in List.take_of_length_le frz_eVal frz_eRow1 frz_eInt1 frz_eCol frz_eTbl frz_eFK frz_eCon frz_eRel frz_eChg noOwn_nil noOwn_cons noOwn_append L.isOwn noOwn_eVal noOwn_eRow1 noOwn_eInt1 noOwn_eCol noOwn_eTbl noOwn_eFK noOwn_eCon noOwn_eRel noOwn_eChg convK_2 convK_3 convK_5 convK_12 convK_21 convK_57 convK_155 convK_162 convK_166 TT_2 TT_3 TT_4 TT_5 TT_9 TT_12 TT_13 TT_21 TT_22 TT_23 TT_24 TT_25 TT_26 TT_27 TT_28 TT_38 TT_39 TT_40 TT_41 TT_42 TT_45 TT_46 TT_47 TT_48 TT_49 TT_50 TT_51 TT_52 TT_54 TT_55 TT_56 TT_57 TT_65 TT_66 TT_82 TT_83 TT_84 TT_100 TT_101 TT_118 TT_155 TT_162 TT_166 boolTy_4 eqK_46 eqK_50 eqK_52
attribute [local congr] VOps.congr VHead.congr VOp.congr VVal.congr pk.congr assignK.congr appK.congr appStd.congr copyK.congr clearK.congr storeK.congr loadK.congr idxK.congr sliceK.congr indexK.congr binK.congr convKk.congr
theorem blkW_t (c : Chg → Chg → Int) (N a : Nat) (ds : List Chg) (h : a + 20 ≤ N) : blkW c N a ds = blkW c N (a + 20) (insS c a (a + 20) ds) := by
  rw [blkW, if_pos h]
theorem blkW_f (c : Chg → Chg → Int) (N a : Nat) (ds : List Chg) (h : ¬ a + 20 ≤ N) : blkW c N a ds = insS c a N ds := by
  rw [blkW, if_neg h]
theorem mrgW_t (c : Chg → Chg → Int) (N k a : Nat) (ds : List Chg) (h0 : 0 < k) (h : a + 2 * k ≤ N) : mrgW c N k a ds = mrgW c N k (a + 2 * k) (symF c N ds a (a + k) (a + 2 * k)) := by
  rw [mrgW, dif_pos ⟨h0, h⟩]
theorem mrgW_m (c : Chg → Chg → Int) (N k a : Nat) (ds : List Chg) (h : ¬ a + 2 * k ≤ N) (h2 : a + k < N) : mrgW c N k a ds = symF c N ds a (a + k) N := by
  rw [mrgW, dif_neg fun x => h x.2, if_pos h2]
theorem mrgW_f (c : Chg → Chg → Int) (N k a : Nat) (ds : List Chg) (h : ¬ a + 2 * k ≤ N) (h2 : ¬ a + k < N) : mrgW c N k a ds = ds := by
  rw [mrgW, dif_neg fun x => h x.2, if_neg h2]
theorem stW_t (c : Chg → Chg → Int) (N k : Nat) (ds : List Chg) (h0 : 0 < k) (h : k < N) : stW c N k ds = stW c N (2 * k) (mrgW c N k 0 ds) := by
  rw [stW, dif_pos ⟨h0, h⟩]
theorem stW_f (c : Chg → Chg → Int) (N k : Nat) (ds : List Chg) (h : ¬ k < N) : stW c N k ds = ds := by
  rw [stW, dif_neg fun x => h x.2]
set_option maxHeartbeats 32000000 in
theorem stable_satM (f : FuncId) (z : List L) (c : Chg → Chg → Int) (cs : List Chg) (hc : CmpC Tryd.prog f (.fz z) c cs) (hl : cs.length ≤ 140737488355328) :
    SatM Tryd.prog 90 [.one (.ref 1000 0 cs.length), oI cs.length, .one (.clo f [.fz z])] [] (rowC cs) (.tup []) [] (rowC (stableF c cs)) := by
  have ins := fun (ds : List Chg) (hp : ds.Perm cs) (a b : Nat) (ha : a ≤ cs.length) (hb : b ≤ cs.length) => insertionSort_satM ds f (.fz z) c (hc.perm hp) a b (by rw [hp.length_eq]; exact hb) (by rw [hp.length_eq]; exact ha) (by rw [hp.length_eq]; exact hl)
  have sym := fun (ds : List Chg) (hp : ds.Perm cs) (a m b : Nat) (ha : a < m) (hm : m < b) (hb : b ≤ cs.length) => symMerge_satM f z c cs.length ds (hc.perm hp) a m b ha hm (by rw [hp.length_eq]; exact hb) (by omega) (by rw [hp.length_eq]; exact hl)
  unfold stableF
  unfold rowC at ins sym ⊢
  refine satM_of_body tyOk [] [1000] Tryd.func90 rfl (by kernel_rfl) ⟨Nat.le_of_ble_eq_true rfl, Nat.le_of_ble_eq_true rfl⟩ fun w0 m0 F0 => ?_
  simp only [Tryd.ntmps90, envOf, Nat.reduceAdd]
  repeat' (first | ((first | with_reducible refine qV tyOk fun K hK => ?_ | (with_reducible first | refine qG ?_ | refine qH ?_ | refine qP ?_ | refine qGx ?_ | refine qHx ?_ | refine qPx ?_) | ((with_reducible first | refine qS ?_ ?_ | refine qT ?_ ?_ | refine qU ?_ ?_) <;> (intro h; try simp only [NM] at h))) <;> simp -dsimp (disch := (first | omega | (simp only [LN]; omega))) only [go_sem, ↓reduceIte, seval]) | ((with_reducible refine hK _ ?_); clear hK K) | (with_reducible first | refine qA ?_ | refine qB ?_ | refine qC ?_ | refine qD ?_ | refine qE ?_ | refine qF ?_ | refine qL ?_ | refine qM ?_ | refine qN ?_ | refine qO ?_ | refine qQ ?_) | refine qR rfl ?_ | (with_reducible refine AI ?_) | ((with_reducible refine qW (T := TT) (b := ?_) ?_ ?_); rotate_left; exact rfl) | (with_reducible first | refine qX ?_ | refine qY ?_ | refine qZ ?_) | (with_reducible first | refine qI ?_ | refine qIx ?_ | fail) | ((with_reducible refine yS ?_ ?_) <;> (intro h; try simp only [NM] at h)))
  refine AWP.loop (ι := {p : Nat × List Chg // p.1 ≤ cs.length ∧ p.2.Perm cs ∧ blkW c cs.length p.1 p.2 = blkW c cs.length 0 cs}) (fun p => ⟨63, [(0, .v (.one (.ref 1000 0 cs.length))), (1, .v (oI cs.length)), (2, .v (.one (.clo f [.fz z]))), (6, .v (oI 20)), (7, .v (oI p.1.1)), (8, .v (.one (.int .i64 ((p.1.1 : Int) + 20))))], [], [(1000, ⟨4, p.1.2.map eChg, []⟩)]⟩) (fun p => cs.length - p.1.1) ⟨(0, cs), Nat.zero_le _, .refl _, rfl⟩ ?_ fun ⟨(a, ds), ha, hp, hI⟩ => ?_
  · refine St.le_mk ?_ ?_ ?_ <;> simp only [LE, EN, Nat.reduceEqDiff, reduceIte, Nat.reduceSub, Int.natCast_zero, Int.zero_add]
  simp only at ha hp hI ⊢
  have hd := hp.length_eq
  by_cases h1 : a + 20 ≤ cs.length
  · have s1 := ins ds hp a (a + 20) ha h1
    have e1 : ((a + 20 : Nat) : Int) = (a : Int) + 20 := by omega
    rw [e1, hd] at s1
    rw [blkW_t c _ _ _ h1] at hI
    repeat' (first | ((first | with_reducible refine qV tyOk fun K hK => ?_ | (with_reducible first | refine qG ?_ | refine qH ?_ | refine qP ?_ | refine qGx ?_ | refine qHx ?_ | refine qPx ?_) | ((with_reducible first | refine qS ?_ ?_ | refine qT ?_ ?_ | refine qU ?_ ?_) <;> (intro h; try simp only [NM] at h)) | ((with_reducible refine CallJ.is ?_); refine CallJ.io [] [(1000, 1000)] [] [(1000, 1000)] [] [] [] [1000, 1000] (s1) rfl ⟨rfl, rfl, rfl, rfl⟩ ?_ ?_ ?_; (focus (simp -dsimp (disch := (first | omega | (simp only [LN]; omega))) only [go_sem, ↓reduceIte, seval, dropL_nil, dropL_nil', dropL_cons]; done)); (focus (simp -dsimp (disch := (first | omega | (simp only [LN]; omega))) only [go_sem, ↓reduceIte, seval, dropL_nil, dropL_nil', dropL_cons]; done)))) <;> simp -dsimp (disch := (first | omega | (simp only [LN]; omega))) only [go_sem, ↓reduceIte, seval, dropL_nil, dropL_nil', dropL_cons]) | ((with_reducible refine hK _ ?_); clear hK K) | (with_reducible first | refine qA ?_ | refine qB ?_ | refine qC ?_ | refine qD ?_ | refine qE ?_ | refine qF ?_ | refine qL ?_ | refine qM ?_ | refine qN ?_ | refine qO ?_ | refine qQ ?_) | refine qR rfl ?_ | (with_reducible refine AI ?_) | ((with_reducible refine qW (T := TT) (b := ?_) ?_ ?_); rotate_left; exact rfl) | (with_reducible first | refine qX ?_ | refine qY ?_ | refine qZ ?_) | (with_reducible first | refine qI ?_ | refine qIx ?_ | fail) | ((with_reducible refine yS ?_ ?_) <;> (intro h; try simp only [NM] at h)))
    refine ⟨⟨(a + 20, insS c a (a + 20) ds), h1, (insS_perm c _ _ _).trans hp, hI⟩, by simp only; omega, ?_⟩
    refine St.le_mk ?_ ?_ ?_ <;> simp only [LE, EN, Nat.reduceEqDiff, reduceIte, Nat.reduceSub, e1]
  · have s1 := ins ds hp a cs.length ha (Nat.le_refl _)
    rw [hd] at s1
    rw [blkW_f c _ _ _ h1] at hI
    repeat' (first | ((first | with_reducible refine qV tyOk fun K hK => ?_ | (with_reducible first | refine qG ?_ | refine qH ?_ | refine qP ?_ | refine qGx ?_ | refine qHx ?_ | refine qPx ?_) | ((with_reducible first | refine qS ?_ ?_ | refine qT ?_ ?_ | refine qU ?_ ?_) <;> (intro h; try simp only [NM] at h)) | ((with_reducible refine CallJ.is ?_); refine CallJ.io [] [(1000, 1000)] [] [(1000, 1000)] [] [] [] [1000, 1000] (s1) rfl ⟨rfl, rfl, rfl, rfl⟩ ?_ ?_ ?_; (focus (simp -dsimp (disch := (first | omega | (simp only [LN]; omega))) only [go_sem, ↓reduceIte, seval, dropL_nil, dropL_nil', dropL_cons]; done)); (focus (simp -dsimp (disch := (first | omega | (simp only [LN]; omega))) only [go_sem, ↓reduceIte, seval, dropL_nil, dropL_nil', dropL_cons]; done)))) <;> simp -dsimp (disch := (first | omega | (simp only [LN]; omega))) only [go_sem, ↓reduceIte, seval, dropL_nil, dropL_nil', dropL_cons]) | ((with_reducible refine hK _ ?_); clear hK K) | (with_reducible first | refine qA ?_ | refine qB ?_ | refine qC ?_ | refine qD ?_ | refine qE ?_ | refine qF ?_ | refine qL ?_ | refine qM ?_ | refine qN ?_ | refine qO ?_ | refine qQ ?_) | refine qR rfl ?_ | (with_reducible refine AI ?_) | ((with_reducible refine qW (T := TT) (b := ?_) ?_ ?_); rotate_left; exact rfl) | (with_reducible first | refine qX ?_ | refine qY ?_ | refine qZ ?_) | (with_reducible first | refine qI ?_ | refine qIx ?_ | fail) | ((with_reducible refine yS ?_ ?_) <;> (intro h; try simp only [NM] at h)))
    have hp2 := (insS_perm c a cs.length ds).trans hp
    rw [hI] at hp2
    rw [hI]
    refine AWP.loop (ι := {p : Nat × List Chg // 20 ≤ p.1 ∧ p.1 ≤ 2 * cs.length + 20 ∧ p.2.Perm cs ∧ stW c cs.length p.1 p.2 = stW c cs.length 20 (blkW c cs.length 0 cs)}) (fun p => ⟨63, [(0, .v (.one (.ref 1000 0 cs.length))), (1, .v (oI cs.length)), (2, .v (.one (.clo f [.fz z]))), (6, .v (oI p.1.1))], [], [(1000, ⟨4, p.1.2.map eChg, []⟩)]⟩) (fun p => 2 * cs.length + 21 - p.1.1) ⟨(20, blkW c cs.length 0 cs), Nat.le_refl _, by simp only; omega, hp2, rfl⟩ ?_ fun ⟨(k, es), hk1, hk2, hq, hK⟩ => ?_
    · have e20 : ((20 : Nat) : Int) = 20 := rfl
      refine St.le_mk ?_ ?_ ?_ <;> simp only [LE, EN, Nat.reduceEqDiff, reduceIte, Nat.reduceSub, e20]
    simp only at hk1 hk2 hq hK ⊢
    by_cases h2 : k < cs.length
    · rw [stW_t c _ _ _ (by omega) h2] at hK
      repeat' (first | ((first | with_reducible refine qV tyOk fun K hK => ?_ | (with_reducible first | refine qG ?_ | refine qH ?_ | refine qP ?_ | refine qGx ?_ | refine qHx ?_ | refine qPx ?_) | ((with_reducible first | refine qS ?_ ?_ | refine qT ?_ ?_ | refine qU ?_ ?_) <;> (intro h; try simp only [NM] at h))) <;> simp -dsimp (disch := (first | omega | (simp only [LN]; omega))) only [go_sem, ↓reduceIte, seval]) | ((with_reducible refine hK _ ?_); clear hK K) | (with_reducible first | refine qA ?_ | refine qB ?_ | refine qC ?_ | refine qD ?_ | refine qE ?_ | refine qF ?_ | refine qL ?_ | refine qM ?_ | refine qN ?_ | refine qO ?_ | refine qQ ?_) | refine qR rfl ?_ | (with_reducible refine AI ?_) | ((with_reducible refine qW (T := TT) (b := ?_) ?_ ?_); rotate_left; exact rfl) | (with_reducible first | refine qX ?_ | refine qY ?_ | refine qZ ?_) | (with_reducible first | refine qI ?_ | refine qIx ?_ | fail) | ((with_reducible refine yS ?_ ?_) <;> (intro h; try simp only [NM] at h)))
      refine AWP.loop (ι := {p : Nat × List Chg // p.1 ≤ cs.length ∧ p.2.Perm cs ∧ mrgW c cs.length k p.1 p.2 = mrgW c cs.length k 0 es}) (fun p => ⟨63, [(0, .v (.one (.ref 1000 0 cs.length))), (1, .v (oI cs.length)), (2, .v (.one (.clo f [.fz z]))), (6, .v (oI k)), (7, .v (oI p.1.1)), (8, .v (.one (.int .i64 ((p.1.1 : Int) + 2 * k))))], [], [(1000, ⟨4, p.1.2.map eChg, []⟩)]⟩) (fun p => cs.length - p.1.1) ⟨(0, es), Nat.zero_le _, hq, rfl⟩ ?_ fun ⟨(a, gs), ha, hg, hG⟩ => ?_
      · refine St.le_mk ?_ ?_ ?_ <;> simp only [LE, EN, Nat.reduceEqDiff, reduceIte, Nat.reduceSub, Int.natCast_zero, Int.zero_add]
      simp only at ha hg hG ⊢
      have hgl := hg.length_eq
      by_cases h3 : a + 2 * k ≤ cs.length
      · have s1 := sym gs hg a (a + k) (a + 2 * k) (by omega) (by omega) h3
        have e1 : ((a + k : Nat) : Int) = (a : Int) + k := by omega
        have e2 : ((a + 2 * k : Nat) : Int) = (a : Int) + 2 * k := by omega
        rw [e1, e2, hgl] at s1
        rw [mrgW_t c _ _ _ _ (by omega) h3] at hG
        repeat' (first | ((first | with_reducible refine qV tyOk fun K hK => ?_ | (with_reducible first | refine qG ?_ | refine qH ?_ | refine qP ?_ | refine qGx ?_ | refine qHx ?_ | refine qPx ?_) | ((with_reducible first | refine qS ?_ ?_ | refine qT ?_ ?_ | refine qU ?_ ?_) <;> (intro h; try simp only [NM] at h)) | ((with_reducible refine CallJ.is ?_); refine CallJ.io [] [(1000, 1000)] [] [(1000, 1000)] [] [] [] [1000, 1000] (s1) rfl ⟨rfl, rfl, rfl, rfl⟩ ?_ ?_ ?_; (focus (simp -dsimp (disch := (first | omega | (simp only [LN]; omega))) only [go_sem, ↓reduceIte, seval, dropL_nil, dropL_nil', dropL_cons]; done)); (focus (simp -dsimp (disch := (first | omega | (simp only [LN]; omega))) only [go_sem, ↓reduceIte, seval, dropL_nil, dropL_nil', dropL_cons]; done)))) <;> simp -dsimp (disch := (first | omega | (simp only [LN]; omega))) only [go_sem, ↓reduceIte, seval, dropL_nil, dropL_nil', dropL_cons]) | ((with_reducible refine hK _ ?_); clear hK K) | (with_reducible first | refine qA ?_ | refine qB ?_ | refine qC ?_ | refine qD ?_ | refine qE ?_ | refine qF ?_ | refine qL ?_ | refine qM ?_ | refine qN ?_ | refine qO ?_ | refine qQ ?_) | refine qR rfl ?_ | (with_reducible refine AI ?_) | ((with_reducible refine qW (T := TT) (b := ?_) ?_ ?_); rotate_left; exact rfl) | (with_reducible first | refine qX ?_ | refine qY ?_ | refine qZ ?_) | (with_reducible first | refine qI ?_ | refine qIx ?_ | fail) | ((with_reducible refine yS ?_ ?_) <;> (intro h; try simp only [NM] at h)))
        refine ⟨⟨(a + 2 * k, symF c cs.length gs a (a + k) (a + 2 * k)), h3, (symF_perm c _ _ _ _ _).trans hg, hG⟩, by simp only; omega, ?_⟩
        refine St.le_mk ?_ ?_ ?_ <;> simp only [LE, EN, Nat.reduceEqDiff, reduceIte, Nat.reduceSub, e2]
      · by_cases h4 : a + k < cs.length
        · have s1 := sym gs hg a (a + k) cs.length (by omega) h4 (Nat.le_refl _)
          have e1 : ((a + k : Nat) : Int) = (a : Int) + k := by omega
          rw [e1, hgl] at s1
          rw [mrgW_m c _ _ _ _ h3 h4] at hG
          have hp3 := (symF_perm c cs.length gs a (a + k) cs.length).trans hg
          rw [hG] at hp3
          repeat' (first | ((first | with_reducible refine qV tyOk fun K hK => ?_ | (with_reducible first | refine qG ?_ | refine qH ?_ | refine qP ?_ | refine qGx ?_ | refine qHx ?_ | refine qPx ?_) | ((with_reducible first | refine qS ?_ ?_ | refine qT ?_ ?_ | refine qU ?_ ?_) <;> (intro h; try simp only [NM] at h)) | ((with_reducible refine CallJ.is ?_); refine CallJ.io [] [(1000, 1000)] [] [(1000, 1000)] [] [] [] [1000, 1000] (s1) rfl ⟨rfl, rfl, rfl, rfl⟩ ?_ ?_ ?_; (focus (simp -dsimp (disch := (first | omega | (simp only [LN]; omega))) only [go_sem, ↓reduceIte, seval, dropL_nil, dropL_nil', dropL_cons]; done)); (focus (simp -dsimp (disch := (first | omega | (simp only [LN]; omega))) only [go_sem, ↓reduceIte, seval, dropL_nil, dropL_nil', dropL_cons]; done)))) <;> simp -dsimp (disch := (first | omega | (simp only [LN]; omega))) only [go_sem, ↓reduceIte, seval, dropL_nil, dropL_nil', dropL_cons]) | ((with_reducible refine hK _ ?_); clear hK K) | (with_reducible first | refine qA ?_ | refine qB ?_ | refine qC ?_ | refine qD ?_ | refine qE ?_ | refine qF ?_ | refine qL ?_ | refine qM ?_ | refine qN ?_ | refine qO ?_ | refine qQ ?_) | refine qR rfl ?_ | (with_reducible refine AI ?_) | ((with_reducible refine qW (T := TT) (b := ?_) ?_ ?_); rotate_left; exact rfl) | (with_reducible first | refine qX ?_ | refine qY ?_ | refine qZ ?_) | (with_reducible first | refine qI ?_ | refine qIx ?_ | fail) | ((with_reducible refine yS ?_ ?_) <;> (intro h; try simp only [NM] at h)))
          rw [hG]
          refine ⟨⟨(2 * k, mrgW c cs.length k 0 es), by simp only; omega, by simp only; omega, hp3, hK⟩, by simp only; omega, ?_⟩
          have e3 : ((2 * k : Nat) : Int) = (k : Int) * 2 := by omega
          refine St.le_mk ?_ ?_ ?_ <;> simp only [LE, EN, Nat.reduceEqDiff, reduceIte, Nat.reduceSub, e3]
        · rw [mrgW_f c _ _ _ _ h3 h4] at hG
          repeat' (first | ((first | with_reducible refine qV tyOk fun K hK => ?_ | (with_reducible first | refine qG ?_ | refine qH ?_ | refine qP ?_ | refine qGx ?_ | refine qHx ?_ | refine qPx ?_) | ((with_reducible first | refine qS ?_ ?_ | refine qT ?_ ?_ | refine qU ?_ ?_) <;> (intro h; try simp only [NM] at h))) <;> simp -dsimp (disch := (first | omega | (simp only [LN]; omega))) only [go_sem, ↓reduceIte, seval]) | ((with_reducible refine hK _ ?_); clear hK K) | (with_reducible first | refine qA ?_ | refine qB ?_ | refine qC ?_ | refine qD ?_ | refine qE ?_ | refine qF ?_ | refine qL ?_ | refine qM ?_ | refine qN ?_ | refine qO ?_ | refine qQ ?_) | refine qR rfl ?_ | (with_reducible refine AI ?_) | ((with_reducible refine qW (T := TT) (b := ?_) ?_ ?_); rotate_left; exact rfl) | (with_reducible first | refine qX ?_ | refine qY ?_ | refine qZ ?_) | (with_reducible first | refine qI ?_ | refine qIx ?_ | fail) | ((with_reducible refine yS ?_ ?_) <;> (intro h; try simp only [NM] at h)))
          refine ⟨⟨(2 * k, gs), by simp only; omega, by simp only; omega, hg, by rw [hG]; exact hK⟩, by simp only; omega, ?_⟩
          have e3 : ((2 * k : Nat) : Int) = (k : Int) * 2 := by omega
          refine St.le_mk ?_ ?_ ?_ <;> simp only [LE, EN, Nat.reduceEqDiff, reduceIte, Nat.reduceSub, e3]
    · rw [stW_f c _ _ _ h2] at hK
      repeat' (first | ((first | with_reducible refine qV tyOk fun K hK => ?_ | (with_reducible first | refine qG ?_ | refine qH ?_ | refine qP ?_ | refine qGx ?_ | refine qHx ?_ | refine qPx ?_) | ((with_reducible first | refine qS ?_ ?_ | refine qT ?_ ?_ | refine qU ?_ ?_) <;> (intro h; try simp only [NM] at h))) <;> simp -dsimp (disch := (first | omega | (simp only [LN]; omega))) only [go_sem, ↓reduceIte, seval]) | ((with_reducible refine hK _ ?_); clear hK K) | (with_reducible first | refine qA ?_ | refine qB ?_ | refine qC ?_ | refine qD ?_ | refine qE ?_ | refine qF ?_ | refine qL ?_ | refine qM ?_ | refine qN ?_ | refine qO ?_ | refine qQ ?_) | refine qR rfl ?_ | (with_reducible refine AI ?_) | ((with_reducible refine qW (T := TT) (b := ?_) ?_ ?_); rotate_left; exact rfl) | (with_reducible first | refine qX ?_ | refine qY ?_ | refine qZ ?_) | (with_reducible first | refine qI ?_ | refine qIx ?_ | fail) | ((with_reducible refine yS ?_ ?_) <;> (intro h; try simp only [NM] at h)))
      simp -dsimp (disch := (first | omega | (simp only [LN]; omega))) only [retQ, Tryd.results90, resVals, cellRV, resOf, St.rest, St.freeze, RT, go_sem, ↓reduceIte, seval]
      rw [hK]
theorem sortStable_satM (f : FuncId) (z : List L) (c : Chg → Chg → Int) (cs : List Chg) (hc : CmpC Tryd.prog f (.fz z) c cs) (hl : cs.length ≤ 140737488355328) :
    SatM Tryd.prog 56 [.one (.ref 1000 0 cs.length), .one (.clo f [.fz z])] [] (rowC cs) (.tup []) [] (rowC (stableF c cs)) := by
  have s1 := stable_satM f z c cs hc hl
  unfold rowC at s1 ⊢
  refine satM_of_body tyOk [] [1000] Tryd.func56 rfl (by kernel_rfl) ⟨Nat.le_of_ble_eq_true rfl, Nat.le_of_ble_eq_true rfl⟩ fun w0 m0 F0 => ?_
  simp only [Tryd.ntmps56, envOf, Nat.reduceAdd]
  repeat' (first | ((first | with_reducible refine qV tyOk fun K hK => ?_ | (with_reducible first | refine qG ?_ | refine qH ?_ | refine qP ?_ | refine qGx ?_ | refine qHx ?_ | refine qPx ?_) | ((with_reducible first | refine qS ?_ ?_ | refine qT ?_ ?_ | refine qU ?_ ?_) <;> (intro h; try simp only [NM] at h)) | ((with_reducible refine CallJ.is ?_); refine CallJ.io [] [(1000, 1000)] [] [(1000, 1000)] [] [] [] [1000, 1000] (s1) rfl ⟨rfl, rfl, rfl, rfl⟩ ?_ ?_ ?_; (focus (simp -dsimp (disch := (first | omega | (simp only [LN]; omega))) only [go_sem, ↓reduceIte, seval, dropL_nil, dropL_nil', dropL_cons]; done)); (focus (simp -dsimp (disch := (first | omega | (simp only [LN]; omega))) only [go_sem, ↓reduceIte, seval, dropL_nil, dropL_nil', dropL_cons]; done)))) <;> simp -dsimp (disch := (first | omega | (simp only [LN]; omega))) only [go_sem, ↓reduceIte, seval, dropL_nil, dropL_nil', dropL_cons]) | ((with_reducible refine hK _ ?_); clear hK K) | (with_reducible first | refine qA ?_ | refine qB ?_ | refine qC ?_ | refine qD ?_ | refine qE ?_ | refine qF ?_ | refine qL ?_ | refine qM ?_ | refine qN ?_ | refine qO ?_ | refine qQ ?_) | refine qR rfl ?_ | (with_reducible refine AI ?_) | ((with_reducible refine qW (T := TT) (b := ?_) ?_ ?_); rotate_left; exact rfl) | (with_reducible first | refine qX ?_ | refine qY ?_ | refine qZ ?_) | (with_reducible first | refine qI ?_ | refine qIx ?_ | fail) | ((with_reducible refine yS ?_ ?_) <;> (intro h; try simp only [NM] at h)))
  simp -dsimp (disch := (first | omega | (simp only [LN]; omega))) only [retQ, Tryd.results56, resVals, cellRV, resOf, St.rest, St.freeze, RT, go_sem, ↓reduceIte, seval]

def tgt (t : Tbl) (c : Chg) : Row := if c.kind = 1 then keyOf t.pk c.row else c.key
theorem target_sat (t : Tbl) (c : Chg) (h1 : t.pk.length ≤ 1099511627776) (h2 : c.key.length ≤ 1099511627776) : Sat Tryd.prog 55 [.agg (eTbl t), .agg (eChg c)] (.v (.one (eRow (tgt t c)))) := by
  refine sat_of_body tyOk Tryd.func55 rfl (by kernel_rfl) ⟨Nat.le_of_ble_eq_true rfl, Nat.le_of_ble_eq_true rfl⟩ fun w0 m0 F0 => ?_
  simp only [Tryd.ntmps55, envOf, Nat.reduceAdd]
  repeat' (first | ((first | with_reducible refine qV tyOk fun K hK => ?_ | (with_reducible first | refine qG ?_ | refine qH ?_ | refine qP ?_ | refine qGx ?_ | refine qHx ?_ | refine qPx ?_) | ((with_reducible first | refine qS ?_ ?_ | refine qT ?_ ?_ | refine qU ?_ ?_) <;> (intro h; try simp only [NM] at h)) | with_reducible refine yD tyOk mixed 6 (by kernel_rfl) fun K hK => ?_ | ((with_reducible refine CallJ.is ?_); (first | refine CallJ.pure (key_sat t c.row h1) ?_ | refine CallJ.pure (cloneRow_sat c.key h2) ?_ | ((apply CallJ.lentI); (focus (simp -dsimp (disch := (first | omega | (simp only [LN]; omega))) only [go_sem, ↓reduceIte, seval]; rfl)); (focus (first | exact (key_sat t c.row h1) | exact (cloneRow_sat c.key h2)))))) | ((with_reducible refine CallH.is ?_); (first | refine CallH.intro (key_sat t c.row h1) ?_ | refine CallH.intro (cloneRow_sat c.key h2) ?_))) <;> simp -dsimp (disch := (first | omega | (simp only [LN]; omega))) only [go_sem, ↓reduceIte, seval]) | ((with_reducible refine hK _ ?_); clear hK K) | (with_reducible first | refine qA ?_ | refine qB ?_ | refine qC ?_ | refine qD ?_ | refine qE ?_ | refine qF ?_ | refine qL ?_ | refine qM ?_ | refine qN ?_ | refine qO ?_ | refine qQ ?_) | refine qR rfl ?_ | (with_reducible refine AI ?_) | ((with_reducible refine qW (T := TT) (b := ?_) ?_ ?_); rotate_left; exact rfl) | (with_reducible first | refine qX ?_ | refine qY ?_ | refine qZ ?_) | (with_reducible first | refine qI ?_ | refine qIx ?_ | fail) | ((with_reducible refine yS ?_ ?_) <;> (intro h; try simp only [NM] at h)))
  all_goals simp -dsimp (disch := (first | omega | (simp only [LN]; omega))) only [retQ, Tryd.results55, resVals, cellRV, resOf, St.rest, St.freeze, RT, go_sem, ↓reduceIte, seval]
  all_goals simp_all [tgt]
theorem tgt_length {t : Tbl} {c : Chg} (h1 : t.pk.length ≤ 1099511627776) (h2 : c.key.length ≤ 1099511627776) : (tgt t c).length ≤ 1099511627776 := by
  unfold tgt
  split
  · rw [keyOf_length]; exact h1
  · exact h2

set_option maxHeartbeats 4000000 in
theorem indexFuncChg_sat (l : List Chg) (f : Nat) (cs : List L) (p : Chg → Bool) (hlen : l.length ≤ 140737488355328) (hp : ∀ t ∈ l, Sat Tryd.prog f (.agg (eChg t) :: cs.map .one) (.v (oB (p t)))) :
    Sat Tryd.prog 89 [.one (eChgs l), .one (.clo f cs)] (.v (oI (idx p l 0))) := by
  refine sat_of_body tyOk Tryd.func89 rfl (by kernel_rfl) ⟨Nat.le_of_ble_eq_true rfl, Nat.le_of_ble_eq_true rfl⟩ fun w0 m0 F0 => ?_
  simp only [Tryd.ntmps89, envOf, Nat.reduceAdd]
  repeat' (first | ((first | with_reducible refine qV tyOk fun K hK => ?_ | (with_reducible first | refine qG ?_ | refine qH ?_ | refine qP ?_ | refine qGx ?_ | refine qHx ?_ | refine qPx ?_) | ((with_reducible first | refine qS ?_ ?_ | refine qT ?_ ?_ | refine qU ?_ ?_) <;> (intro h; try simp only [NM] at h)) | with_reducible refine yD tyOk mixed 6 (by kernel_rfl) fun K hK => ?_) <;> simp -dsimp (disch := (first | omega | (simp only [LN]; omega))) only [go_sem, ↓reduceIte, seval]) | ((with_reducible refine hK _ ?_); clear hK K) | (with_reducible first | refine qA ?_ | refine qB ?_ | refine qC ?_ | refine qD ?_ | refine qE ?_ | refine qF ?_ | refine qL ?_ | refine qM ?_ | refine qN ?_ | refine qO ?_ | refine qQ ?_) | refine qR rfl ?_ | (with_reducible refine AI ?_) | ((with_reducible refine qW (T := TT) (b := ?_) ?_ ?_); rotate_left; exact rfl) | (with_reducible first | refine qX ?_ | refine qY ?_ | refine qZ ?_) | (with_reducible first | refine qI ?_ | refine qIx ?_ | fail) | ((with_reducible refine yS ?_ ?_) <;> (intro h; try simp only [NM] at h)))
  refine AWP.loop (ι := {k : Nat // k ≤ l.length ∧ idx p (l.drop k) k = idx p l 0}) (fun k => ⟨19, [(0, .v (.one (eChgs l))), (1, .v (.one (.clo f cs))), (7, .v (oI l.length)), (8, .v (oI k.1))], [], []⟩) (fun k => l.length - k.1) ⟨0, Nat.zero_le _, rfl⟩ ?_ fun ⟨k, hkl, hi⟩ => ?_
  · refine St.le_mk ?_ ?_ ?_ <;> simp only [LE, EN, Nat.reduceEqDiff, reduceIte, Nat.reduceSub]
  repeat' (first | ((first | with_reducible refine qV tyOk fun K hK => ?_ | (with_reducible first | refine qG ?_ | refine qH ?_ | refine qP ?_ | refine qGx ?_ | refine qHx ?_ | refine qPx ?_) | ((with_reducible first | refine qS ?_ ?_ | refine qT ?_ ?_ | refine qU ?_ ?_) <;> (intro h; try simp only [NM] at h)) | with_reducible refine yD tyOk mixed 6 (by kernel_rfl) fun K hK => ?_ | ((with_reducible refine CallJ.is ?_); (first | refine CallJ.pure (hp _ (List.getElem_mem (by omega))) ?_ | ((apply CallJ.lentI); (focus (simp -dsimp (disch := (first | omega | (simp only [LN]; omega))) only [go_sem, ↓reduceIte, seval]; rfl)); (focus (first | exact (hp _ (List.getElem_mem (by omega)))))))) | ((with_reducible refine CallH.is ?_); (first | refine CallH.intro (hp _ (List.getElem_mem (by omega))) ?_))) <;> simp -dsimp (disch := (first | omega | (simp only [LN]; omega))) only [go_sem, ↓reduceIte, seval]) | ((with_reducible refine hK _ ?_); clear hK K) | (with_reducible first | refine qA ?_ | refine qB ?_ | refine qC ?_ | refine qD ?_ | refine qE ?_ | refine qF ?_ | refine qL ?_ | refine qM ?_ | refine qN ?_ | refine qO ?_ | refine qQ ?_) | refine qR rfl ?_ | (with_reducible refine AI ?_) | ((with_reducible refine qW (T := TT) (b := ?_) ?_ ?_); rotate_left; exact rfl) | (with_reducible first | refine qX ?_ | refine qY ?_ | refine qZ ?_) | (with_reducible first | refine qI ?_ | refine qIx ?_ | fail) | ((with_reducible refine yS ?_ ?_) <;> (intro h; try simp only [NM] at h)))
  all_goals first
    | (have hk : ¬ k < l.length := by omega
       simp -dsimp (disch := (first | omega | (simp only [LN]; omega))) only [retQ, Tryd.results89, resVals, cellRV, resOf, St.rest, St.freeze, RT, go_sem, ↓reduceIte, seval]
       rw [← hi, idx_end hk]
       done)
    | (
       simp -dsimp (disch := (first | omega | (simp only [LN]; omega))) only [retQ, Tryd.results89, resVals, cellRV, resOf, St.rest, St.freeze, RT, go_sem, ↓reduceIte, seval]
       rw [← hi, idx_hit _ ‹_›])
    | (refine ⟨⟨k + 1, by omega, by rw [idx_step _ ‹_›, hi]⟩, by simp only; omega, ?_⟩
       refine St.le_mk ?_ ?_ ?_ <;> simp only [LE, EN, Nat.reduceEqDiff, reduceIte, Nat.reduceSub]
       )
theorem idx_any {α : Type} (p : α → Bool) : ∀ (l : List α) (k : Nat), decide (0 ≤ idx p l k) = l.any p
  | [], k => by simp [idx]
  | x :: l, k => by
    rw [idx, List.any_cons]
    cases hx : p x with
    | true => simp
    | false => simpa using idx_any p l (k + 1)
theorem containsChg_sat (l : List Chg) (f : Nat) (cs : List L) (p : Chg → Bool) (hlen : l.length ≤ 140737488355328) (hp : ∀ t ∈ l, Sat Tryd.prog f (.agg (eChg t) :: cs.map .one) (.v (oB (p t)))) :
    Sat Tryd.prog 53 [.one (eChgs l), .one (.clo f cs)] (.v (oB (l.any p))) := by
  rw [← idx_any p l 0]
  refine sat_of_body tyOk Tryd.func53 rfl (by kernel_rfl) ⟨Nat.le_of_ble_eq_true rfl, Nat.le_of_ble_eq_true rfl⟩ fun w0 m0 F0 => ?_
  simp only [Tryd.ntmps53, envOf, Nat.reduceAdd]
  repeat' (first | ((first | with_reducible refine qV tyOk fun K hK => ?_ | (with_reducible first | refine qG ?_ | refine qH ?_ | refine qP ?_ | refine qGx ?_ | refine qHx ?_ | refine qPx ?_) | ((with_reducible first | refine qS ?_ ?_ | refine qT ?_ ?_ | refine qU ?_ ?_) <;> (intro h; try simp only [NM] at h)) | with_reducible refine yD tyOk mixed 6 (by kernel_rfl) fun K hK => ?_ | ((with_reducible refine CallJ.is ?_); (first | refine CallJ.pure (indexFuncChg_sat l _ _ _ hlen hp) ?_ | ((apply CallJ.lentI); (focus (simp -dsimp (disch := (first | omega | (simp only [LN]; omega))) only [go_sem, ↓reduceIte, seval]; rfl)); (focus (first | exact (indexFuncChg_sat l _ _ _ hlen hp)))))) | ((with_reducible refine CallH.is ?_); (first | refine CallH.intro (indexFuncChg_sat l _ _ _ hlen hp) ?_))) <;> simp -dsimp (disch := (first | omega | (simp only [LN]; omega))) only [go_sem, ↓reduceIte, seval]) | ((with_reducible refine hK _ ?_); clear hK K) | (with_reducible first | refine qA ?_ | refine qB ?_ | refine qC ?_ | refine qD ?_ | refine qE ?_ | refine qF ?_ | refine qL ?_ | refine qM ?_ | refine qN ?_ | refine qO ?_ | refine qQ ?_) | refine qR rfl ?_ | (with_reducible refine AI ?_) | ((with_reducible refine qW (T := TT) (b := ?_) ?_ ?_); rotate_left; exact rfl) | (with_reducible first | refine qX ?_ | refine qY ?_ | refine qZ ?_) | (with_reducible first | refine qI ?_ | refine qIx ?_ | fail) | ((with_reducible refine yS ?_ ?_) <;> (intro h; try simp only [NM] at h)))
  simp -dsimp (disch := (first | omega | (simp only [LN]; omega))) only [retQ, Tryd.results53, resVals, cellRV, resOf, St.rest, St.freeze, RT, go_sem, ↓reduceIte, seval]

def sameK (t : Tbl) (c d : Chg) : Bool := sEq d.table c.table && decide (tgt t d = tgt t c)
set_option maxHeartbeats 8000000 in
theorem compact1_sat (t : Tbl) (c d : Chg) (h1 : t.pk.length ≤ 1099511627776) (h2 : c.key.length ≤ 1099511627776) (h3 : d.key.length ≤ 1099511627776) :
    Sat Tryd.prog 54 [.agg (eChg d), .one (.fz (eChg c)), .one (.fz (eTbl t))] (.v (oB (sameK t c d))) := by
  have l1 := tgt_length h1 h2
  have l2 := tgt_length h1 h3
  refine sat_of_body tyOk Tryd.func54 rfl (by kernel_rfl) ⟨Nat.le_of_ble_eq_true rfl, Nat.le_of_ble_eq_true rfl⟩ fun w0 m0 F0 => ?_
  simp only [Tryd.ntmps54, envOf, Nat.reduceAdd]
  repeat' (first | ((first | with_reducible refine qV tyOk fun K hK => ?_ | (with_reducible first | refine qG ?_ | refine qH ?_ | refine qP ?_ | refine qGx ?_ | refine qHx ?_ | refine qPx ?_) | ((with_reducible first | refine qS ?_ ?_ | refine qT ?_ ?_ | refine qU ?_ ?_) <;> (intro h; try simp only [NM] at h)) | with_reducible refine yD tyOk mixed 6 (by kernel_rfl) fun K hK => ?_ | ((with_reducible refine CallJ.is ?_); (first | refine CallJ.pure (target_sat t c h1 h2) ?_ | refine CallJ.pure (target_sat t d h1 h3) ?_ | refine CallJ.pure (equalRow_sat (tgt t d) (tgt t c) (by omega) (by omega)) ?_ | ((apply CallJ.lentI); (focus (simp -dsimp (disch := (first | omega | (simp only [LN]; omega))) only [go_sem, ↓reduceIte, seval]; rfl)); (focus (first | exact (target_sat t c h1 h2) | exact (target_sat t d h1 h3) | exact (equalRow_sat (tgt t d) (tgt t c) (by omega) (by omega))))))) | ((with_reducible refine CallH.is ?_); (first | refine CallH.intro (target_sat t c h1 h2) ?_ | refine CallH.intro (target_sat t d h1 h3) ?_ | refine CallH.intro (equalRow_sat (tgt t d) (tgt t c) (by omega) (by omega)) ?_))) <;> simp -dsimp (disch := (first | omega | (simp only [LN]; omega))) only [go_sem, ↓reduceIte, seval]) | ((with_reducible refine hK _ ?_); clear hK K) | (with_reducible first | refine qA ?_ | refine qB ?_ | refine qC ?_ | refine qD ?_ | refine qE ?_ | refine qF ?_ | refine qL ?_ | refine qM ?_ | refine qN ?_ | refine qO ?_ | refine qQ ?_) | refine qR rfl ?_ | (with_reducible refine AI ?_) | ((with_reducible refine qW (T := TT) (b := ?_) ?_ ?_); rotate_left; exact rfl) | (with_reducible first | refine qX ?_ | refine qY ?_ | refine qZ ?_) | (with_reducible first | refine qI ?_ | refine qIx ?_ | fail) | ((with_reducible refine yS ?_ ?_) <;> (intro h; try simp only [NM] at h)))
  all_goals simp -dsimp (disch := (first | omega | (simp only [LN]; omega))) only [retQ, Tryd.results54, resVals, cellRV, resOf, St.rest, St.freeze, RT, go_sem, ↓reduceIte, seval]
  all_goals simp_all [sameK, sEq]
def cmpChg (s : Sch) (a b : Chg) : Int :=
  if tblAt s.tables a.table = tblAt s.tables b.table then cmpRows (tgt (tblOf s a.table) a) (tgt (tblOf s a.table) b) else tblAt s.tables a.table - tblAt s.tables b.table
set_option maxHeartbeats 8000000 in
theorem compact2_sat (s : Sch) (a b : Chg) (hs : schE s = 0) (ha : 0 ≤ tblAt s.tables a.table) (hb : 0 ≤ tblAt s.tables b.table) (h2 : a.key.length ≤ 1099511627776) (h3 : b.key.length ≤ 1099511627776) :
    Sat Tryd.prog 57 [.agg (eChg a), .agg (eChg b), .one (.fz (eSch s))] (.v (oI (cmpChg s a b))) := by
  have sm := small_of hs
  have m1 := sm.tables
  rcases idx_cases (fun t => sEq t.name a.table) s.tables 0 with ⟨e1, _⟩ | ⟨i, hi, e1, _, _⟩
  · have e1 : tblAt s.tables a.table = -1 := e1
    omega
  rcases idx_cases (fun t => sEq t.name b.table) s.tables 0 with ⟨e2, _⟩ | ⟨k, hk, e2, _, _⟩
  · have e2 : tblAt s.tables b.table = -1 := e2
    omega
  have e1 : tblAt s.tables a.table = (i : Int) := by unfold tblAt; simpa using e1
  have e2 : tblAt s.tables b.table = (k : Int) := by unfold tblAt; simpa using e2
  have f1 := findTable_sat s a.table (by omega)
  have f2 := findTable_sat s b.table (by omega)
  rw [e1, mx0_nat] at f1
  rw [e2, mx0_nat] at f2
  have et : tblOf s a.table = s.tables[i] := by simp only [tblOf, e1, Int.toNat_natCast]; exact getD_lt _ hi
  have hpk := (sm.table _ (List.getElem_mem hi)).2
  have l1 := tgt_length (t := s.tables[i]) (by omega) h2
  have l2 := tgt_length (t := s.tables[i]) (by omega) h3
  unfold cmpChg
  rw [e1, e2, et]
  by_cases hik : i = k
  · subst hik
    rw [if_pos rfl]
    refine sat_of_body tyOk Tryd.func57 rfl (by kernel_rfl) ⟨Nat.le_of_ble_eq_true rfl, Nat.le_of_ble_eq_true rfl⟩ fun w0 m0 F0 => ?_
    simp only [Tryd.ntmps57, envOf, Nat.reduceAdd]
    repeat' (first | ((first | with_reducible refine qV tyOk fun K hK => ?_ | (with_reducible first | refine qG ?_ | refine qH ?_ | refine qP ?_ | refine qGx ?_ | refine qHx ?_ | refine qPx ?_) | ((with_reducible first | refine qS ?_ ?_ | refine qT ?_ ?_ | refine qU ?_ ?_) <;> (intro h; try simp only [NM] at h)) | with_reducible refine yD tyOk mixed 6 (by kernel_rfl) fun K hK => ?_ | ((with_reducible refine CallJ.is ?_); (first | refine CallJ.pure (f1) ?_ | refine CallJ.pure (f2) ?_ | refine CallJ.pure (target_sat s.tables[i] a (by omega) h2) ?_ | refine CallJ.pure (target_sat s.tables[i] b (by omega) h3) ?_ | refine CallJ.pure (compareRows_sat (tgt s.tables[i] a) (tgt s.tables[i] b) (by omega) (by omega)) ?_ | ((apply CallJ.lentI); (focus (simp -dsimp (disch := (first | omega | (simp only [LN]; omega))) only [go_sem, ↓reduceIte, seval]; rfl)); (focus (first | exact (f1) | exact (f2) | exact (target_sat s.tables[i] a (by omega) h2) | exact (target_sat s.tables[i] b (by omega) h3) | exact (compareRows_sat (tgt s.tables[i] a) (tgt s.tables[i] b) (by omega) (by omega))))))) | ((with_reducible refine CallH.is ?_); (first | refine CallH.intro (f1) ?_ | refine CallH.intro (f2) ?_ | refine CallH.intro (target_sat s.tables[i] a (by omega) h2) ?_ | refine CallH.intro (target_sat s.tables[i] b (by omega) h3) ?_ | refine CallH.intro (compareRows_sat (tgt s.tables[i] a) (tgt s.tables[i] b) (by omega) (by omega)) ?_))) <;> simp -dsimp (disch := (first | omega | (simp only [LN]; omega))) only [go_sem, ↓reduceIte, seval]) | ((with_reducible refine hK _ ?_); clear hK K) | (with_reducible first | refine qA ?_ | refine qB ?_ | refine qC ?_ | refine qD ?_ | refine qE ?_ | refine qF ?_ | refine qL ?_ | refine qM ?_ | refine qN ?_ | refine qO ?_ | refine qQ ?_) | refine qR rfl ?_ | (with_reducible refine AI ?_) | ((with_reducible refine qW (T := TT) (b := ?_) ?_ ?_); rotate_left; exact rfl) | (with_reducible first | refine qX ?_ | refine qY ?_ | refine qZ ?_) | (with_reducible first | refine qI ?_ | refine qIx ?_ | fail) | ((with_reducible refine yS ?_ ?_) <;> (intro h; try simp only [NM] at h)))
    all_goals simp -dsimp (disch := (first | omega | (simp only [LN]; omega))) only [retQ, Tryd.results57, resVals, cellRV, resOf, St.rest, St.freeze, RT, go_sem, ↓reduceIte, seval]
  · have hik' : ¬ (i : Int) = (k : Int) := by omega
    rw [if_neg hik']
    refine sat_of_body tyOk Tryd.func57 rfl (by kernel_rfl) ⟨Nat.le_of_ble_eq_true rfl, Nat.le_of_ble_eq_true rfl⟩ fun w0 m0 F0 => ?_
    simp only [Tryd.ntmps57, envOf, Nat.reduceAdd]
    repeat' (first | ((first | with_reducible refine qV tyOk fun K hK => ?_ | (with_reducible first | refine qG ?_ | refine qH ?_ | refine qP ?_ | refine qGx ?_ | refine qHx ?_ | refine qPx ?_) | ((with_reducible first | refine qS ?_ ?_ | refine qT ?_ ?_ | refine qU ?_ ?_) <;> (intro h; try simp only [NM] at h)) | with_reducible refine yD tyOk mixed 6 (by kernel_rfl) fun K hK => ?_ | ((with_reducible refine CallJ.is ?_); (first | refine CallJ.pure (f1) ?_ | refine CallJ.pure (f2) ?_ | ((apply CallJ.lentI); (focus (simp -dsimp (disch := (first | omega | (simp only [LN]; omega))) only [go_sem, ↓reduceIte, seval, hik']; rfl)); (focus (first | exact (f1) | exact (f2)))))) | ((with_reducible refine CallH.is ?_); (first | refine CallH.intro (f1) ?_ | refine CallH.intro (f2) ?_))) <;> simp -dsimp (disch := (first | omega | (simp only [LN]; omega))) only [go_sem, ↓reduceIte, seval, hik']) | ((with_reducible refine hK _ ?_); clear hK K) | (with_reducible first | refine qA ?_ | refine qB ?_ | refine qC ?_ | refine qD ?_ | refine qE ?_ | refine qF ?_ | refine qL ?_ | refine qM ?_ | refine qN ?_ | refine qO ?_ | refine qQ ?_) | refine qR rfl ?_ | (with_reducible refine AI ?_) | ((with_reducible refine qW (T := TT) (b := ?_) ?_ ?_); rotate_left; exact rfl) | (with_reducible first | refine qX ?_ | refine qY ?_ | refine qZ ?_) | (with_reducible first | refine qI ?_ | refine qIx ?_ | fail) | ((with_reducible refine yS ?_ ?_) <;> (intro h; try simp only [NM] at h)))
    all_goals simp -dsimp (disch := (first | omega | (simp only [LN]; omega))) only [retQ, Tryd.results57, resVals, cellRV, resOf, St.rest, St.freeze, RT, go_sem, ↓reduceIte, seval]

def vldE (s : Sch) : List Chg → Int
  | [] => 0
  | c :: l => if chgE s c ≠ 0 then chgE s c else vldE s l
theorem vldE_zero (s : Sch) : ∀ (l : List Chg), vldE s l = 0 ↔ ∀ c ∈ l, chgE s c = 0
  | [] => by simp [vldE]
  | c :: l => by
    rw [vldE]
    split
    · rename_i h
      simp [h]
    · rename_i h
      have h : chgE s c = 0 := by simpa using h
      simp [h, vldE_zero s l]
def lastC (s : Sch) : List Chg → List Chg
  | [] => []
  | c :: l => if l.any (sameK (tblOf s c.table) c) = true then lastC s l else c :: lastC s l
def compactE (s : Sch) (cs : List Chg) : Int × List Chg :=
  if schE s ≠ 0 then (schE s, []) else if vldE s cs ≠ 0 then (vldE s cs, []) else (0, stableF (cmpChg s) (lastC s cs))
theorem lastC_sub (s : Sch) : ∀ (l : List Chg), (lastC s l).Sublist l
  | [] => .slnil
  | c :: l => by
    rw [lastC]
    split
    · exact (lastC_sub s l).cons c
    · exact (lastC_sub s l).cons_cons c
theorem chg_small {s : Sch} {c : Chg} (sm : Small s) (h : chgE s c = 0) : c.key.length ≤ 6 ∧ c.row.length ≤ 6 := by
  have o := okChg_of h
  have ht : tblOf s c.table = s.tables[tpos s c]'o.lt := by rw [o.tbl]; exact getD_lt _ o.lt
  have := sm.table _ (List.getElem_mem o.lt)
  rcases o.kind with e | e
  · obtain ⟨h1, h2⟩ := o.up e
    rw [h1]
    have := ((rowE_zero _ _).1 h2).1
    rw [ht] at this
    exact ⟨by simp, by omega⟩
  · obtain ⟨h1, h2⟩ := o.del e
    rw [h1]
    refine ⟨?_, by simp⟩
    unfold keyE at h2
    split at h2
    · cases h2
    · rename_i g
      rw [ht] at g
      omega
theorem cmpC_chg (s : Sch) (hs : schE s = 0) (cs : List Chg) (h : ∀ c ∈ cs, chgE s c = 0) : CmpC Tryd.prog 57 (.fz (eSch s)) (cmpChg s) cs := fun x hx y hy => by
  have sm := small_of hs
  have h1 := chg_small sm (h x hx)
  have h2 := chg_small sm (h y hy)
  have p1 := (okChg_of (h x hx)).pos
  have p2 := (okChg_of (h y hy)).pos
  exact compact2_sat s x y hs (by omega) (by omega) (by omega) (by omega)
set_option maxHeartbeats 16000000 in
theorem compact_sat (s : Sch) (cs : List Chg) (hf : s.Fits) (hcs : ChgsFit cs) (h72 : cs.length * 72 ≤ 140737488355328) :
    Sat Tryd.prog 20 [.agg (eSch s), .one (eChgs cs)] (.tup [.one (eChgs (compactE s cs).2), oI (compactE s cs).1]) := by
  by_cases h0 : schE s = 0
  case neg =>
    have spec : compactE s cs = (schE s, []) := by simp [compactE, h0]
    rw [spec]
    refine sat_of_body tyOk Tryd.func20 rfl (by kernel_rfl) ⟨Nat.le_of_ble_eq_true rfl, Nat.le_of_ble_eq_true rfl⟩ fun w0 m0 F0 => ?_
    simp only [Tryd.ntmps20, envOf, Nat.reduceAdd]
    repeat' (first | ((first | with_reducible refine qV tyOk fun K hK => ?_ | (with_reducible first | refine qG ?_ | refine qH ?_ | refine qP ?_ | refine qGx ?_ | refine qHx ?_ | refine qPx ?_) | ((with_reducible first | refine qS ?_ ?_ | refine qT ?_ ?_ | refine qU ?_ ?_) <;> (intro h; try simp only [NM] at h)) | with_reducible refine yD tyOk mixed 6 (by kernel_rfl) fun K hK => ?_ | ((with_reducible refine CallJ.is ?_); (first | refine CallJ.pure (schValidate_sat s hf) ?_ | ((apply CallJ.lentI); (focus (simp -dsimp (disch := (first | omega | (simp only [LN]; omega))) only [go_sem, ↓reduceIte, seval, h0]; rfl)); (focus (first | exact (schValidate_sat s hf)))))) | ((with_reducible refine CallH.is ?_); (first | refine CallH.intro (schValidate_sat s hf) ?_))) <;> simp -dsimp (disch := (first | omega | (simp only [LN]; omega))) only [go_sem, ↓reduceIte, seval, h0]) | ((with_reducible refine hK _ ?_); clear hK K) | (with_reducible first | refine qA ?_ | refine qB ?_ | refine qC ?_ | refine qD ?_ | refine qE ?_ | refine qF ?_ | refine qL ?_ | refine qM ?_ | refine qN ?_ | refine qO ?_ | refine qQ ?_) | refine qR rfl ?_ | (with_reducible refine AI ?_) | ((with_reducible refine qW (T := TT) (b := ?_) ?_ ?_); rotate_left; exact rfl) | (with_reducible first | refine qX ?_ | refine qY ?_ | refine qZ ?_) | (with_reducible first | refine qI ?_ | refine qIx ?_ | fail) | ((with_reducible refine yS ?_ ?_) <;> (intro h; try simp only [NM] at h)))
    all_goals simp -dsimp (disch := (first | omega | (simp only [LN]; omega))) only [retQ, Tryd.results20, resVals, cellRV, resOf, St.rest, St.freeze, RT, go_sem, ↓reduceIte, seval]
  have sm := small_of h0
  have m1 := sm.tables
  refine sat_of_body tyOk Tryd.func20 rfl (by kernel_rfl) ⟨Nat.le_of_ble_eq_true rfl, Nat.le_of_ble_eq_true rfl⟩ fun w0 m0 F0 => ?_
  simp only [Tryd.ntmps20, envOf, Nat.reduceAdd]
  repeat' (first | ((first | with_reducible refine qV tyOk fun K hK => ?_ | (with_reducible first | refine qG ?_ | refine qH ?_ | refine qP ?_ | refine qGx ?_ | refine qHx ?_ | refine qPx ?_) | ((with_reducible first | refine qS ?_ ?_ | refine qT ?_ ?_ | refine qU ?_ ?_) <;> (intro h; try simp only [NM] at h)) | ((with_reducible refine CallJ.is ?_); (first | refine CallJ.pure (schValidate_sat s hf) ?_ | ((apply CallJ.lentI); (focus (simp -dsimp (disch := (first | omega | (simp only [LN]; omega))) only [go_sem, ↓reduceIte, seval, h0]; rfl)); (focus (first | exact (schValidate_sat s hf)))))) | ((with_reducible refine CallH.is ?_); (first | refine CallH.intro (schValidate_sat s hf) ?_))) <;> simp -dsimp (disch := (first | omega | (simp only [LN]; omega))) only [go_sem, ↓reduceIte, seval, h0]) | ((with_reducible refine hK _ ?_); clear hK K) | (with_reducible first | refine qA ?_ | refine qB ?_ | refine qC ?_ | refine qD ?_ | refine qE ?_ | refine qF ?_ | refine qL ?_ | refine qM ?_ | refine qN ?_ | refine qO ?_ | refine qQ ?_) | refine qR rfl ?_ | (with_reducible refine AI ?_) | ((with_reducible refine qW (T := TT) (b := ?_) ?_ ?_); rotate_left; exact rfl) | (with_reducible first | refine qX ?_ | refine qY ?_ | refine qZ ?_) | (with_reducible first | refine qI ?_ | refine qIx ?_ | fail) | ((with_reducible refine yS ?_ ?_) <;> (intro h; try simp only [NM] at h)))
  refine AWP.loop (ι := {k : Nat // k ≤ cs.length ∧ vldE s (cs.drop k) = vldE s cs}) (fun k => ⟨81, [(1, .v (.one (eChgs cs))), (2, .v (.one (.ptr 2 0))), (22, .v (.one (eChgs cs))), (23, .v (oI cs.length)), (24, .v (oI k.1))], [(2, eSch s)], []⟩) (fun k => cs.length - k.1) ⟨0, Nat.zero_le _, rfl⟩ ?_ fun ⟨k, hkl, hi⟩ => ?_
  · refine St.le_mk ?_ ?_ ?_ <;> simp only [LE, EN, Nat.reduceEqDiff, reduceIte, Nat.reduceSub, eSch]
  simp only at hkl hi ⊢
  rcases Nat.lt_or_ge k cs.length with hc | hc
  · obtain ⟨f1, f2⟩ := hcs.2 cs[k] (List.getElem_mem hc)
    have cv := chgValidate_sat s cs[k] h0 f1 f2
    rw [List.drop_eq_getElem_cons hc, vldE] at hi
    by_cases hE : chgE s cs[k] = 0
    case neg =>
      rw [if_pos hE] at hi
      have spec : compactE s cs = (chgE s cs[k], []) := by rw [hi]; rw [hi] at hE; simp [compactE, h0, hE]
      rw [spec]
      repeat' (first | ((first | with_reducible refine qV tyOk fun K hK => ?_ | (with_reducible first | refine qG ?_ | refine qH ?_ | refine qP ?_ | refine qGx ?_ | refine qHx ?_ | refine qPx ?_) | ((with_reducible first | refine qS ?_ ?_ | refine qT ?_ ?_ | refine qU ?_ ?_) <;> (intro h; try simp only [NM] at h)) | ((with_reducible refine CallJ.is ?_); (first | refine CallJ.pure (cv) ?_ | ((apply CallJ.lentI); (focus (simp -dsimp (disch := (first | omega | (simp only [LN]; omega))) only [go_sem, ↓reduceIte, seval, hE]; rfl)); (focus (first | exact (cv)))))) | ((with_reducible refine CallH.is ?_); (first | refine CallH.intro (cv) ?_))) <;> simp -dsimp (disch := (first | omega | (simp only [LN]; omega))) only [go_sem, ↓reduceIte, seval, hE]) | ((with_reducible refine hK _ ?_); clear hK K) | (with_reducible first | refine qA ?_ | refine qB ?_ | refine qC ?_ | refine qD ?_ | refine qE ?_ | refine qF ?_ | refine qL ?_ | refine qM ?_ | refine qN ?_ | refine qO ?_ | refine qQ ?_) | refine qR rfl ?_ | (with_reducible refine AI ?_) | ((with_reducible refine qW (T := TT) (b := ?_) ?_ ?_); rotate_left; exact rfl) | (with_reducible first | refine qX ?_ | refine qY ?_ | refine qZ ?_) | (with_reducible first | refine qI ?_ | refine qIx ?_ | fail) | ((with_reducible refine yS ?_ ?_) <;> (intro h; try simp only [NM] at h)))
      all_goals simp -dsimp (disch := (first | omega | (simp only [LN]; omega))) only [retQ, Tryd.results20, resVals, cellRV, resOf, St.rest, St.freeze, RT, go_sem, ↓reduceIte, seval]
    rw [if_neg (by simpa using hE)] at hi
    repeat' (first | ((first | with_reducible refine qV tyOk fun K hK => ?_ | (with_reducible first | refine qG ?_ | refine qH ?_ | refine qP ?_ | refine qGx ?_ | refine qHx ?_ | refine qPx ?_) | ((with_reducible first | refine qS ?_ ?_ | refine qT ?_ ?_ | refine qU ?_ ?_) <;> (intro h; try simp only [NM] at h)) | ((with_reducible refine CallJ.is ?_); (first | refine CallJ.pure (cv) ?_ | ((apply CallJ.lentI); (focus (simp -dsimp (disch := (first | omega | (simp only [LN]; omega))) only [go_sem, ↓reduceIte, seval, hE]; rfl)); (focus (first | exact (cv)))))) | ((with_reducible refine CallH.is ?_); (first | refine CallH.intro (cv) ?_))) <;> simp -dsimp (disch := (first | omega | (simp only [LN]; omega))) only [go_sem, ↓reduceIte, seval, hE]) | ((with_reducible refine hK _ ?_); clear hK K) | (with_reducible first | refine qA ?_ | refine qB ?_ | refine qC ?_ | refine qD ?_ | refine qE ?_ | refine qF ?_ | refine qL ?_ | refine qM ?_ | refine qN ?_ | refine qO ?_ | refine qQ ?_) | refine qR rfl ?_ | (with_reducible refine AI ?_) | ((with_reducible refine qW (T := TT) (b := ?_) ?_ ?_); rotate_left; exact rfl) | (with_reducible first | refine qX ?_ | refine qY ?_ | refine qZ ?_) | (with_reducible first | refine qI ?_ | refine qIx ?_ | fail) | ((with_reducible refine yS ?_ ?_) <;> (intro h; try simp only [NM] at h)))
    refine ⟨⟨k + 1, by omega, hi⟩, by simp only; omega, ?_⟩
    refine St.le_mk ?_ ?_ ?_ <;> simp only [LE, EN, Nat.reduceEqDiff, reduceIte, Nat.reduceSub, eSch]
  rw [List.drop_of_length_le hc] at hi
  have hv : vldE s cs = 0 := hi.symm
  have ok := (vldE_zero s cs).1 hv
  have spec : compactE s cs = (0, stableF (cmpChg s) (lastC s cs)) := by simp [compactE, h0, hv]
  rw [spec]
  clear hi
  repeat' (first | ((first | with_reducible refine qV tyOk fun K hK => ?_ | (with_reducible first | refine qG ?_ | refine qH ?_ | refine qP ?_ | refine qGx ?_ | refine qHx ?_ | refine qPx ?_) | ((with_reducible first | refine qS ?_ ?_ | refine qT ?_ ?_ | refine qU ?_ ?_) <;> (intro h; try simp only [NM] at h))) <;> simp -dsimp (disch := (first | omega | (simp only [LN]; omega))) only [go_sem, ↓reduceIte, seval]) | ((with_reducible refine hK _ ?_); clear hK K) | (with_reducible first | refine qA ?_ | refine qB ?_ | refine qC ?_ | refine qD ?_ | refine qE ?_ | refine qF ?_ | refine qL ?_ | refine qM ?_ | refine qN ?_ | refine qO ?_ | refine qQ ?_) | refine qR rfl ?_ | (with_reducible refine AI ?_) | ((with_reducible refine qW (T := TT) (b := ?_) ?_ ?_); rotate_left; exact rfl) | (with_reducible first | refine qX ?_ | refine qY ?_ | refine qZ ?_) | (with_reducible first | refine qI ?_ | refine qIx ?_ | fail) | ((with_reducible refine yS ?_ ?_) <;> (intro h; try simp only [NM] at h)))
  refine AWP.loop (ι := {p : Nat × List Chg // p.1 ≤ cs.length ∧ p.2.length ≤ p.1 ∧ p.2 ++ lastC s (cs.drop p.1) = lastC s cs}) (fun p => ⟨81, [(1, .v (.one (eChgs cs))), (2, .v (.one (.ptr 2 0))), (10, .v (.one (.ref 10 0 p.1.2.length))), (35, .v (.one (eChgs cs))), (36, .v (oI cs.length)), (37, .v (oI p.1.1))], [(2, eSch s)], [(10, ⟨4, p.1.2.map eChg, []⟩)]⟩) (fun p => cs.length - p.1.1) ⟨(0, []), Nat.zero_le _, Nat.le_refl _, rfl⟩ ?_ fun ⟨(k, out), hkl, hol, hi⟩ => ?_
  · refine St.le_mk ?_ ?_ ?_ <;> simp only [LE, EN, Nat.reduceEqDiff, reduceIte, Nat.reduceSub, eSch, List.length_nil, List.map_nil]
  simp only at hkl hol hi ⊢
  rcases Nat.lt_or_ge k cs.length with hc | hc
  · have ek := ok _ (List.getElem_mem hc)
    have o := okChg_of ek
    obtain ⟨s1, s2⟩ := chg_small sm ek
    obtain ⟨j, hjj⟩ : ∃ j, tpos s cs[k] = j := ⟨_, rfl⟩
    have hjl := o.lt
    have fs := findTable_sat s cs[k].table (by omega)
    rw [o.pos, hjj, mx0_nat] at fs
    rw [hjj] at hjl
    have et : tblOf s cs[k].table = s.tables[j] := by rw [o.tbl, hjj]; exact getD_lt _ hjl
    have hpk := (sm.table _ (List.getElem_mem hjl)).2
    have ct := containsChg_sat (cs.drop (k + 1)) 54 [.fz (eChg cs[k]), .fz (eTbl s.tables[j])] (sameK s.tables[j] cs[k]) (by rw [List.length_drop]; omega) fun d hd => compact1_sat s.tables[j] cs[k] d (by omega) (by omega) (by
      have := chg_small sm (ok d (List.mem_of_mem_drop hd))
      omega)
    have ed : eChgs (cs.drop (k + 1)) = .sl 4 (List.drop ((k : Int) + 1).toNat (cs.map eChg)) := by
      rw [eChgs, List.map_drop, show ((k : Int) + 1).toNat = k + 1 by omega]
    rw [ed] at ct
    rw [List.drop_eq_getElem_cons hc, lastC, et] at hi
    by_cases hA : (cs.drop (k + 1)).any (sameK s.tables[j] cs[k]) = true
    · rw [if_pos hA] at hi
      rw [hA] at ct
      repeat' (first | ((first | with_reducible refine qV tyOk fun K hK => ?_ | (with_reducible first | refine qG ?_ | refine qH ?_ | refine qP ?_ | refine qGx ?_ | refine qHx ?_ | refine qPx ?_) | ((with_reducible first | refine qS ?_ ?_ | refine qT ?_ ?_ | refine qU ?_ ?_) <;> (intro h; try simp only [NM] at h)) | ((with_reducible refine CallJ.is ?_); (first | refine CallJ.pure (fs) ?_ | refine CallJ.pure (ct) ?_ | ((apply CallJ.lentI); (focus (simp -dsimp (disch := (first | omega | (simp only [LN]; omega))) only [go_sem, ↓reduceIte, seval]; rfl)); (focus (first | exact (fs) | exact (ct)))))) | ((with_reducible refine CallH.is ?_); (first | refine CallH.intro (fs) ?_ | refine CallH.intro (ct) ?_))) <;> simp -dsimp (disch := (first | omega | (simp only [LN]; omega))) only [go_sem, ↓reduceIte, seval]) | ((with_reducible refine hK _ ?_); clear hK K) | (with_reducible first | refine qA ?_ | refine qB ?_ | refine qC ?_ | refine qD ?_ | refine qE ?_ | refine qF ?_ | refine qL ?_ | refine qM ?_ | refine qN ?_ | refine qO ?_ | refine qQ ?_) | refine qR rfl ?_ | (with_reducible refine AI ?_) | ((with_reducible refine qW (T := TT) (b := ?_) ?_ ?_); rotate_left; exact rfl) | (with_reducible first | refine qX ?_ | refine qY ?_ | refine qZ ?_) | (with_reducible first | refine qI ?_ | refine qIx ?_ | fail) | ((with_reducible refine yS ?_ ?_) <;> (intro h; try simp only [NM] at h)))
      refine ⟨⟨(k + 1, out), by simp only; omega, by simp only; omega, hi⟩, by simp only; omega, ?_⟩
      refine St.le_mk ?_ ?_ ?_ <;> simp only [LE, EN, Nat.reduceEqDiff, reduceIte, Nat.reduceSub, eSch]
    · rw [if_neg hA] at hi
      have hA : (cs.drop (k + 1)).any (sameK s.tables[j] cs[k]) = false := by simpa using hA
      rw [hA] at ct
      have hi2 : (out ++ [cs[k]]) ++ lastC s (cs.drop (k + 1)) = lastC s cs := by simpa using hi
      repeat' (first | ((first | with_reducible refine qV tyOk fun K hK => ?_ | (with_reducible first | refine qG ?_ | refine qH ?_ | refine qP ?_ | refine qGx ?_ | refine qHx ?_ | refine qPx ?_) | ((with_reducible first | refine qS ?_ ?_ | refine qT ?_ ?_ | refine qU ?_ ?_) <;> (intro h; try simp only [NM] at h)) | ((with_reducible refine CallJ.is ?_); (first | refine CallJ.pure (fs) ?_ | refine CallJ.pure (ct) ?_ | ((apply CallJ.lentI); (focus (simp -dsimp (disch := (first | omega | (simp only [LN]; omega))) only [go_sem, ↓reduceIte, seval]; rfl)); (focus (first | exact (fs) | exact (ct)))))) | ((with_reducible refine CallH.is ?_); (first | refine CallH.intro (fs) ?_ | refine CallH.intro (ct) ?_))) <;> simp -dsimp (disch := (first | omega | (simp only [LN]; omega))) only [go_sem, ↓reduceIte, seval]) | ((with_reducible refine hK _ ?_); clear hK K) | (with_reducible first | refine qA ?_ | refine qB ?_ | refine qC ?_ | refine qD ?_ | refine qE ?_ | refine qF ?_ | refine qL ?_ | refine qM ?_ | refine qN ?_ | refine qO ?_ | refine qQ ?_) | refine qR rfl ?_ | (with_reducible refine AI ?_) | ((with_reducible refine qW (T := TT) (b := ?_) ?_ ?_); rotate_left; exact rfl) | (with_reducible first | refine qX ?_ | refine qY ?_ | refine qZ ?_) | (with_reducible first | refine qI ?_ | refine qIx ?_ | fail) | ((with_reducible refine yS ?_ ?_) <;> (intro h; try simp only [NM] at h)))
      refine AWP.drawX tyOk mixed [(0, 7), (8, 2)] [(7, [], [(0, 5), (8, 2)]), (10, [(11, 1)], [(0, 5)]), (12, [], [(0, 1)]), (13, [], []), (14, [], [])] [7, 10, 12, 13, 14] 8 (by decide) (by kernel_rfl) (by kernel_rfl) (by kernel_rfl) (by kernel_rfl) fun K hK => ?_
      simp only [segx_nil, segx_cons, segs, List.drop_succ_cons, List.drop_zero, List.take_succ_cons, List.take_zero, List.getElem?_cons_zero, List.getElem?_cons_succ, List.cons_append, List.nil_append, List.append_nil] at hK ⊢
      simp -dsimp (disch := (first | omega | (simp only [LN]; omega))) only [go_sem, ↓reduceIte, seval, Option.getD_none, List.getD_cons_zero]
      repeat' (first | ((first | with_reducible refine qV tyOk fun K hK => ?_ | (with_reducible first | refine qG ?_ | refine qH ?_ | refine qP ?_ | refine qGx ?_ | refine qHx ?_ | refine qPx ?_) | ((with_reducible first | refine qS ?_ ?_ | refine qT ?_ ?_ | refine qU ?_ ?_) <;> (intro h; try simp only [NM] at h)) | ((with_reducible refine CallJ.is ?_); (first | refine CallJ.pure (cloneRow_sat cs[k].key (by omega)) ?_ | refine CallJ.pure (cloneRow_sat cs[k].row (by omega)) ?_ | ((apply CallJ.lentI); (focus (simp -dsimp (disch := (first | omega | (simp only [LN]; omega))) only [go_sem, ↓reduceIte, seval, Option.getD_none, List.getD_cons_zero]; rfl)); (focus (first | exact (cloneRow_sat cs[k].key (by omega)) | exact (cloneRow_sat cs[k].row (by omega))))))) | ((with_reducible refine CallH.is ?_); (first | refine CallH.intro (cloneRow_sat cs[k].key (by omega)) ?_ | refine CallH.intro (cloneRow_sat cs[k].row (by omega)) ?_))) <;> simp -dsimp (disch := (first | omega | (simp only [LN]; omega))) only [go_sem, ↓reduceIte, seval, Option.getD_none, List.getD_cons_zero]) | ((with_reducible refine hK _ ?_); clear hK K) | (with_reducible first | refine qA ?_ | refine qB ?_ | refine qC ?_ | refine qD ?_ | refine qE ?_ | refine qF ?_ | refine qL ?_ | refine qM ?_ | refine qN ?_ | refine qO ?_ | refine qQ ?_) | refine qR rfl ?_ | ((with_reducible refine VCy.intro fun K0 hK0 => ?_)) | ((with_reducible refine VCy.fin ?_); (refine hK0 _ ?_); clear hK0 K0) | (with_reducible first | refine VCy.quiet ?_ | refine VCy.none ?_) | ((with_reducible first | refine VCy.some fun K hK => ?_ | refine VCy.step fun K hK => ?_); simp -dsimp (disch := (first | omega | (simp only [LN]; omega))) only [go_sem, ↓reduceIte, seval, Option.getD_none, List.getD_cons_zero]) | ((with_reducible refine VCy.keep ?_ ?_); focus ((simp -dsimp (disch := (first | omega | (simp only [LN]; omega))) only [go_sem, ↓reduceIte, seval, Stable_cons, Stable_nil, sameA_some, sameA_none, Option.getD_none, List.getD_cons_zero]); first | done | with_reducible assumption | omega | (repeat' with_reducible refine And.intro ?_ ?_) <;> first | with_reducible rfl | with_reducible assumption | omega)) | (with_reducible refine AI ?_) | ((with_reducible refine qW (T := TT) (b := ?_) ?_ ?_); rotate_left; exact rfl) | (with_reducible first | refine qX ?_ | refine qY ?_ | refine qZ ?_) | (with_reducible first | refine qI ?_ | refine qIx ?_ | fail) | ((with_reducible refine yS ?_ ?_) <;> (intro h; try simp only [NM] at h)))
      refine ⟨⟨(k + 1, out ++ [cs[k]]), by simp only; omega, by simp; omega, hi2⟩, by simp only; omega, ?_⟩
      refine St.le_mk ?_ ?_ ?_ <;> simp only [LE, EN, Nat.reduceEqDiff, reduceIte, Nat.reduceSub, eSch, eChg, List.map_append, List.map_cons, List.map_nil, List.length_append, List.length_cons, List.length_nil]
  · have hkk : k = cs.length := by omega
    subst hkk
    rw [List.drop_length, lastC, List.append_nil] at hi
    subst hi
    have st := sortStable_satM 57 (eSch s) (cmpChg s) (lastC s cs) (cmpC_chg s h0 _ fun c hc => ok c ((lastC_sub s cs).subset hc)) (by omega)
    unfold rowC at st
    repeat' (first | ((first | ((fail_if_success (refine AWP.isRegion 21 ?_)); (with_reducible refine qV tyOk fun K hK => ?_)) | (with_reducible first | refine qG ?_ | refine qH ?_ | refine qP ?_ | refine qGx ?_ | refine qHx ?_ | refine qPx ?_) | ((with_reducible first | refine qS ?_ ?_ | refine qT ?_ ?_ | refine qU ?_ ?_) <;> (intro h; try simp only [NM] at h))) <;> simp -dsimp (disch := (first | omega | (simp only [LN]; omega))) only [go_sem, ↓reduceIte, seval]) | ((with_reducible refine hK _ ?_); clear hK K) | (with_reducible first | refine qA ?_ | refine qB ?_ | refine qC ?_ | refine qD ?_ | refine qE ?_ | refine qF ?_ | refine qL ?_ | refine qM ?_ | refine qN ?_ | refine qO ?_ | refine qQ ?_) | refine qR rfl ?_ | (with_reducible refine AI ?_) | ((with_reducible refine qW (T := TT) (b := ?_) ?_ ?_); rotate_left; exact rfl) | (with_reducible first | refine qX ?_ | refine qY ?_ | refine qZ ?_) | (with_reducible first | refine qI ?_ | refine qIx ?_ | fail) | ((with_reducible refine yS ?_ ?_) <;> (intro h; try simp only [NM] at h)))
    refine AWP.frz [] [10] ?_
    simp -dsimp (disch := (first | omega | (simp only [LN]; omega))) only [go_sem, ↓reduceIte, seval, RT, St.rest, St.freeze]
    repeat' (first | ((first | with_reducible refine qV tyOk fun K hK => ?_ | (with_reducible first | refine qG ?_ | refine qH ?_ | refine qP ?_ | refine qGx ?_ | refine qHx ?_ | refine qPx ?_) | ((with_reducible first | refine qS ?_ ?_ | refine qT ?_ ?_ | refine qU ?_ ?_) <;> (intro h; try simp only [NM] at h)) | ((with_reducible refine CallJ.is ?_); refine CallJ.io [] [(1000, 10)] [] [(1000, 10)] [] [] [] [10, 10] (st) rfl ⟨rfl, rfl, rfl, rfl⟩ ?_ ?_ ?_; (focus (simp -dsimp (disch := (first | omega | (simp only [LN]; omega))) only [go_sem, ↓reduceIte, seval, dropL_nil, dropL_nil', dropL_cons]; done)); (focus (simp -dsimp (disch := (first | omega | (simp only [LN]; omega))) only [go_sem, ↓reduceIte, seval, dropL_nil, dropL_nil', dropL_cons]; done)))) <;> simp -dsimp (disch := (first | omega | (simp only [LN]; omega))) only [go_sem, ↓reduceIte, seval, dropL_nil, dropL_nil', dropL_cons]) | ((with_reducible refine hK _ ?_); clear hK K) | (with_reducible first | refine qA ?_ | refine qB ?_ | refine qC ?_ | refine qD ?_ | refine qE ?_ | refine qF ?_ | refine qL ?_ | refine qM ?_ | refine qN ?_ | refine qO ?_ | refine qQ ?_) | refine qR rfl ?_ | (with_reducible refine AI ?_) | ((with_reducible refine qW (T := TT) (b := ?_) ?_ ?_); rotate_left; exact rfl) | (with_reducible first | refine qX ?_ | refine qY ?_ | refine qZ ?_) | (with_reducible first | refine qI ?_ | refine qIx ?_ | fail) | ((with_reducible refine yS ?_ ?_) <;> (intro h; try simp only [NM] at h)))
    have hle := (stableF_perm (cmpChg s) (lastC s cs)).length_eq
    simp -dsimp (disch := (first | omega | (simp only [LN]; omega))) only [retQ, Tryd.results20, resVals, cellRV, resOf, St.rest, St.freeze, RT, go_sem, ↓reduceIte, seval]
    rw [if_pos (by omega)]

theorem ChgsFit.take {cs : List Chg} (h : ChgsFit cs) (n : Nat) : ChgsFit (cs.take n) := ⟨by have := h.1; rw [List.length_take]; omega, fun c hc => h.2 c (List.mem_of_mem_take hc)⟩
theorem ChgsFit.drop {cs : List Chg} (h : ChgsFit cs) (n : Nat) : ChgsFit (cs.drop n) := ⟨by have := h.1; rw [List.length_drop]; omega, fun c hc => h.2 c (List.mem_of_mem_drop hc)⟩

theorem applyE_bad {s : Sch} {i : Inst} {cs : List Chg} (h : (applyE s i cs).1 ≠ 0) : (applyE s i cs).2 = [] := by
  unfold applyE at h ⊢
  split
  · rfl
  rename_i g0
  split
  · rfl
  rename_i g1
  split
  · rfl
  rename_i g2
  rw [if_neg g0, if_neg g1, if_neg g2] at h
  exact applyL_bad h
theorem applyE_fits {s : Sch} {i : Inst} {cs : List Chg} : InstFits (applyE s i cs).2 := by
  by_cases h : (applyE s i cs).1 = 0
  · exact instFits_of (small_of (applyE_zero h).1) (applyE_conf h)
  · rw [applyE_bad h]
    exact ⟨by simp, fun r hr => by cases hr⟩
theorem ChgsFit.append {a b : List Chg} (ha : ChgsFit a) (hb : ChgsFit b) (h : a.length + b.length ≤ 24) : ChgsFit (a ++ b) :=
  ⟨by rw [List.length_append]; omega, fun c hc => (List.mem_append.1 hc).elim (ha.2 c) (hb.2 c)⟩

theorem compactE_ok {s : Sch} {cs : List Chg} (h : (compactE s cs).1 = 0) : schE s = 0 ∧ (∀ c ∈ cs, chgE s c = 0) ∧ (compactE s cs).2 = stableF (cmpChg s) (lastC s cs) := by
  unfold compactE at h ⊢
  by_cases h0 : schE s = 0
  case neg => simp only [ne_eq, h0, not_false_eq_true, if_true] at h
  by_cases h1 : vldE s cs = 0
  case neg => simp only [ne_eq, h0, not_true_eq_false, if_false, h1, not_false_eq_true, if_true] at h
  exact ⟨h0, (vldE_zero s cs).1 h1, by simp [h0, h1]⟩
theorem compactE_mem {s : Sch} {cs : List Chg} {c : Chg} (h : c ∈ (compactE s cs).2) : schE s = 0 ∧ c ∈ lastC s cs ∧ chgE s c = 0 := by
  have h' : (compactE s cs).1 = 0 := by
    unfold compactE at h ⊢
    by_cases h0 : schE s = 0
    case neg => simp [h0] at h
    by_cases h1 : vldE s cs = 0
    case neg => simp [h0, h1] at h
    simp [h0, h1]
  obtain ⟨h0, h1, h2⟩ := compactE_ok h'
  rw [h2] at h
  have h3 := (stableF_perm (cmpChg s) (lastC s cs)).subset h
  exact ⟨h0, h3, h1 c ((lastC_sub s cs).subset h3)⟩
theorem compactE_length (s : Sch) (cs : List Chg) : (compactE s cs).2.length ≤ cs.length := by
  unfold compactE
  split
  · simp
  split
  · simp
  · exact ((stableF_perm (cmpChg s) (lastC s cs)).length_eq ▸ (lastC_sub s cs).length_le)

def SameK (s : Sch) (c d : Chg) : Prop := d.table = c.table ∧ tgt (tblOf s c.table) d = tgt (tblOf s c.table) c
theorem SameK.symm {s : Sch} {c d : Chg} (h : SameK s c d) : SameK s d c := by
  obtain ⟨h1, h2⟩ := h
  exact ⟨h1.symm, by rw [h1, h2]⟩
theorem sameK_iff (s : Sch) (c d : Chg) : sameK (tblOf s c.table) c d = true ↔ SameK s c d := by
  simp [sameK, SameK, sEq_iff]
theorem lastC_apart (s : Sch) : ∀ (l : List Chg) (c d : Chg), c ∈ lastC s l → d ∈ lastC s l → SameK s c d → c = d
  | [], c, d, hc, _, _ => by simp [lastC] at hc
  | x :: l, c, d, hc, hd, h => by
    rw [lastC] at hc hd
    split at hc
    · rename_i g
      rw [if_pos g] at hd
      exact lastC_apart s l c d hc hd h
    · rename_i g
      rw [if_neg g] at hd
      have key : ∀ y ∈ lastC s l, ¬ SameK s x y := fun y hy hs => g (List.any_eq_true.2 ⟨y, (lastC_sub s l).subset hy, (sameK_iff s x y).2 hs⟩)
      rcases List.mem_cons.1 hc with e1 | e1 <;> rcases List.mem_cons.1 hd with e2 | e2
      · rw [e1, e2]
      · exact absurd (e1 ▸ h) (key d e2)
      · exact absurd (e2 ▸ h.symm) (key c e1)
      · exact lastC_apart s l c d e1 e2 h
theorem compactE_apart {s : Sch} {a : List Chg} {c d : Chg} (hc : c ∈ (compactE s a).2) (hd : d ∈ (compactE s a).2) (h : SameK s c d) : c = d :=
  lastC_apart s a c d (compactE_mem hc).2.1 (compactE_mem hd).2.1 h
def Confl (s : Sch) (c d : Chg) : Prop := SameK s c d ∧ (d.kind ≠ c.kind ∨ d.row ≠ c.row)
theorem Confl.symm {s : Sch} {c d : Chg} (h : Confl s c d) : Confl s d c := ⟨h.1.symm, h.2.imp Ne.symm Ne.symm⟩
theorem ChgsOk.fits72 {l : List Chg} (h : ChgsOk l) : l.length * 72 ≤ 140737488355328 := by
  have := h.1
  rw [reachBytes_eq] at this
  omega

def hits (s : Sch) (j : Nat) (k : Row) (c : Chg) : Prop := tpos s c = j ∧ tgt (tblOf s c.table) c = k
instance (s : Sch) (j : Nat) (k : Row) (c : Chg) : Decidable (hits s j k c) := by unfold hits; infer_instance
def lookC (s : Sch) (j : Nat) (k : Row) : List Chg → Option Chg
  | [] => none
  | c :: l => match lookC s j k l with
    | some d => some d
    | none => if hits s j k c then some c else none
def eff (c : Chg) : Option Row := if c.kind = 1 then some c.row else none
def getI (s : Sch) (i : Inst) (j : Nat) (k : Row) : Option Row := getR (s.tables.getD j zTbl) (i.getD j zRel).rows k

theorem lookC_some {s : Sch} {j : Nat} {k : Row} {c : Chg} : ∀ {l : List Chg}, lookC s j k l = some c → c ∈ l ∧ hits s j k c
  | [], h => by cases h
  | x :: l, h => by
    rw [lookC] at h
    split at h
    · rename_i d hd
      injection h with h
      subst h
      obtain ⟨h1, h2⟩ := lookC_some hd
      exact ⟨List.mem_cons_of_mem _ h1, h2⟩
    · split at h
      · rename_i hx
        injection h with h
        subst h
        exact ⟨List.mem_cons_self .., hx⟩
      · cases h
theorem lookC_none {s : Sch} {j : Nat} {k : Row} : ∀ {l : List Chg}, lookC s j k l = none ↔ ∀ c ∈ l, ¬ hits s j k c
  | [] => by simp [lookC]
  | x :: l => by
    have ih := lookC_none (s := s) (j := j) (k := k) (l := l)
    rw [lookC]
    split
    · rename_i d hd
      obtain ⟨h1, h2⟩ := lookC_some hd
      exact ⟨fun h => (by cases h), fun h => absurd h2 (h d (List.mem_cons_of_mem _ h1))⟩
    · rename_i hd
      split
      · rename_i hx
        exact ⟨fun h => (by cases h), fun h => absurd hx (h x (List.mem_cons_self ..))⟩
      · rename_i hx
        refine ⟨fun _ c hc => ?_, fun _ => rfl⟩
        rcases List.mem_cons.1 hc with rfl | hc
        · exact hx
        · exact ih.1 hd c hc
theorem lookC_hit {s : Sch} {j : Nat} {k : Row} {l : List Chg} {c : Chg} (hc : c ∈ l) (h : hits s j k c) : ∃ d, lookC s j k l = some d := by
  cases hd : lookC s j k l with
  | some d => exact ⟨d, rfl⟩
  | none => exact absurd h (lookC_none.1 hd c hc)
theorem lookC_same {s : Sch} {j : Nat} {k : Row} {l m : List Chg} (hlm : ∀ c, c ∈ l ↔ c ∈ m) (ha : ∀ c ∈ l, ∀ d ∈ l, hits s j k c → hits s j k d → c = d) : lookC s j k l = lookC s j k m := by
  cases hl : lookC s j k l with
  | none =>
    have := lookC_none.1 hl
    exact (lookC_none.2 fun c hc => this c ((hlm c).2 hc)).symm
  | some c =>
    obtain ⟨h1, h2⟩ := lookC_some hl
    obtain ⟨d, hd⟩ := lookC_hit ((hlm c).1 h1) h2
    obtain ⟨h3, h4⟩ := lookC_some hd
    rw [hd, ha c h1 d ((hlm d).2 h3) h2 h4]
theorem chg_table {s : Sch} {c : Chg} (h : chgE s c = 0) : c.table = (s.tables.getD (tpos s c) zTbl).name := by
  have o := okChg_of h
  have e := o.pos
  rcases idx_cases (fun t => sEq t.name c.table) s.tables 0 with ⟨e1, _⟩ | ⟨j, hj, e1, e2, _⟩
  · have e1 : tblAt s.tables c.table = -1 := e1
    omega
  · have e1 : tblAt s.tables c.table = (j : Int) := by unfold tblAt; simpa using e1
    have ej : j = tpos s c := by omega
    subst ej
    have : s.tables.getD (tpos s c) zTbl = s.tables[tpos s c] := getD_lt _ hj
    rw [this]
    exact (sEq_iff.1 e2).symm
theorem hits_same {s : Sch} {j : Nat} {k : Row} {c d : Chg} (hc : chgE s c = 0) (hd : chgE s d = 0) (h1 : hits s j k c) (h2 : hits s j k d) : SameK s c d := by
  have e : d.table = c.table := by rw [chg_table hc, chg_table hd, h1.1, h2.1]
  refine ⟨e, ?_⟩
  have := h2.2
  rw [e] at this
  rw [this, h1.2]
theorem same_hits {s : Sch} {c d : Chg} (h : SameK s c d) : hits s (tpos s c) (tgt (tblOf s c.table) c) d := by
  obtain ⟨h1, h2⟩ := h
  exact ⟨by unfold tpos; rw [h1], by rw [h1]; exact h2⟩

theorem applyC_getI {s : Sch} {i : Inst} {c : Chg} (h : confE s i = 0) (hc : (applyC s i c).1 = 0) (j : Nat) (k : Row) : getI s (applyC s i c).2 j k = if hits s j k c then eff c else getI s i j k := by
  have hl := ((confE_zero s i).1 h).1
  unfold applyC at hc ⊢
  split at hc
  · rename_i g; exact absurd hc g
  rename_i g
  have o := okChg_of (by simpa using g : chgE s c = 0)
  have ht : tpos s c < i.length := by rw [hl]; exact o.lt
  have hr := conf_rel h ht
  have hsr := ((okRel_iff _ _).1 hr).2.2
  have key : ∀ rows', (∀ k', getR (s.tables.getD (tpos s c) zTbl) rows' k' = if tgt (tblOf s c.table) c = k' then eff c else getR (s.tables.getD (tpos s c) zTbl) (i.getD (tpos s c) zRel).rows k') →
      getI s (setRows i (tpos s c) rows') j k = if hits s j k c then eff c else getI s i j k := by
    intro rows' h'
    unfold getI
    rw [setRows_getD ht]
    by_cases e : tpos s c = j
    · subst e
      rw [if_pos rfl]
      show getR _ rows' k = _
      rw [h']
      by_cases e2 : tgt (tblOf s c.table) c = k
      · rw [if_pos e2, if_pos ⟨rfl, e2⟩]
      · rw [if_neg e2, if_neg (fun q => e2 q.2)]
    · rw [if_neg e, if_neg (fun q => e q.1)]
  split at hc
  · rename_i g1
    split at hc
    · cases hc
    · rename_i g2
      rw [if_neg g, if_pos g1, if_neg g2]
      refine key _ fun k' => ?_
      rw [o.tbl, getR_upsertR]
      simp only [tgt, eff, if_pos g1]
  · rename_i g1
    split at hc
    · rename_i g2
      rw [if_neg g, if_neg g1, if_pos g2]
      refine key _ fun k' => ?_
      rw [o.tbl, getR_deleteR k' hsr]
      simp only [tgt, eff, if_neg g1]
    · cases hc
theorem applyL_getI {s : Sch} (j : Nat) (k : Row) : ∀ {cs : List Chg} {i : Inst}, confE s i = 0 → (applyL s i cs).1 = 0 → getI s (applyL s i cs).2 j k = match lookC s j k cs with | some c => eff c | none => getI s i j k
  | [], i, h, hc => rfl
  | c :: cs, i, h, hc => by
    rw [lookC]
    unfold applyL at hc ⊢
    split at hc
    · rename_i g; exact absurd hc g
    · rename_i g
      have g : (applyC s i c).1 = 0 := by simpa using g
      rw [if_neg (by simpa using g), applyL_getI j k (applyC_conf h g) hc, applyC_getI h g]
      cases lookC s j k cs with
      | some d => rfl
      | none =>
        simp only
        split <;> rfl
theorem inst_ext {s : Sch} {a b : Inst} (ha : confE s a = 0) (hb : confE s b = 0) (h : ∀ j k, getI s a j k = getI s b j k) : a = b := by
  obtain ⟨la, ca⟩ := (confE_zero s a).1 ha
  obtain ⟨lb, cb⟩ := (confE_zero s b).1 hb
  refine List.ext_getElem (by rw [la, lb]) fun j h1 h2 => ?_
  have ra := ((okRel_iff _ _).1 (conf_rel ha h1)).2.2
  have rb := ((okRel_iff _ _).1 (conf_rel hb h2)).2.2
  have e := getR_ext ra rb fun k => h j k
  have ea : a.getD j zRel = a[j] := getD_lt _ h1
  have eb : b.getD j zRel = b[j] := getD_lt _ h2
  rw [ea, eb] at e
  have na := sEq_iff.1 (ca j h1).1
  have nb := sEq_iff.1 (cb j h2).1
  have e2 : a[j].table = b[j].table := by rw [na, nb]
  cases hx : a[j] with | mk t r => cases hy : b[j] with | mk t' r' =>
  rw [hx, hy] at e e2
  simp only at e e2
  rw [e, e2]
theorem applyC_errs {s : Sch} {i : Inst} {c : Chg} (h : chgE s c = 0) : (applyC s i c).1 = 0 ∨ (applyC s i c).1 = 2 ∨ (applyC s i c).1 = 9 := by
  unfold applyC
  rw [if_neg (by simpa using h)]
  split
  · split
    · exact .inr (.inl rfl)
    · exact .inl rfl
  · split
    · exact .inl rfl
    · exact .inr (.inr rfl)
theorem applyL_errs {s : Sch} : ∀ {cs : List Chg} {i : Inst}, (∀ c ∈ cs, chgE s c = 0) → (applyL s i cs).1 = 0 ∨ (applyL s i cs).1 = 2 ∨ (applyL s i cs).1 = 9
  | [], _, _ => .inl rfl
  | c :: cs, i, h => by
    unfold applyL
    split
    · exact applyC_errs (h c (List.mem_cons_self ..))
    · exact applyL_errs fun c hc => h c (List.mem_cons_of_mem _ hc)
theorem applyE_okU {s : Sch} {i : Inst} {cs : List Chg} (h : (applyE s i cs).1 = 0) : schE s = 0 ∧ confE s i = 0 ∧ cs.length ≤ 24 ∧ (applyL s i cs).1 = 0 ∧ applyE s i cs = applyL s i cs := by
  unfold applyE at h ⊢
  split at h
  · rename_i g; exact absurd h g
  rename_i g1
  split at h
  · rename_i g; exact absurd h g
  rename_i g2
  split at h
  · cases h
  rename_i g3
  rw [if_neg g1, if_neg g2, if_neg g3]
  exact ⟨by simpa using g1, by simpa using g2, by omega, h, rfl⟩
theorem applyE_of {s : Sch} {i : Inst} {cs : List Chg} (h1 : schE s = 0) (h2 : confE s i = 0) (h3 : cs.length ≤ 24) : applyE s i cs = applyL s i cs := by
  unfold applyE
  rw [if_neg (by simpa using h1), if_neg (by simpa using h2), if_neg (by omega)]

section
def zC0 : Chg := ⟨0, ByteArray.empty, [], []⟩
def G (ds : List Chg) (k : Nat) : Chg := ds.getD k zC0
theorem G_lt {ds : List Chg} {k : Nat} (h : k < ds.length) : G ds k = ds[k] := getD_lt _ h
theorem swp_len (ds : List Chg) (i j : Nat) : (swp ds i j).length = ds.length := (swp_perm ds i j).length_eq
theorem swp_at {ds : List Chg} {i j : Nat} (hi : i < ds.length) (hj : j < ds.length) (k : Nat) : G (swp ds i j) k = if k = j then G ds i else if k = i then G ds j else G ds k := by
  rw [G_lt hi, G_lt hj]
  by_cases hk : k < ds.length
  · rw [G_lt (by rw [swp_len]; exact hk), G_lt hk]
    simp only [swp_eq hi hj, List.getElem_set]
    by_cases e : j = k
    · rw [if_pos e, if_pos e.symm]
    · rw [if_neg e, if_neg (Ne.symm e)]
      by_cases e2 : i = k
      · rw [if_pos e2, if_pos e2.symm]
      · rw [if_neg e2, if_neg (Ne.symm e2)]
  · rw [if_neg (by omega), if_neg (by omega)]
    unfold G
    rw [List.getD_eq_getElem?_getD, List.getD_eq_getElem?_getD, List.getElem?_eq_none (by rw [swp_len]; omega), List.getElem?_eq_none (by omega)]
theorem swpR_len : ∀ (n : Nat) (ds : List Chg) (a b : Nat), (swpR n ds a b).length = ds.length := fun n ds a b => (swpR_perm n ds a b).length_eq
theorem swpR_at : ∀ (n : Nat) (ds : List Chg) (a b : Nat), a + n ≤ b → b + n ≤ ds.length → ∀ k, G (swpR n ds a b) k = if a ≤ k ∧ k < a + n then G ds (k - a + b) else if b ≤ k ∧ k < b + n then G ds (k - b + a) else G ds k
  | 0, ds, a, b, _, _, k => by
    rw [if_neg (by omega), if_neg (by omega)]; rfl
  | n + 1, ds, a, b, h1, h2, k => by
    rw [swpR, swpR_at n (swp ds a b) (a + 1) (b + 1) (by omega) (by rw [swp_len]; omega) k]
    simp only [swp_at (show a < ds.length by omega) (show b < ds.length by omega)]
    repeat' split
    all_goals first | (exfalso; omega) | rfl | (exact absurd trivial (by assumption)) | (congr 1; omega)
theorem rotW_len (m i j : Nat) (ds : List Chg) : (rotW m i j ds).length = ds.length := (rotW_perm m i j ds).length_eq
theorem rotW_at (m i j : Nat) (ds : List Chg) (h1 : i ≤ m) (h2 : m + j ≤ ds.length) (k : Nat) : G (rotW m i j ds) k = if m - i ≤ k ∧ k < m - i + j then G ds (k + i) else if m - i + j ≤ k ∧ k < m + j then G ds (k - j) else G ds k := by
  fun_induction rotW m i j ds with
  | case1 i ds =>
    rw [swpR_at _ _ _ _ (by omega) (by omega)]
    repeat' split
    all_goals first | (exfalso; omega) | rfl | (exact absurd trivial (by assumption)) | (congr 1; omega)
  | case2 i j ds g1 g2 g3 ih =>
    rw [ih (by omega) (by rw [swpR_len]; omega)]
    simp only [swpR_at j ds (m - i) m (by omega) (by omega)]
    repeat' split
    all_goals first | (exfalso; omega) | rfl | (exact absurd trivial (by assumption)) | (congr 1; omega)
  | case3 i j ds g1 g2 g3 ih =>
    rw [ih (by omega) (by rw [swpR_len]; omega)]
    simp only [swpR_at i ds (m - i) (m + j - i) (by omega) (by omega)]
    repeat' split
    all_goals first | (exfalso; omega) | rfl | (exact absurd trivial (by assumption)) | (congr 1; omega)
  | case4 i j ds g1 g2 =>
    repeat' split
    all_goals first | (exfalso; omega) | rfl | (exact absurd trivial (by assumption)) | (congr 1; omega)
theorem upR_at : ∀ (n k : Nat) (ds : List Chg), k + n < ds.length → ∀ x, G (upR n k ds) x = if k ≤ x ∧ x < k + n then G ds (x + 1) else if x = k + n then G ds k else G ds x
  | 0, k, ds, h, x => by
    rw [upR, if_neg (by omega)]
    split
    · congr 1
    · rfl
  | n + 1, k, ds, h, x => by
    rw [upR, upR_at n (k + 1) _ (by rw [swp_len]; omega)]
    simp only [swp_at (show k < ds.length by omega) (show k + 1 < ds.length by omega)]
    repeat' split
    all_goals first | (exfalso; omega) | rfl | (exact absurd trivial (by assumption)) | (congr 1; omega)
theorem dnR_at : ∀ (n k : Nat) (ds : List Chg), n ≤ k → k < ds.length → ∀ x, G (dnR n k ds) x = if x = k - n then G ds k else if k - n < x ∧ x ≤ k then G ds (x - 1) else G ds x
  | 0, k, ds, h, h2, x => by
    rw [dnR]
    split
    · congr 1
    · rw [if_neg (by omega)]
  | n + 1, k, ds, h, h2, x => by
    rw [dnR, dnR_at n (k - 1) _ (by omega) (by rw [swp_len]; omega)]
    simp only [swp_at (show k < ds.length by omega) (show k - 1 < ds.length by omega)]
    repeat' split
    all_goals first | (exfalso; omega) | rfl | (exact absurd trivial (by assumption)) | (congr 1; omega)

structure Keep (ds ds' : List Chg) (a b : Nat) : Prop where
  len : ds'.length = ds.length
  out : ∀ k, k < a ∨ b ≤ k → G ds' k = G ds k
  inn : ∀ k, a ≤ k → k < b → ∃ k', a ≤ k' ∧ k' < b ∧ G ds' k = G ds k'
theorem Keep.refl (ds : List Chg) (a b : Nat) : Keep ds ds a b := ⟨rfl, fun _ _ => rfl, fun k h1 h2 => ⟨k, h1, h2, rfl⟩⟩
theorem Keep.trans {x y z : List Chg} {a b : Nat} (h1 : Keep x y a b) (h2 : Keep y z a b) : Keep x z a b :=
  ⟨h2.len.trans h1.len, fun k h => (h2.out k h).trans (h1.out k h), fun k ha hb => by
    obtain ⟨k', p, q, e⟩ := h2.inn k ha hb
    obtain ⟨k'', p', q', e'⟩ := h1.inn k' p q
    exact ⟨k'', p', q', e.trans e'⟩⟩
theorem Keep.mono {x y : List Chg} {a b a' b' : Nat} (h : Keep x y a b) (ha : a' ≤ a) (hb : b ≤ b') : Keep x y a' b' :=
  ⟨h.len, fun k hk => h.out k (by omega), fun k h1 h2 => by
    by_cases hk : a ≤ k ∧ k < b
    · obtain ⟨k', p, q, e⟩ := h.inn k hk.1 hk.2
      exact ⟨k', by omega, by omega, e⟩
    · exact ⟨k, h1, h2, h.out k (by omega)⟩⟩

section
variable (c : Chg → Chg → Int)
structure OrdC : Prop where
  asym : ∀ x y, c x y < 0 → ¬ c y x < 0
  trans : ∀ x y z, ¬ c y x < 0 → ¬ c z y < 0 → ¬ c z x < 0
def Srt (ds : List Chg) (a b : Nat) : Prop := ∀ i j, a ≤ i → i < j → j < b → ¬ c (G ds j) (G ds i) < 0
variable {c}
theorem lessAt_at {ds : List Chg} {i j : Nat} (hi : i < ds.length) (hj : j < ds.length) : lessAt c ds i j = decide (c (G ds i) (G ds j) < 0) := by
  unfold lessAt
  rw [List.getElem?_eq_getElem hi, List.getElem?_eq_getElem hj, G_lt hi, G_lt hj]
theorem Srt.same {ds ds' : List Chg} {a b : Nat} (h : Srt c ds a b) (e : ∀ k, a ≤ k → k < b → G ds' k = G ds k) : Srt c ds' a b := fun i j h1 h2 h3 => by
  rw [e i h1 (by omega), e j (by omega) h3]
  exact h i j h1 h2 h3
theorem OrdC.irr (o : OrdC c) (x : Chg) : ¬ c x x < 0 := fun h => o.asym x x h h
theorem Srt.le (o : OrdC c) {ds : List Chg} {a b i j : Nat} (h : Srt c ds a b) (h1 : a ≤ i) (h2 : i ≤ j) (h3 : j < b) : ¬ c (G ds j) (G ds i) < 0 := by
  rcases Nat.lt_or_eq_of_le h2 with h2 | rfl
  · exact h i j h1 h2 h3
  · exact o.irr _

theorem down_ok (o : OrdC c) (a : Nat) : ∀ (j : Nat) (ds : List Chg), a ≤ j → j < ds.length → Srt c ds a j → Srt c (down c a j ds) a (j + 1) ∧ Keep ds (down c a j ds) a (j + 1)
  | 0, ds, ha, hj, hs => ⟨fun i j h1 h2 h3 => by omega, Keep.refl ..⟩
  | j + 1, ds, ha, hj, hs => by
    rw [down]
    split
    · rename_i g
      obtain ⟨g1, g2⟩ := g
      rw [lessAt_at hj (by omega)] at g2
      have g2 : c (G ds (j + 1)) (G ds j) < 0 := of_decide_eq_true g2
      have at_ := swp_at (i := j + 1) (j := j) hj (show j < ds.length by omega)
      have lj : j < (swp ds (j + 1) j).length := by rw [swp_len]; omega
      have hs0 : Srt c (swp ds (j + 1) j) a j := fun x y p q r => by
        rw [at_, at_, if_neg (by omega), if_neg (by omega), if_neg (by omega), if_neg (by omega)]
        exact hs x y p q (by omega)
      obtain ⟨h1, h2⟩ := down_ok o a j (swp ds (j + 1) j) (by omega) lj hs0
      have h0 : Keep ds (swp ds (j + 1) j) a (j + 1 + 1) := ⟨swp_len .., fun k hk => by rw [at_, if_neg (by omega), if_neg (by omega)], fun k p q => by
        rw [at_]
        by_cases e1 : k = j
        · exact ⟨j + 1, by omega, by omega, by rw [if_pos e1]⟩
        · by_cases e2 : k = j + 1
          · exact ⟨j, by omega, by omega, by rw [if_neg e1, if_pos e2]⟩
          · exact ⟨k, p, q, by rw [if_neg e1, if_neg e2]⟩⟩
      refine ⟨fun x y p q r => ?_, h0.trans (h2.mono (Nat.le_refl _) (by omega))⟩
      by_cases hy : y < j + 1
      · exact h1 x y p q hy
      · have hy : y = j + 1 := by omega
        subst hy
        rw [h2.out (j + 1) (.inr (Nat.le_refl _)), at_, if_neg (by omega), if_pos rfl]
        obtain ⟨x', p', q', e⟩ := h2.inn x p (by omega)
        rw [e, at_]
        by_cases e1 : x' = j
        · rw [if_pos e1]
          exact o.asym _ _ g2
        · rw [if_neg e1, if_neg (by omega)]
          exact hs x' j p' (by omega) (by omega)
    · rename_i g
      refine ⟨fun x y p q r => ?_, Keep.refl ..⟩
      by_cases hy : y < j + 1
      · exact hs x y p q hy
      · have hy : y = j + 1 := by omega
        subst hy
        have g2 : ¬ c (G ds (j + 1)) (G ds j) < 0 := fun q' => g ⟨by omega, by rw [lessAt_at hj (by omega)]; exact decide_eq_true q'⟩
        exact o.trans _ _ _ (hs.le o p (show x ≤ j by omega) (by omega)) g2
theorem insR_ok (o : OrdC c) (a : Nat) : ∀ (n i : Nat) (ds : List Chg), a ≤ i → i + n ≤ ds.length → Srt c ds a i → Srt c (insR c a n i ds) a (i + n) ∧ Keep ds (insR c a n i ds) a (i + n)
  | 0, i, ds, _, _, hs => ⟨hs, Keep.refl ..⟩
  | n + 1, i, ds, ha, hi, hs => by
    obtain ⟨h1, h2⟩ := down_ok o a i ds ha (by omega) hs
    obtain ⟨h3, h4⟩ := insR_ok o a n (i + 1) (down c a i ds) (by omega) (by rw [h2.len]; omega) h1
    rw [insR]
    have e : i + 1 + n = i + (n + 1) := by omega
    rw [e] at h3 h4
    exact ⟨h3, (h2.mono (Nat.le_refl _) (by omega)).trans h4⟩
theorem insS_ok (o : OrdC c) (a b : Nat) (ds : List Chg) (h : b ≤ ds.length) : Srt c (insS c a b ds) a b ∧ Keep ds (insS c a b ds) a b := by
  unfold insS
  by_cases hb : b ≤ a + 1
  · have e : b - (a + 1) = 0 := by omega
    rw [e]
    exact ⟨fun i j h1 h2 h3 => by omega, Keep.refl ..⟩
  · have := insR_ok o a (b - (a + 1)) (a + 1) ds (by omega) (by omega) (fun i j h1 h2 h3 => by omega)
    have e : a + 1 + (b - (a + 1)) = b := by omega
    rwa [e] at this
theorem bsW_true (p : Nat → Bool) (i j : Nat) (h : i < bsW p i j) (hij : i ≤ j) : p (bsW p i j - 1) = true := by
  fun_induction bsW p i j with
  | case1 i j h1 h2 ih =>
    by_cases e : (i + j) / 2 + 1 < bsW p ((i + j) / 2 + 1) j
    · exact ih e (by omega)
    · have := bsW_mem p ((i + j) / 2 + 1) j (by omega)
      have e2 : bsW p ((i + j) / 2 + 1) j = (i + j) / 2 + 1 := by omega
      rw [e2]
      exact h2
  | case2 i j h1 h2 ih => exact ih h (by omega)
  | case3 => omega
theorem bsW_false (p : Nat → Bool) (i j : Nat) (h : bsW p i j < j) (hij : i ≤ j) : p (bsW p i j) = false := by
  fun_induction bsW p i j with
  | case1 i j h1 h2 ih => exact ih h (by omega)
  | case2 i j h1 h2 ih =>
    by_cases e : bsW p i ((i + j) / 2) < (i + j) / 2
    · exact ih e (by omega)
    · have := bsW_mem p i ((i + j) / 2) (by omega)
      have e2 : bsW p i ((i + j) / 2) = (i + j) / 2 := by omega
      rw [e2]
      simpa using h2
  | case3 => omega

set_option maxHeartbeats 4000000 in
theorem symF_ok (o : OrdC c) : ∀ (n : Nat) (ds : List Chg) (a m b : Nat), b - a ≤ n → a < m → m < b → b ≤ ds.length → Srt c ds a m → Srt c ds m b → Srt c (symF c n ds a m b) a b ∧ Keep ds (symF c n ds a m b) a b
  | 0, ds, a, m, b, hn, h1, h2, hb, s1, s2 => by omega
  | n + 1, ds, a, m, b, hn, h1, h2, hb, s1, s2 => by
    rw [symF]
    split
    · rename_i g
      have hp : ∀ h, h < b → (lessAt c ds h a = decide (c (G ds h) (G ds a) < 0)) := fun h hh => lessAt_at (by omega) (by omega)
      obtain ⟨q, hq⟩ : ∃ q, bsW (fun h => lessAt c ds h a) m b = q := ⟨_, rfl⟩
      have hm := bsW_mem (fun h => lessAt c ds h a) m b (by omega)
      have ht := bsW_true (fun h => lessAt c ds h a) m b
      have hf := bsW_false (fun h => lessAt c ds h a) m b
      rw [hq] at hm ht hf ⊢
      have ht : m < q → c (G ds (q - 1)) (G ds a) < 0 := fun h => by
        have := ht h (by omega)
        rw [hp _ (by omega)] at this
        exact of_decide_eq_true this
      have hf : q < b → ¬ c (G ds q) (G ds a) < 0 := fun h => by
        have := hf h (by omega)
        rw [hp _ h] at this
        exact of_decide_eq_false this
      have at_ := upR_at (q - 1 - a) a ds (by omega)
      refine ⟨fun x y p1 p2 p3 => ?_, (upR_perm ..).length_eq, fun k hk => ?_, fun k k1 k2 => ?_⟩
      · rw [at_, at_]
        by_cases e1 : y < q - 1
        · rw [if_pos (by omega), if_pos (by omega)]
          exact s2 _ _ (by omega) (by omega) (by omega)
        by_cases e2 : y = q - 1
        · rw [if_neg (show ¬ (a ≤ y ∧ y < a + (q - 1 - a)) by omega), if_pos (show y = a + (q - 1 - a) by omega), if_pos (by omega)]
          refine o.trans _ _ _ (s2.le o (i := x + 1) (j := q - 1) (by omega) (by omega) (by omega)) (o.asym _ _ (ht (by omega)))
        rw [if_neg (show ¬ (a ≤ y ∧ y < a + (q - 1 - a)) by omega), if_neg (show ¬ y = a + (q - 1 - a) by omega)]
        by_cases e3 : x < q - 1
        · rw [if_pos (by omega)]
          exact s2.le o (by omega) (by omega) p3
        rw [if_neg (by omega)]
        by_cases e4 : x = q - 1
        · rw [if_pos (by omega)]
          exact o.trans _ _ _ (hf (by omega)) (s2.le o (by omega) (by omega) p3)
        · rw [if_neg (by omega)]
          exact s2 _ _ (by omega) p2 p3
      · rw [at_, if_neg (by omega), if_neg (by omega)]
      · rw [at_]
        by_cases e1 : a ≤ k ∧ k < a + (q - 1 - a)
        · exact ⟨k + 1, by omega, by omega, by rw [if_pos e1]⟩
        · by_cases e2 : k = a + (q - 1 - a)
          · exact ⟨a, by omega, by omega, by rw [if_neg e1, if_pos e2]⟩
          · exact ⟨k, k1, k2, by rw [if_neg e1, if_neg e2]⟩
    split
    · rename_i g0 g
      have hp : ∀ h, h < b → ((!lessAt c ds m h) = !decide (c (G ds m) (G ds h) < 0)) := fun h hh => by rw [lessAt_at (by omega) (by omega)]
      obtain ⟨q, hq⟩ : ∃ q, bsW (fun h => !lessAt c ds m h) a m = q := ⟨_, rfl⟩
      have hm := bsW_mem (fun h => !lessAt c ds m h) a m (by omega)
      have ht := bsW_true (fun h => !lessAt c ds m h) a m
      have hf := bsW_false (fun h => !lessAt c ds m h) a m
      rw [hq] at hm ht hf ⊢
      have ht : a < q → ¬ c (G ds m) (G ds (q - 1)) < 0 := fun h => by
        have := ht h (by omega)
        rw [hp _ (by omega)] at this
        simpa using this
      have hf : q < m → c (G ds m) (G ds q) < 0 := fun h => by
        have := hf h (by omega)
        rw [hp _ (by omega)] at this
        simpa using this
      have at_ := dnR_at (m - q) m ds (by omega) (by omega)
      refine ⟨fun x y p1 p2 p3 => ?_, (dnR_perm ..).length_eq, fun k hk => ?_, fun k k1 k2 => ?_⟩
      · rw [at_, at_]
        by_cases e1 : y < q
        · rw [if_neg (by omega), if_neg (by omega), if_neg (by omega), if_neg (by omega)]
          exact s1 _ _ p1 p2 (by omega)
        by_cases e2 : y = q
        · rw [if_pos (show y = m - (m - q) by omega), if_neg (by omega), if_neg (by omega)]
          exact o.trans _ _ _ (s1.le o (i := x) (j := q - 1) (by omega) (by omega) (by omega)) (ht (by omega))
        rw [if_neg (show ¬ y = m - (m - q) by omega), if_pos (show m - (m - q) < y ∧ y ≤ m by omega)]
        by_cases e3 : x < q
        · rw [if_neg (by omega), if_neg (by omega)]
          exact s1.le o (by omega) (by omega) (by omega)
        by_cases e4 : x = q
        · rw [if_pos (by omega)]
          exact o.trans _ _ _ (o.asym _ _ (hf (by omega))) (s1.le o (i := q) (j := y - 1) (by omega) (by omega) (by omega))
        · rw [if_neg (by omega), if_pos (by omega)]
          exact s1 _ _ (by omega) (by omega) (by omega)
      · rw [at_, if_neg (by omega), if_neg (by omega)]
      · rw [at_]
        by_cases e1 : k = m - (m - q)
        · exact ⟨m, by omega, by omega, by rw [if_pos e1]⟩
        · by_cases e2 : m - (m - q) < k ∧ k ≤ m
          · exact ⟨k - 1, by omega, by omega, by rw [if_neg e1, if_pos e2]⟩
          · exact ⟨k, k1, k2, by rw [if_neg e1, if_neg e2]⟩
    rename_i g1 g2
    simp only
    obtain ⟨d, hd⟩ : ∃ d, (a + b) / 2 = d := ⟨_, rfl⟩
    rw [hd]
    have d1 : a + b = 2 * d ∨ a + b = 2 * d + 1 := by omega
    obtain ⟨lo, hlo⟩ : ∃ x, (if d < m then d + m - b else a) = x := ⟨_, rfl⟩
    obtain ⟨r, hr⟩ : ∃ x, (if d < m then d else m) = x := ⟨_, rfl⟩
    rw [hlo, hr]
    have lo1 : (d < m ∧ lo = d + m - b ∧ r = d) ∨ (m ≤ d ∧ lo = a ∧ r = m) := by
      by_cases e : d < m
      · rw [if_pos e] at hlo hr; exact .inl ⟨e, hlo.symm, hr.symm⟩
      · rw [if_neg e] at hlo hr; exact .inr ⟨by omega, hlo.symm, hr.symm⟩
    clear hlo hr
    have hm := bsW_mem (fun x => !lessAt c ds (d + m - 1 - x) x) lo r (by omega)
    have ht := bsW_true (fun x => !lessAt c ds (d + m - 1 - x) x) lo r
    have hf := bsW_false (fun x => !lessAt c ds (d + m - 1 - x) x) lo r
    obtain ⟨s, hs⟩ : ∃ x, bsW (fun x => !lessAt c ds (d + m - 1 - x) x) lo r = x := ⟨_, rfl⟩
    rw [hs] at hm ht hf ⊢
    clear hs
    obtain ⟨e, he⟩ : ∃ x, d + m - s = x := ⟨_, rfl⟩
    rw [he]
    have ht : lo < s → ¬ c (G ds e) (G ds (s - 1)) < 0 := fun h => by
      have := ht h (by omega)
      rw [lessAt_at (by omega) (by omega)] at this
      have e1 : d + m - 1 - (s - 1) = e := by omega
      rw [e1] at this
      simpa using this
    have hf : s < r → c (G ds (e - 1)) (G ds s) < 0 := fun h => by
      have := hf h (by omega)
      rw [lessAt_at (by omega) (by omega)] at this
      have e1 : d + m - 1 - s = e - 1 := by omega
      rw [e1] at this
      simpa using this
    have B : a ≤ s ∧ s ≤ m ∧ s ≤ d ∧ d ≤ e ∧ m ≤ e ∧ e ≤ b ∧ e - m = d - s ∧ m - s = e - d := by omega
    obtain ⟨x1, hx1⟩ : ∃ x, (if s < m ∧ m < e then rotW m (m - s) (e - m) ds else ds) = x := ⟨_, rfl⟩
    rw [hx1]
    have l1 : x1.length = ds.length := by
      rw [← hx1]
      split
      · exact rotW_len ..
      · rfl
    have at_ : ∀ k, G x1 k = if s ≤ k ∧ k < d then G ds (k + (m - s)) else if d ≤ k ∧ k < e then G ds (k - (e - m)) else G ds k := by
      intro k
      rw [← hx1]
      by_cases g : s < m ∧ m < e
      · rw [if_pos g, rotW_at _ _ _ _ (by omega) (by omega)]
        repeat' split
        all_goals first | (exfalso; omega) | rfl | (congr 1; omega)
      · rw [if_neg g]
        repeat' split
        all_goals first | (exfalso; omega) | rfl | (congr 1; omega)
    clear hx1
    have K1 : Keep ds x1 a b := ⟨l1, fun k hk => by rw [at_, if_neg (by omega), if_neg (by omega)], fun k k1 k2 => by
      rw [at_]
      by_cases e1 : s ≤ k ∧ k < d
      · exact ⟨k + (m - s), by omega, by omega, by rw [if_pos e1]⟩
      · by_cases e2 : d ≤ k ∧ k < e
        · exact ⟨k - (e - m), by omega, by omega, by rw [if_neg e1, if_pos e2]⟩
        · exact ⟨k, k1, k2, by rw [if_neg e1, if_neg e2]⟩⟩
    have cross : ∀ x y, a ≤ x → x < d → d ≤ y → y < b → ¬ c (G x1 y) (G x1 x) < 0 := by
      intro x y p1 p2 p3 p4
      rw [at_, at_, if_neg (show ¬ (s ≤ y ∧ y < d) by omega)]
      by_cases e1 : x < s
      · rw [if_neg (show ¬ (s ≤ x ∧ x < d) by omega), if_neg (show ¬ (d ≤ x ∧ x < e) by omega)]
        by_cases e2 : y < e
        · rw [if_pos ⟨p3, e2⟩]
          exact s1.le o p1 (by omega) (by omega)
        · rw [if_neg (by omega)]
          refine o.trans _ _ _ (s1.le o (j := s - 1) p1 (by omega) (by omega)) (o.trans _ _ _ (ht (by omega)) (s2.le o (by omega) (by omega) p4))
      · rw [if_pos (show s ≤ x ∧ x < d by omega)]
        by_cases e2 : y < e
        · rw [if_pos ⟨p3, e2⟩]
          refine o.trans _ _ _ (s2.le o (j := e - 1) (by omega) (by omega) (by omega)) (o.trans _ _ _ (o.asym _ _ (hf (by omega))) (s1.le o (by omega) (by omega) (by omega)))
        · rw [if_neg (by omega)]
          exact s2.le o (by omega) (by omega) p4
    have u1 : Srt c x1 a s := fun x y p1 p2 p3 => by
      rw [at_, at_, if_neg (by omega), if_neg (by omega), if_neg (by omega), if_neg (by omega)]
      exact s1 x y p1 p2 (by omega)
    have u2 : Srt c x1 s d := fun x y p1 p2 p3 => by
      rw [at_, at_, if_pos (by omega), if_pos (by omega)]
      exact s2 _ _ (by omega) (by omega) (by omega)
    have u3 : Srt c x1 d e := fun x y p1 p2 p3 => by
      rw [at_, at_, if_neg (by omega), if_pos (by omega), if_neg (by omega), if_pos (by omega)]
      exact s1 _ _ (by omega) (by omega) (by omega)
    have u4 : Srt c x1 e b := fun x y p1 p2 p3 => by
      rw [at_, at_, if_neg (by omega), if_neg (by omega), if_neg (by omega), if_neg (by omega)]
      exact s2 _ _ (by omega) (by omega) (by omega)
    obtain ⟨x2, hx2⟩ : ∃ x, (if a < s ∧ s < d then symF c n x1 a s d else x1) = x := ⟨_, rfl⟩
    rw [hx2]
    have K2 : Srt c x2 a d ∧ Keep x1 x2 a d := by
      rw [← hx2]
      by_cases g : a < s ∧ s < d
      · rw [if_pos g]
        exact symF_ok o n x1 a s d (by omega) g.1 g.2 (by omega) u1 u2
      · rw [if_neg g]
        refine ⟨?_, Keep.refl ..⟩
        by_cases q : s = a
        · rw [← q]; exact u2
        · have q : s = d := by omega
          rw [← q]; exact u1
    clear hx2
    obtain ⟨x3, hx3⟩ : ∃ x, (if d < e ∧ e < b then symF c n x2 d e b else x2) = x := ⟨_, rfl⟩
    rw [hx3]
    have l2 := K2.2.len
    have K3 : Srt c x3 d b ∧ Keep x2 x3 d b := by
      have v3 : Srt c x2 d e := u3.same fun k k1 k2 => K2.2.out k (.inr k1)
      have v4 : Srt c x2 e b := u4.same fun k k1 k2 => K2.2.out k (.inr (by omega))
      rw [← hx3]
      by_cases g : d < e ∧ e < b
      · rw [if_pos g]
        exact symF_ok o n x2 d e b (by omega) g.1 g.2 (by omega) v3 v4
      · rw [if_neg g]
        refine ⟨?_, Keep.refl ..⟩
        by_cases q : e = d
        · rw [← q]; exact v4
        · have q : e = b := by omega
          rw [← q]; exact v3
    clear hx3
    refine ⟨fun x y p1 p2 p3 => ?_, K1.trans ((K2.2.mono (Nat.le_refl _) (by omega)).trans (K3.2.mono (by omega) (Nat.le_refl _)))⟩
    by_cases e1 : y < d
    · rw [K3.2.out x (.inl (by omega)), K3.2.out y (.inl e1)]
      exact K2.1 x y p1 p2 e1
    by_cases e2 : d ≤ x
    · exact K3.1 x y e2 p2 p3
    rw [K3.2.out x (.inl (by omega))]
    obtain ⟨x', q1, q2, q3⟩ := K2.2.inn x p1 (by omega)
    obtain ⟨y', q4, q5, q6⟩ := K3.2.inn y (by omega) p3
    rw [q3, q6, K2.2.out y' (.inr q4)]
    exact cross x' y' q1 q2 q4 q5

theorem Srt.sub {ds : List Chg} {a b a' b' : Nat} (h : Srt c ds a b) (ha : a ≤ a') (hb : b' ≤ b) : Srt c ds a' b' := fun i j h1 h2 h3 => h i j (by omega) h2 (by omega)
def BS (c : Chg → Chg → Int) (k N : Nat) (ds : List Chg) (a : Nat) : Prop := ∀ t, Srt c ds (a + t * k) (min (a + (t + 1) * k) N)
theorem blkW_ok (o : OrdC c) (N a : Nat) (ds : List Chg) (hN : N ≤ ds.length) : BS c 20 N (blkW c N a ds) a ∧ Keep ds (blkW c N a ds) a N := by
  fun_induction blkW c N a ds with
  | case1 a ds h ih =>
    obtain ⟨h1, h2⟩ := insS_ok o a (a + 20) ds (by omega)
    obtain ⟨h3, h4⟩ := ih (by rw [h2.len]; exact hN)
    refine ⟨fun t => ?_, (h2.mono (Nat.le_refl _) h).trans (h4.mono (by omega) (Nat.le_refl _))⟩
    cases t with
    | zero => exact (h1.same fun k k1 k2 => h4.out k (.inl k2)).sub (by omega) (by omega)
    | succ t => exact (h3 t).sub (by omega) (by omega)
  | case2 a ds h =>
    by_cases hb : a ≤ N
    · obtain ⟨h1, h2⟩ := insS_ok o a N ds hN
      exact ⟨fun t => h1.sub (by omega) (by omega), h2⟩
    · obtain ⟨h1, h2⟩ := insS_ok o a N ds hN
      exact ⟨fun t i j p q r => by omega, h2⟩
theorem mrgW_ok (o : OrdC c) (N k a : Nat) (ds : List Chg) (hk : 0 < k) (hN : N ≤ ds.length) (hB : BS c k N ds a) : BS c (2 * k) N (mrgW c N k a ds) a ∧ Keep ds (mrgW c N k a ds) a N := by
  fun_induction mrgW c N k a ds with
  | case1 a ds h ih =>
    have s1 := hB 0
    have s2 := hB 1
    have s1 : Srt c ds a (a + k) := s1.sub (by omega) (by omega)
    have s2 : Srt c ds (a + k) (a + 2 * k) := s2.sub (by omega) (by omega)
    obtain ⟨h1, h2⟩ := symF_ok o N ds a (a + k) (a + 2 * k) (by omega) (by omega) (by omega) (by omega) s1 s2
    obtain ⟨h3, h4⟩ := ih (by rw [h2.len]; exact hN) fun t => by
      have h5 := hB (t + 2)
      rw [Nat.add_mul t 2 k, show (t + 2 + 1) * k = (t + 1) * k + 2 * k by rw [← Nat.add_mul]] at h5
      exact (h5.same fun x x1 x2 => h2.out x (.inr (by omega))).sub (by omega) (by omega)
    refine ⟨fun t => ?_, (h2.mono (Nat.le_refl _) h.2).trans (h4.mono (by omega) (Nat.le_refl _))⟩
    cases t with
    | zero => exact (h1.same fun x x1 x2 => h4.out x (.inl x2)).sub (by omega) (by omega)
    | succ t =>
      have h5 := h3 t
      rw [Nat.add_mul t 1 (2 * k), show (t + 1 + 1) * (2 * k) = (t + 1) * (2 * k) + 1 * (2 * k) by rw [← Nat.add_mul]]
      exact h5.sub (by omega) (by omega)
  | case2 a ds h g =>
    have s1 := hB 0
    have s2 := hB 1
    have s1 : Srt c ds a (a + k) := s1.sub (by omega) (by omega)
    have s2 : Srt c ds (a + k) N := s2.sub (by omega) (by omega)
    obtain ⟨h1, h2⟩ := symF_ok o N ds a (a + k) N (by omega) (by omega) g hN s1 s2
    exact ⟨fun t => h1.sub (by omega) (by omega), h2⟩
  | case3 a ds h g =>
    refine ⟨fun t => ?_, Keep.refl ..⟩
    exact (hB 0).sub (by omega) (by omega)
theorem stW_ok (o : OrdC c) (N k : Nat) (ds : List Chg) (hk : 0 < k) (hN : N ≤ ds.length) (hB : BS c k N ds 0) : Srt c (stW c N k ds) 0 N := by
  fun_induction stW c N k ds with
  | case1 k ds h ih =>
    obtain ⟨h1, h2⟩ := mrgW_ok o N k 0 ds hk hN hB
    exact ih (by omega) (by rw [h2.len]; exact hN) h1
  | case2 k ds h => exact (hB 0).sub (by omega) (by omega)
theorem stableF_ok (o : OrdC c) (ds : List Chg) : (stableF c ds).Pairwise fun x y => ¬ c y x < 0 := by
  obtain ⟨h1, h2⟩ := blkW_ok o ds.length 0 ds (Nat.le_refl _)
  have h3 := stW_ok o ds.length 20 _ (by omega) (by rw [h2.len]; exact Nat.le_refl _) h1
  have hl : (stableF c ds).length = ds.length := (stableF_perm c ds).length_eq
  refine List.pairwise_iff_getElem.2 fun i j hi hj hij => ?_
  have := h3 i j (Nat.zero_le _) hij (by omega)
  rwa [show stW c ds.length 20 (blkW c ds.length 0 ds) = stableF c ds from rfl, G_lt hi, G_lt hj] at this
theorem sorted_eq {r : Chg → Chg → Prop} : ∀ {l m : List Chg}, l.Perm m → l.Pairwise r → m.Pairwise r → (∀ x ∈ l, ∀ y ∈ l, r x y → r y x → x = y) → l = m
  | [], m, h, _, _, _ => h.nil_eq
  | x :: l, [], h, _, _, _ => by have := h.length_eq; simp at this
  | x :: l, y :: m, h, h1, h2, ha => by
    obtain ⟨p1, p2⟩ := List.pairwise_cons.1 h1
    obtain ⟨q1, q2⟩ := List.pairwise_cons.1 h2
    have e : x = y := by
      have hx : x ∈ y :: m := h.subset (List.mem_cons_self ..)
      have hy : y ∈ x :: l := h.symm.subset (List.mem_cons_self ..)
      rcases List.mem_cons.1 hx with e | hx
      · exact e
      rcases List.mem_cons.1 hy with e | hy
      · exact e.symm
      exact ha x (List.mem_cons_self ..) y (List.mem_cons_of_mem _ hy) (p1 y hy) (q1 x hx)
    subst e
    rw [sorted_eq (h.cons_inv) p2 q2 fun a ha' b hb => ha a (List.mem_cons_of_mem _ ha') b (List.mem_cons_of_mem _ hb)]
end
end

theorem cmpChg_lt {s : Sch} {a b : Chg} : cmpChg s a b < 0 ↔ tblAt s.tables a.table < tblAt s.tables b.table ∨ (tblAt s.tables a.table = tblAt s.tables b.table ∧ cmpRows (tgt (tblOf s a.table) a) (tgt (tblOf s b.table) b) < 0) := by
  unfold cmpChg
  by_cases e : tblAt s.tables a.table = tblAt s.tables b.table
  · have et : tblOf s b.table = tblOf s a.table := by unfold tblOf; rw [e]
    rw [if_pos e, et]
    exact ⟨fun h => .inr ⟨e, h⟩, fun h => h.elim (fun q => by omega) fun q => q.2⟩
  · rw [if_neg e]
    exact ⟨fun h => .inl (by omega), fun h => h.elim (fun q => by omega) fun q => absurd q.1 e⟩
theorem cmpChg_ord (s : Sch) : OrdC (cmpChg s) where
  asym x y h g := by
    rw [cmpChg_lt] at h g
    have := cmpRows_is.anti (tgt (tblOf s x.table) x) (tgt (tblOf s y.table) y)
    omega
  trans x y z h g q := by
    rw [cmpChg_lt] at h g q
    have t1 := cmpRows_is.total (tgt (tblOf s x.table) x) (tgt (tblOf s y.table) y)
    have t2 := cmpRows_is.total (tgt (tblOf s y.table) y) (tgt (tblOf s z.table) z)
    have a1 := cmpRows_is.anti (tgt (tblOf s z.table) z) (tgt (tblOf s x.table) x)
    have a2 := cmpRows_is.trans (tgt (tblOf s x.table) x) (tgt (tblOf s y.table) y) (tgt (tblOf s z.table) z)
    generalize tgt (tblOf s x.table) x = X at *
    generalize tgt (tblOf s y.table) y = Y at *
    generalize tgt (tblOf s z.table) z = Z at *
    generalize tblAt s.tables x.table = i at *
    generalize tblAt s.tables y.table = j at *
    generalize tblAt s.tables z.table = k at *
    rcases t1 with t1 | t1 | t1 <;> rcases t2 with t2 | t2 | t2
    · have := a2 t1 t2; omega
    · subst t2; omega
    · omega
    · subst t1; omega
    · subst t1 t2
      have := cmpRows_is.refl X
      omega
    · subst t1; omega
    · omega
    · subst t2; omega
    · omega

theorem lastC_pair (s : Sch) : ∀ (l : List Chg), (lastC s l).Pairwise fun c d => ¬ SameK s c d
  | [] => .nil
  | c :: l => by
    rw [lastC]
    split
    · exact lastC_pair s l
    · rename_i g
      refine List.pairwise_cons.2 ⟨fun y hy hs => g (List.any_eq_true.2 ⟨y, (lastC_sub s l).subset hy, (sameK_iff s c y).2 hs⟩), lastC_pair s l⟩
theorem lastC_id {s : Sch} : ∀ {l : List Chg}, (l.Pairwise fun c d => ¬ SameK s c d) → lastC s l = l
  | [], _ => rfl
  | c :: l, h => by
    obtain ⟨h1, h2⟩ := List.pairwise_cons.1 h
    rw [lastC, if_neg, lastC_id h2]
    intro g
    obtain ⟨y, hy, hs⟩ := List.any_eq_true.1 g
    exact h1 y hy ((sameK_iff s c y).1 hs)
theorem compact_again {s : Sch} {cs : List Chg} (h : (compactE s cs).1 = 0) : compactE s (compactE s cs).2 = (0, (compactE s cs).2) := by
  obtain ⟨h1, h2, h3⟩ := compactE_ok h
  have hv : vldE s (compactE s cs).2 = 0 := (vldE_zero ..).2 fun c hc => (compactE_mem hc).2.2
  have hp : (compactE s cs).2.Perm (lastC s cs) := by rw [h3]; exact stableF_perm ..
  have ha : lastC s (compactE s cs).2 = (compactE s cs).2 :=
    lastC_id ((hp.pairwise_iff (R := fun c d => ¬ SameK s c d) fun {x y} q g => q g.symm).2 (lastC_pair s cs))
  have hs : stableF (cmpChg s) (compactE s cs).2 = (compactE s cs).2 := by
    have s1 := stableF_ok (cmpChg_ord s) (compactE s cs).2
    have s2 : (compactE s cs).2.Pairwise fun x y => ¬ cmpChg s y x < 0 := by rw [h3]; exact stableF_ok (cmpChg_ord s) _
    refine sorted_eq (stableF_perm ..) s1 s2 fun x hx y hy g1 g2 => ?_
    have hx := (stableF_perm _ _).subset hx
    have hy := (stableF_perm _ _).subset hy
    have c1 := (compactE_mem hx).2.2
    have c2 := (compactE_mem hy).2.2
    rw [cmpChg_lt] at g1 g2
    have e : tblAt s.tables x.table = tblAt s.tables y.table := by omega
    have a := cmpRows_is.anti (tgt (tblOf s x.table) x) (tgt (tblOf s y.table) y)
    have k := (cmpRows_is.eq0 (tgt (tblOf s x.table) x) (tgt (tblOf s y.table) y)).1 (by omega)
    refine compactE_apart hx hy (hits_same c1 c2 (j := tpos s x) (k := tgt (tblOf s x.table) x) ⟨rfl, rfl⟩ ⟨?_, k.symm⟩)
    unfold tpos
    rw [e]
  show (if schE s ≠ 0 then (schE s, []) else if vldE s (compactE s cs).2 ≠ 0 then (vldE s (compactE s cs).2, []) else (0, stableF (cmpChg s) (lastC s (compactE s cs).2))) = _
  rw [if_neg (by simpa using h1), if_neg (by simpa using hv), ha, hs]
theorem lookC_lastC {s : Sch} (j : Nat) (k : Row) : ∀ {l : List Chg}, (∀ c ∈ l, chgE s c = 0) → lookC s j k (lastC s l) = lookC s j k l
  | [], _ => rfl
  | c :: l, h => by
    have ih := lookC_lastC (s := s) j k (l := l) fun c hc => h c (List.mem_cons_of_mem _ hc)
    rw [lastC]
    split
    · rename_i g
      rw [ih, lookC]
      cases hl : lookC s j k l with
      | some d => rfl
      | none =>
        simp only
        rw [if_neg]
        intro hh
        obtain ⟨y, hy, hs⟩ := List.any_eq_true.1 g
        have hs := same_hits ((sameK_iff s c y).1 hs)
        rw [hh.1, hh.2] at hs
        exact lookC_none.1 hl y hy hs
    · rw [lookC, lookC, ih]
theorem lookC_compact {s : Sch} {cs : List Chg} (h : (compactE s cs).1 = 0) (j : Nat) (k : Row) : lookC s j k (compactE s cs).2 = lookC s j k cs := by
  obtain ⟨h1, h2, h3⟩ := compactE_ok h
  rw [← lookC_lastC j k h2]
  have hp : (compactE s cs).2.Perm (lastC s cs) := by rw [h3]; exact stableF_perm ..
  refine lookC_same (fun c => hp.mem_iff) fun c hc d hd g1 g2 => compactE_apart hc hd (hits_same (compactE_mem hc).2.2 (compactE_mem hd).2.2 g1 g2)
theorem compact_same {s : Sch} {i : Inst} {cs : List Chg} (h : (compactE s cs).1 = 0) :
    (applyE s i cs).1 ≠ 0 ∨ (applyE s i (compactE s cs).2).1 = 9 ∨ (applyE s i (compactE s cs).2).1 = 2 ∨ ((applyE s i (compactE s cs).2).1 = 0 ∧ (applyE s i cs).2 = (applyE s i (compactE s cs).2).2) := by
  by_cases hg : (applyE s i cs).1 = 0
  · obtain ⟨g1, g2, g3, g4, g5⟩ := applyE_okU hg
    have hl := compactE_length s cs
    have e := applyE_of (s := s) (i := i) (cs := (compactE s cs).2) g1 g2 (by omega)
    rw [e, g5]
    rcases applyL_errs (s := s) (i := i) (cs := (compactE s cs).2) (fun c hc => (compactE_mem hc).2.2) with q | q | q
    · refine .inr (.inr (.inr ⟨q, inst_ext (applyL_conf g2 g4) (applyL_conf g2 q) fun j k => ?_⟩))
      rw [applyL_getI j k g2 g4, applyL_getI j k g2 q, lookC_compact h]
    · exact .inr (.inr (.inl q))
    · exact .inr (.inl q)
  · exact .inl hg

theorem valFits_of {v : Val} (h : valE v = 0) : ValFits v := by
  have hz : ¬ (sEq v.text ByteArray.empty = false) → v.text.size ≤ 24 := fun g => by
    rw [sEq_iff.1 (by simpa using g : sEq v.text ByteArray.empty = true)]
    decide
  have key : v.text.size ≤ 24 ∧ (-9223372036854775808 ≤ v.kind ∧ v.kind ≤ 9223372036854775807) ∧ (-9223372036854775808 ≤ v.int ∧ v.int ≤ 9223372036854775807) := by
    unfold valE at h
    split at h
    · split at h
      · cases h
      · rename_i g
        have := hz fun q => g (.inr q)
        have : v.int = 0 := Decidable.byContradiction fun q => g (.inl q)
        omega
    split at h
    · split at h
      · cases h
      rename_i g
      have := hz g
      split at h
      · cases h
      · omega
    split at h
    · split at h
      · cases h
      split at h
      · cases h
      · omega
    · cases h
  exact ⟨key.2.1.1, key.2.1.2, key.2.2.1, key.2.2.2, by omega⟩
theorem rowFits_ok {t : Tbl} {r : Row} (h : rowE t r = 0) (hn : r.length ≤ 1048576) : RowFits r := by
  obtain ⟨_, h2⟩ := (rowE_zero t r).1 h
  refine ⟨hn, fun v hv => valFits_of ?_⟩
  obtain ⟨j, hj, rfl⟩ := List.getElem_of_mem hv
  have := h2 j hj
  unfold cellE at this
  split at this
  · cases this
  · rename_i g; simpa using g
theorem keyFits_ok {t : Tbl} {r : Row} (h : keyE t r = 0) (hn : r.length ≤ 1048576) : RowFits r := by
  unfold keyE at h
  split at h
  · cases h
  split at h
  · rename_i e he
    refine absurd h (scan_ne (f := keyCellE t) (fun k x e he => ?_) he)
    unfold keyCellE at he
    split at he
    · injection he with he; omega
    · split at he
      · injection he with he; omega
      · cases he
  rename_i he
  refine ⟨hn, fun v hv => valFits_of ?_⟩
  obtain ⟨j, hj, rfl⟩ := List.getElem_of_mem hv
  have := scan_eq_none.1 he j hj
  unfold keyCellE at this
  split at this
  · cases this
  · rename_i g; simpa using g
theorem chgF_of {s : Sch} {c : Chg} (sm : Small s) (h : chgE s c = 0) : ChgF c := by
  obtain ⟨h1, h2⟩ := chg_small sm h
  have o := okChg_of h
  rcases o.kind with e | e
  · obtain ⟨k1, k2⟩ := o.up e
    exact ⟨by rw [k1]; exact ⟨by simp, fun v hv => by cases hv⟩, rowFits_ok k2 (by omega)⟩
  · obtain ⟨k1, k2⟩ := o.del e
    exact ⟨keyFits_ok k2 (by omega), by rw [k1]; exact ⟨by simp, fun v hv => by cases hv⟩⟩

set_option maxHeartbeats 16000000 in
theorem changeCompactSame_sat (s : Sch) (i : Inst) (cs : List Chg) (hf : s.Fits) (hi : InstFits i) (hcs : ChgsFit cs) (h72 : cs.length * 72 ≤ 140737488355328) :
    Sat Tryd.prog 6 [.agg (eSch s), .one (eInst i), .one (eChgs cs)] (.v (oB true)) := by
  have c1 := compact_sat s cs hf hcs h72
  have hl := compactE_length s cs
  by_cases h0 : (compactE s cs).1 = 0
  case neg =>
    have e : compactE s cs = ((compactE s cs).1, []) := by
      unfold compactE at h0 ⊢
      split
      · rfl
      · split
        · rfl
        · rename_i g1 g2
          rw [if_neg g1, if_neg g2] at h0
          exact absurd rfl h0
    rw [e] at c1
    refine sat_of_body tyOk Tryd.func6 rfl (by kernel_rfl) ⟨Nat.le_of_ble_eq_true rfl, Nat.le_of_ble_eq_true rfl⟩ fun w0 m0 F0 => ?_
    simp only [Tryd.ntmps6, envOf, Nat.reduceAdd]
    repeat' (first | ((first | with_reducible refine qV tyOk fun K hK => ?_ | (with_reducible first | refine qG ?_ | refine qH ?_ | refine qP ?_ | refine qGx ?_ | refine qHx ?_ | refine qPx ?_) | ((with_reducible first | refine qS ?_ ?_ | refine qT ?_ ?_ | refine qU ?_ ?_) <;> (intro h; try simp only [NM] at h)) | with_reducible refine yD tyOk mixed 6 (by kernel_rfl) fun K hK => ?_ | ((with_reducible refine CallJ.is ?_); (first | refine CallJ.pure (changesWork_sat) ?_ | refine CallJ.pure (c1) ?_ | ((apply CallJ.lentI); (focus (simp -dsimp (disch := (first | omega | (simp only [LN]; omega))) only [go_sem, ↓reduceIte, seval, h0]; rfl)); (focus (first | exact (changesWork_sat) | exact (c1)))))) | ((with_reducible refine CallH.is ?_); (first | refine CallH.intro (changesWork_sat) ?_ | refine CallH.intro (c1) ?_))) <;> simp -dsimp (disch := (first | omega | (simp only [LN]; omega))) only [go_sem, ↓reduceIte, seval, h0]) | ((with_reducible refine hK _ ?_); clear hK K) | (with_reducible first | refine qA ?_ | refine qB ?_ | refine qC ?_ | refine qD ?_ | refine qE ?_ | refine qF ?_ | refine qL ?_ | refine qM ?_ | refine qN ?_ | refine qO ?_ | refine qQ ?_) | refine qR rfl ?_ | (with_reducible refine AI ?_) | ((with_reducible refine qW (T := TT) (b := ?_) ?_ ?_); rotate_left; exact rfl) | (with_reducible first | refine qX ?_ | refine qY ?_ | refine qZ ?_) | (with_reducible first | refine qI ?_ | refine qIx ?_ | fail) | ((with_reducible refine yS ?_ ?_) <;> (intro h; try simp only [NM] at h)))
    all_goals simp -dsimp (disch := (first | omega | (simp only [LN]; omega))) only [retQ, Tryd.results6, resVals, cellRV, resOf, St.rest, St.freeze, RT, go_sem, ↓reduceIte, seval]
  have sm := small_of (compactE_ok h0).1
  have law := compact_same (i := i) h0
  have again := compact_again h0
  have mem : ∀ c ∈ (compactE s cs).2, chgE s c = 0 := fun c hc => (compactE_mem hc).2.2
  obtain ⟨⟨e, C⟩, hC⟩ : ∃ x, compactE s cs = x := ⟨_, rfl⟩
  rw [hC] at h0 hl law again mem c1
  simp only at h0 hl law again mem c1
  subst h0
  have hcf : ChgsFit C := ⟨by have := hcs.1; omega, fun c hc => by
    have := chg_small sm (mem c hc)
    omega⟩
  have c2 := compact_sat s C hf hcf (by omega)
  rw [again] at c2
  have c3 := eqChgs_sat C hcf.1 fun c hc => chgF_of sm (mem c hc)
  have c4 := apply_sat s i cs hf hi hcs
  have c5 := apply_sat s i C hf hi hcf
  have c6 := instEqual_sat (applyE s i cs).2 (applyE s i C).2 applyE_fits applyE_fits
  obtain ⟨⟨g, x⟩, hx⟩ : ∃ x, applyE s i cs = x := ⟨_, rfl⟩
  obtain ⟨⟨h, y⟩, hy⟩ : ∃ x, applyE s i C = x := ⟨_, rfl⟩
  rw [hx] at c4 c6 law
  rw [hy] at c5 c6 law
  simp only at c4 c5 c6 law
  refine sat_of_body tyOk Tryd.func6 rfl (by kernel_rfl) ⟨Nat.le_of_ble_eq_true rfl, Nat.le_of_ble_eq_true rfl⟩ fun w0 m0 F0 => ?_
  simp only [Tryd.ntmps6, envOf, Nat.reduceAdd]
  repeat' (first | ((first | with_reducible refine qV tyOk fun K hK => ?_ | (with_reducible first | refine qG ?_ | refine qH ?_ | refine qP ?_ | refine qGx ?_ | refine qHx ?_ | refine qPx ?_) | ((with_reducible first | refine qS ?_ ?_ | refine qT ?_ ?_ | refine qU ?_ ?_) <;> (intro h; try simp only [NM] at h)) | with_reducible refine yD tyOk mixed 6 (by kernel_rfl) fun K hK => ?_ | ((with_reducible refine CallJ.is ?_); (first | refine CallJ.pure (changesWork_sat) ?_ | refine CallJ.pure (c1) ?_ | refine CallJ.pure (c2) ?_ | refine CallJ.pure (c3) ?_ | refine CallJ.pure (c4) ?_ | refine CallJ.pure (c5) ?_ | refine CallJ.pure (c6) ?_ | ((apply CallJ.lentI); (focus (simp -dsimp (disch := (first | omega | (simp only [LN]; omega))) only [go_sem, ↓reduceIte, seval]; rfl)); (focus (first | exact (changesWork_sat) | exact (c1) | exact (c2) | exact (c3) | exact (c4) | exact (c5) | exact (c6)))))) | ((with_reducible refine CallH.is ?_); (first | refine CallH.intro (changesWork_sat) ?_ | refine CallH.intro (c1) ?_ | refine CallH.intro (c2) ?_ | refine CallH.intro (c3) ?_ | refine CallH.intro (c4) ?_ | refine CallH.intro (c5) ?_ | refine CallH.intro (c6) ?_))) <;> simp -dsimp (disch := (first | omega | (simp only [LN]; omega))) only [go_sem, ↓reduceIte, seval]) | ((with_reducible refine hK _ ?_); clear hK K) | (with_reducible first | refine qA ?_ | refine qB ?_ | refine qC ?_ | refine qD ?_ | refine qE ?_ | refine qF ?_ | refine qL ?_ | refine qM ?_ | refine qN ?_ | refine qO ?_ | refine qQ ?_) | refine qR rfl ?_ | (with_reducible refine AI ?_) | ((with_reducible refine qW (T := TT) (b := ?_) ?_ ?_); rotate_left; exact rfl) | (with_reducible first | refine qX ?_ | refine qY ?_ | refine qZ ?_) | (with_reducible first | refine qI ?_ | refine qIx ?_ | fail) | ((with_reducible refine yS ?_ ?_) <;> (intro h; try simp only [NM] at h)))
  all_goals simp -dsimp (disch := (first | omega | (simp only [LN]; omega))) only [retQ, Tryd.results6, resVals, cellRV, resOf, St.rest, St.freeze, RT, go_sem, ↓reduceIte, seval]
  all_goals simp_all

section
open Go.ChangeShapes Go.RowKit Go.Proofs.YtmmbghbkpjmifaaDoor Go.Proofs

theorem gPow : Tryd.prog.globalNamed "internal/strconv.uint64pow10" = some 1 := by kernel_rfl
theorem tPow : (Tryd.prog.globals[1]?).map (·.type) = some 165 := by kernel_rfl
theorem gSyn : Tryd.prog.globalNamed "strconv.ErrSyntax" = none := by kernel_rfl
theorem gRng : Tryd.prog.globalNamed "strconv.ErrRange" = none := by kernel_rfl
theorem laidW_rel {W : World} (h : laidMet Tryd.prog Rows.relationUpsertFindUptoRow.laid W) : LaidW Tryd.prog W where
  pow := fun _ => Lib.tabIs_of_head (k := .u64) (zs := (List.range 20).map fun i => ((10 ^ i : Nat) : Int)) gPow tPow Tryd.underlying165 Tryd.underlying155 (by kernel_rfl) (by kernel_rfl) h.tail.tail
  rng := fun q => by rw [gRng] at q; cases q
  syn := fun q => by rw [gSyn] at q; cases q
end
end Go.Bw
