/-
  WHAT IS PROVED HERE, of this translation: StepsX_sound, wp_regionX, run_alloc, gives_callK, bld_start, people_sat, itoaB_size, cellB_size, encL_zero, encL_succ, encL_le, itoa_ne, encL_ne, okIds_ptr, okIds_byt, encode_sat, cat_succ, cat_all, cat_nil, cat_size, cat_size_take, sizedB_size, sized_sat, fkcB_size, fkB_size, fkID_sat, boolB_size, pkB_size, colB_size, tblH_size, .., rdb_slice, rdFb_nil, rdFb_cons, rdb_struct, rdb_struct3, rdb_intF, rdb_stringF, intOk_bounds, rdb_valF, rdb_struct5, rdb_IF, rdb_SF, rdb_intsF, rdb_colF, rdb_colsF, rdb_tblF, rdb_tblsF, rdb_fkF, rdb_fksF, rdb_conF, rdb_consF, rdb_schF, valFitsW, schFW, gPow, tPow, gSyn, gRng, laidW_rel.
  A theorem that ends in sat says what the function it names returns, whatever the state it is called in; the bounds on its arguments stand ahead of it.
-/
import Derived.Lib.ItoaLen
import Derived.Laws.Strings
import Derived.ChangeArms
import Derived.SizedLaws
import Derived.JoinedOf
import Derived.ChangeSame
import Derived.RowKit
import Derived.Carry
import Derived.Test.YtmmbghbkpjmifaaDoorRows
import Derived.Test.YtmmbghbkpjmifaaDoorTie
import Derived.Test.YtmmbghbkpjmifaaDoorCards
import Derived.Lib.LaidTab
import Derived.Stop.LaidErr
import Derived.Stop.Joined
import Derived.OpenShut
import Derived.LaidMore
import Derived.SevenTiedAt
import Derived.Deep.DeepHandedRow
import Derived.Lay
import Derived.WalkKit
import Derived.ProofKit
import Derived.Test.YtmmbghbkpjmifaaDoorN20e
set_option linter.unusedSimpArgs false
set_option linter.unusedVariables false

namespace Go.Bw
open Go.Proofs
attribute [local go_sem ↓] VOps_nil VOps_cons VOp_callJ VVal_callH VOps_guard GOn_tt GOn_ff GOn_tf GOn_ft GOn_not GOn_none HOn_none HOn_tt HOn_ff HOn_tf HOn_ft HOn_not VHead_nil VHead_cons VHead_guard VVal_move VVal_assign VVal_pickE pickK_true pickK_false VVal_not VVal_neg negK_int VVal_load loadK_fz loadK_ptr loadK_eptr VVal_fieldAddr VVal_field VVal_indexAddr idxK_sl idxK_ref VVal_index indexK_str VVal_extract VVal_binOp binK_one binK_agg VVal_build VVal_buildSlice VVal_makeFunc VVal_slice sliceK_str sliceK_sl sliceK_nil sliceK_ref VVal_slice3 VVal_nilCheck VVal_convert convKk_int convKk_str VVal_len VVal_max VVal_min VOp_assign assignK_int assignK_bool assignK_str assignK_clo assignK_sl assignK_nil assignK_ref assignK_agg assignK_fz assignK_ptr assignK_eptr assignK_any VOp_box VOp_alloc VOp_store storeK_ptr storeK_eptr VOp_buildSlice VOp_append appK_rr appK_rs appK_rn appK_ri appK_nr appK_ns appK_nn appK_ni appStd_eq VOp_copy copyK_ref VOp_clear clearK_ref VOp_cap VOp_eqNil VOp_move VOp_pick VOp_not VOp_neg VOp_load VOp_fieldAddr VOp_field VOp_indexAddr VOp_index VOp_extract VOp_binTmp VOp_binInt VOp_binStr VOp_binPtr VOp_build VOp_makeFunc VOp_slice VOp_nilCheck VOp_convert VOp_len VOp_max VOp_min mO_some mT_some pk_some pk_none look_cons del_cons
attribute [local go_sem] guardB gOf int_bne beq_true beq_false Bool.not_not gSlot pickK_true pickK_false negK_int loadK_fz loadK_ptr loadK_eptr idxK_sl idxK_ref indexK_str binK_one binK_agg sliceK_str sliceK_sl sliceK_nil sliceK_ref convKk_int convKk_str maxL minL assignK_int assignK_bool assignK_str assignK_clo assignK_sl assignK_nil assignK_ref assignK_agg assignK_fz assignK_ptr assignK_eptr assignK_any nilRow_eq takeRow_eq appended_eq storeK_ptr storeK_eptr store_mk appIn_eq appMk_eq marked_eq ovOut_nil ovOut_cons ovIn_nil ovIn_cons padRow_eq ysC capK_nil capK_ref ioSt_mk outB_nil outR_nil outB outR inB_nil inB_cons inR_nil inR_cons L.kl L.kl0 L.ids L.ids0 Option.getD_some evalO constA mO_some mT_some put_mk putO_some putO_none okD_some okD_none pk_some pk_none look_nil del_nil sput noBox_mk noRow_mk newBox_eq newRow0_eq St.killRow RowC.kill rowMap_mk rowOf ovAll ovAdd ovDel ovGet ovShift dstOf ysOf overlay_nil overlay_nil' overlay A.map V.map L.noPtr L.noPtr0 L.noRow L.noRow0 L.peek L.norm L.flat clos_int clos_bool clos_str clos_sl clos_nil clos_any clos_fz L.clos L.isFz L.kd moveL fieldOff eqCells eqCell eqOp oneOf boolOf intOfA tupOf vOf aggOf isPtrLike isSlice lenKind lenL nL elemTI loadV asV binL intBin intDivL shrL boolBin strBin strAdd ptrNil boundN partCells fillL placesOf setL chunks repL capsOf capL callOf argsOf frzV_int frzV_bool frzV_str frzV_sl frzV_nil frzV_fz frzV_any frzV_own frzV_clo frzV_ref frzV_eptr frzV_ptr frzRow_nil frzRow_ov frzRs_nil frzRs_cons frzCs_nil frzCs_cons frzO_some frzO_none frzN_int frzN_bool frzN_str frzN_sl frzN_nil frzN_any frzN_own List.map_cons List.map_nil List.cons_append List.nil_append List.append_nil List.length_cons List.length_nil List.length_map List.length_append List.headD_cons List.tail_cons List.getElem?_cons_zero List.getElem?_cons_succ List.drop_zero List.drop_succ_cons List.drop_nil List.take_succ_cons List.take_zero List.take_nil List.take_length List.filter_cons List.filter_nil List.elem_cons List.elem_nil List.all_cons List.all_nil Option.bind_some Option.map_some Option.some.injEq bne_self_eq_false beq_self_eq_true if_true if_false Bool.false_eq_true true_and and_true and_self Nat.zero_add Nat.add_zero Nat.zero_le Int.toNat_natCast Int.toNat_zero Option.isSome_some List.getElem?_toArray decide_true decide_false ge_iff_le gt_iff_lt Bool.not_true Bool.not_false Nat.le_refl Bool.and_true Bool.true_and Bool.and_false Bool.false_and eVal eRow eRow1 eRows eInt1 eInts eCol eCols eTbl eTbls eFK eFKs eCon eCons eSch eRel eInst eChg eChgs szOf getD_map_lt wrap_nat wrap_in List.take_of_length_le frz_eVal frz_eRow1 frz_eInt1 frz_eCol frz_eTbl frz_eFK frz_eCon frz_eRel frz_eChg noOwn_nil noOwn_cons noOwn_append L.isOwn noOwn_eVal noOwn_eRow1 noOwn_eInt1 noOwn_eCol noOwn_eTbl noOwn_eFK noOwn_eCon noOwn_eRel noOwn_eChg convK_2 convK_3 convK_5 convK_12 convK_21 convK_57 convK_155 convK_162 convK_166 TT_2 TT_3 TT_4 TT_5 TT_9 TT_12 TT_13 TT_21 TT_22 TT_23 TT_24 TT_25 TT_26 TT_27 TT_28 TT_38 TT_39 TT_40 TT_41 TT_42 TT_45 TT_46 TT_47 TT_48 TT_49 TT_50 TT_51 TT_52 TT_54 TT_55 TT_56 TT_57 TT_65 TT_66 TT_82 TT_83 TT_84 TT_100 TT_101 TT_118 TT_155 TT_162 TT_166 boolTy_4 eqK_46 eqK_50 eqK_52
attribute [local congr] VOps.congr VHead.congr VOp.congr VVal.congr pk.congr assignK.congr appK.congr appStd.congr copyK.congr clearK.congr storeK.congr loadK.congr idxK.congr sliceK.congr indexK.congr binK.congr convKk.congr
open Go.Proofs Go.RowKit Go.Shelf

section
variable {P : Program} {T : TypeId → Option TI} {w0 : World} {m0 : Mem} {F0 : Home} {s s' : St} {a : Act} {w w' : World} {m : Mem} {ω : Wh}
def StepsX (P : Program) (Q : Exit → Act → World → Prop) : List Oper → Act → World → (Act → World → Prop) → Prop
  | [], a, w, K => K a w
  | o :: l, a, w, K => o.guard = none ∧ o.wp P a w (fun a' w' => StepsX P Q l a' w' K) Q
theorem StepsX_sound {ops : Array Oper} {Q : Exit → Act → World → Prop} : ∀ (l : List Oper) (k : Nat) (a : Act) (w : World), ops.toList.drop k = l → StepsX P Q l a w (Q .normal) → wpOps P ops Q (List.range' k l.length) a w
  | [], k, a, w, _, h => h
  | o :: l, k, a, w, hl, h => by
    have hk : ops[k]? = some o := by
      have : (ops.toList.drop k)[0]? = some o := by rw [hl]; rfl
      simpa [List.getElem?_drop] using this
    have hl' : ops.toList.drop (k + 1) = l := by
      have : (ops.toList.drop k).drop 1 = l := by rw [hl]; rfl
      simpa [List.drop_drop] using this
    obtain ⟨hg, h⟩ := h
    simp only [List.length_cons, List.range'_succ, wpOps, hk]
    have hw : Region.wanted o (yielded ops a.tmps) = true := by simp [Region.wanted, hg]
    rw [if_pos hw]
    exact .inl (Oper.wp_mono (fun a' w' h => StepsX_sound l (k + 1) a' w' hl' h) h)
theorem wp_regionX {id : Nat} {l : List Oper} {Q : Exit → Act → World → Prop} (h : StepsX P Q l a w (Q .normal)) : (Code.region id l.toArray false).wp P Q a w := by
  refine wp_region ?_
  have := StepsX_sound (ops := l.toArray) l 0 a w (by simp) h
  have hlen : l.length = l.toArray.size := by simp
  rwa [← List.range_eq_range', hlen] at this
theorem run_alloc {o : Oper} {e : TypeId} {inf : TypeInfo} {z : Value} (ho : o.op = .alloc e) (g1 : P.info? e = some inf) (g2 : inf.zero = some z) :
    (execOp a.eval o).run P w = .ok (.value (.pointer (some ⟨w.heap.size, 0, none⟩))) (w.alloc (.cells z.cells e (0, 0))) := by
  unfold execOp
  simp only [ho, Instr.alloc, zeroValue, typeInfo, program, newVar, newRow, newObj, Sem.run_bind, Sem.run, Result.andThen_ok, Sem.run_pure, g1, g2]
  rfl
theorem gives_callK {o : Oper} {c : Call} {f : FuncId} {xs : List V} {r : A} (ho : o.op = .call c) (h : CI P w0 m0 F0 s a w m ω) (hc : callOf T s c = some (f, xs)) (hS : Sat P f xs r) :
    Gives P o a w fun v w' => ∃ m', CI P w0 m0 F0 s a w' m' ω ∧ ARep m' ω v (r.map L.clos) ∧ ∀ k, k < w.heap.size → w'.heap[k]? = w.heap[k]? := by
  obtain ⟨vs, h1, h2⟩ := callOf_sound ho h hc
  refine (gives_of_callsR h1 (hS.call m w vs ω (CI.none h.goodN h.ok) h2)).mono fun v w' hp => ?_
  obtain ⟨m', ω', hC, hv⟩ := hp
  exact ⟨m', h.grow ⟨hC.keeps.os, hC.keeps.tape, hC.keeps.output, hC.keeps.size, fun k hk => hC.keeps.block k hk owned_none⟩ hC.mle (fun x hx => hC.mold x hx owned_none) hC.ok, hv.map fun v l hl => L.clos_e hl, fun k hk => hC.keeps.block k hk owned_none⟩
end

abbrev tBld : TypeId := 84
set_option maxHeartbeats 2000000 in
theorem bld_start {w0 : World} {m0 : Mem} {F0 : Home} {Q : Exit → St → Prop} {c : Code} {i1 i2 : Nat} {o1 o2 o3 o4 o5 : Oper} {e : ByteArray} {sz : Nat} {xs : List (List L)} (hl : xs.length ≤ 1048576)
    (h1 : o1.op = .alloc tBld ∧ o1.dst = some 3 ∧ o1.guard = none) (h2 : o2.op = .move (.tmp 0) ∧ o2.dst = some 6 ∧ o2.guard = none)
    (h3 : o3.op = .call { callee := .builtin .len, args := #[.tmp 6], argTypes := #[28] } ∧ o3.dst = some 7 ∧ o3.guard = none)
    (h4 : o4.op = .call { callee := .value (.func 39), args := #[.tmp 7], argTypes := #[3] } ∧ o4.dst = some 8 ∧ o4.guard = none)
    (h5 : o5.op = .call { callee := .value (.func 38), args := #[.tmp 3, .tmp 8], argTypes := #[tBld, 9] } ∧ o5.dst = some 9 ∧ o5.guard = none)
    (H : AWP Tryd.prog w0 m0 F0 c Q ⟨38, [(0, .v (.one (.sl sz xs))), (3, .v (.one (.ptr 3 0)))], [(3, [.ptr 3 0, .byt tB (Lib.itoa xs.length)])], []⟩) :
    AWP Tryd.prog w0 m0 F0 (.seq (.region i1 #[o1] false) (.seq (.region i2 #[o2, o3, o4, o5] false) c)) Q ⟨38, [(2, .v (.one (.str e))), (0, .v (.one (.sl sz xs)))], [], []⟩ := by
  intro a w ⟨m, ω, hC⟩
  refine wp_seq (wp_regionX (l := [o1]) ⟨h1.2.2, ?_⟩)
  -- the new builder
  have hT : tiOk Tryd.prog tBld _ = true := tyOk tBld _ rfl
  obtain ⟨inf, z, g1, g2, g3, _⟩ := (tiFacts hT).zero _ rfl
  have hz : z.cells = #[.pointer none, .slice none 0 0] := by
    have e1 : (Tryd.prog.info? tBld).map (·.zero) = some (some (.agg #[.pointer none, .slice none 0 0])) := by kernel_rfl
    rw [g1] at e1
    have e2 : some z = some (.agg #[.pointer none, .slice none 0 0]) := g2.symm.trans (Option.some.inj e1)
    rw [Option.some.inj e2]
    rfl
  have hrun := run_alloc (P := Tryd.prog) (a := a) (w := w) h1.1 g1 g2
  refine gives_of_run (R := fun v w' => v = .pointer (some ⟨w.heap.size, 0, none⟩) ∧ w' = w.alloc (.cells z.cells tBld (0, 0))) hrun ⟨rfl, rfl⟩ _ _ fun v w1 ⟨hv, hw1⟩ => ?_
  obtain ⟨ω1, hC1, hb1⟩ := hC.newBox 3 (by show 3 < 38; decide) z.cells tBld [.nilp, .nil 1] (by rw [hz]; rfl) fun j l hj => by
    rw [hz]
    match j, hj with
    | 0, hj => simp only [List.getElem?_cons_zero, Option.some.injEq] at hj; subst hj; exact ⟨_, rfl, Rep.nilp⟩
    | 1, hj => simp only [List.getElem?_cons_succ, List.getElem?_cons_zero, Option.some.injEq] at hj; subst hj; exact ⟨_, rfl, Rep.nil _⟩
    | k + 2, hj => simp at hj
  rw [← hw1] at hC1
  have hblk : w1.heap[ω1.box 3]? = some (.cells #[.pointer none, .slice none 0 0] tBld (0, 0)) := by
    rw [hw1, hb1, hz]
    exact heap_alloc_new w _
  clear hrun hw1
  have hC2' := hC1.put (d := 3) (v := v) (x := .v (.one (.ptr 3 0))) (by show 3 < 38; decide) (by rw [hv]; show _ = _; rw [hb1])
  have hC2 : CI Tryd.prog w0 m0 F0 ⟨38, [(3, .v (.one (.ptr 3 0))), (0, .v (.one (.sl sz xs)))], [(3, [.nilp, .nil 1])], []⟩ (a.put (some 3) v) w1 m ω1 := by
    exact hC2'.weaken rfl (allIn_look ⟨rfl, rfl, trivial⟩) (allIn_look ⟨rfl, trivial⟩) (fun t x ht => by cases ht)
  clear hC2' hC1
  rw [h1.2.1]
  refine wp_seq (wp_regionX (l := [o2, o3, o4, o5]) ⟨h2.2.2, ?_⟩)
  -- the row, its length
  obtain ⟨_, k2⟩ := givesA_move (P := Tryd.prog) (T := TT) (o := o2) h2.1 hC2 (y := .v (.one (.sl sz xs))) rfl
  obtain ⟨v2, m2, r2, hC3, a2⟩ := k2 (by simp [plainOp, h2.1])
  refine gives_of_run (R := fun v w' => v = v2 ∧ w' = w1) r2 ⟨rfl, rfl⟩ _ _ fun v' w' ⟨e1, e2⟩ => ?_
  rw [e1, e2]
  clear e1 e2
  rw [h2.2.1]
  have hC4 := hC3.put (d := 6) (by show 6 < 38; decide) a2
  refine ⟨h3.2.2, ?_⟩
  obtain ⟨_, k3⟩ := givesA_len (P := Tryd.prog) (T := TT) (o := o3) h3.1 (tyOk 28 _ rfl) hC4 (l := .sl sz xs) rfl rfl rfl
  obtain ⟨v3, m3, r3, hC5, a3⟩ := k3 (by simp [plainOp, h3.1])
  refine gives_of_run (R := fun v w' => v = v3 ∧ w' = w1) r3 ⟨rfl, rfl⟩ _ _ fun v' w' ⟨e1, e2⟩ => ?_
  rw [e1, e2]
  clear e1 e2
  rw [h3.2.1]
  have hC6 := hC5.put (d := 7) (by show 7 < 38; decide) a3
  -- the numeral
  refine ⟨h4.2.2, ?_⟩
  refine gives_callK (T := TT) h4.1 hC6 (f := 39) (xs := [.one (.int .i64 xs.length)]) rfl (itoa_sat xs.length (by omega) (by omega)) _ _ fun v4 w4 ⟨m4, hC7, a4, hk⟩ => ?_
  rw [h4.2.1]
  have hC8 := hC7.put (d := 8) (by show 8 < 38; decide) a4
  have hlt : ω1.box 3 < w1.heap.size := by
    rcases Nat.lt_or_ge (ω1.box 3) w1.heap.size with h' | h'
    · exact h'
    · rw [Array.getElem?_eq_none h'] at hblk; cases hblk
  have hblk4 := (hk _ hlt).trans hblk
  -- the first write
  refine ⟨h5.2.2, ?_⟩
  have hv4 : v4 = .string (itoaB xs.length) := erep_str' (ω := ω1) a4
  have hrun : ∀ aa : Act, aa.eval (.tmp 3) = .pointer (some ⟨ω1.box 3, 0, none⟩) → aa.eval (.tmp 8) = .string (itoaB xs.length) → (execOp aa.eval o5).run Tryd.prog w4 = (callFunc 38 #[.pointer (some ⟨ω1.box 3, 0, none⟩), .string (itoaB xs.length)]).run Tryd.prog w4 := by
    intro aa q1 q2
    have qf : aa.eval (.func 38) = .func (.func 38) #[] #[] := rfl
    unfold execOp
    simp only [h5.1, qf, resolve, Deferred.ofValue, Sem.run_bind, Sem.run_pure, Result.andThen_ok, invoke, List.map_toArray, List.map_cons, List.map_nil, q1, q2]
    congr 2
  have hsz : (itoaB xs.length).size = (Lib.itoa xs.length).length := by
    show (itoaB xs.length).data.size = _
    rw [← Array.length_toList]
    simp [itoaB]
  have hws := (Any.ws_fresh Tryd.bld166 Tryd.bldX (ω1.box 3) (.slice none 0 0) 0 [] (itoaB xs.length) w4 hblk4 ⟨rfl, .inl ⟨rfl, rfl⟩⟩ (by simp [Value.ownBlock]) (by rw [hsz]; have := Lib.itoa_length_le xs.length (by omega) (by omega); omega))
  have e0 : ([] : List Value) ++ Lib.strCells (itoaB xs.length) = Lib.byteCells (Lib.itoa xs.length) := by simp [strCells_bytes, itoaB]
  rw [e0] at hws
  have hcr := ws_call (R := fun v w' => v = .tuple #[.int .i64 (itoaB xs.length).size, .nilIface] ∧ ∃ v', w'.heap[ω1.box 3]? = some (.cells #[.pointer (some ⟨ω1.box 3, 0, none⟩), v'] tBld (0, 0)) ∧ BytesAt w' tB v' (0 + (itoaB xs.length).size) (Lib.byteCells (Lib.itoa xs.length)) ∧ v'.ownBlock ≠ some (ω1.box 3) ∧ Moved w4 w' (.slice none 0 0) v' ∧ KeptBut (fun k => k = ω1.box 3 ∨ (Value.slice none 0 0).ownBlock = some k) w4 w')
    Tryd.func38 rfl (by kernel_rfl) (hws.mono fun en w' ⟨he, h⟩ => ⟨_, he, rfl, h⟩)
  refine gives_of_callsR (hrun _ ?_ ?_) hcr _ _ fun v5 w5 ⟨hv5, v', k1, k2, k3, k4, k5⟩ => ?_
  · exact hC8.env 3 (.v (.one (.ptr 3 0))) rfl
  · exact erep_str' (ω := ω1) (hC8.env 8 (.v (.one (.str (itoaB xs.length)))) rfl)
  rw [h5.2.1]
  obtain ⟨_, _, _, _, hf3, _⟩ := hC8.box 3 [.nilp, .nil 1] rfl
  obtain ⟨ω', hC9, q2, q3⟩ := bld_after hC8 (id := 3) (ls0 := [.nilp, .nil 1]) rfl hf3 (fun k hk => by cases hk) k1 k2 k3 k4 k5
  have hC10 := hC9.put (d := 9) (by show 9 < 38; decide) (hv5 ▸ arep_ws (m := m4) (ω := ω') _)
  refine H _ _ (Conc.le ⟨m4, ω', hC10⟩ ⟨rfl, allIn_look ⟨rfl, rfl, trivial⟩, allIn_look ⟨rfl, trivial⟩, fun t x ht => by cases ht⟩)
end Go.Bw

namespace Go.Bw
open Go.Proofs
attribute [local go_sem ↓] VOps_nil VOps_cons VOp_callJ VVal_callH VOps_guard GOn_tt GOn_ff GOn_tf GOn_ft GOn_not GOn_none HOn_none HOn_tt HOn_ff HOn_tf HOn_ft HOn_not VHead_nil VHead_cons VHead_guard VVal_move VVal_assign VVal_pickE pickK_true pickK_false VVal_not VVal_neg negK_int VVal_load loadK_fz loadK_ptr loadK_eptr VVal_fieldAddr VVal_field VVal_indexAddr idxK_sl idxK_ref VVal_index indexK_str VVal_extract VVal_binOp binK_one binK_agg VVal_build VVal_buildSlice VVal_makeFunc VVal_slice sliceK_str sliceK_sl sliceK_nil sliceK_ref VVal_slice3 VVal_nilCheck VVal_convert convKk_int convKk_str VVal_len VVal_max VVal_min VOp_assign assignK_int assignK_bool assignK_str assignK_clo assignK_sl assignK_nil assignK_ref assignK_agg assignK_fz assignK_ptr assignK_eptr assignK_any VOp_box VOp_alloc VOp_store storeK_ptr storeK_eptr VOp_buildSlice VOp_append appK_rr appK_rs appK_rn appK_ri appK_nr appK_ns appK_nn appK_ni appStd_eq VOp_copy copyK_ref VOp_clear clearK_ref VOp_cap VOp_eqNil VOp_move VOp_pick VOp_not VOp_neg VOp_load VOp_fieldAddr VOp_field VOp_indexAddr VOp_index VOp_extract VOp_binTmp VOp_binInt VOp_binStr VOp_binPtr VOp_build VOp_makeFunc VOp_slice VOp_nilCheck VOp_convert VOp_len VOp_max VOp_min mO_some mT_some pk_some pk_none look_cons del_cons
attribute [local go_sem] guardB gOf int_bne beq_true beq_false Bool.not_not gSlot pickK_true pickK_false negK_int loadK_fz loadK_ptr loadK_eptr idxK_sl idxK_ref indexK_str binK_one binK_agg sliceK_str sliceK_sl sliceK_nil sliceK_ref convKk_int convKk_str maxL minL assignK_int assignK_bool assignK_str assignK_clo assignK_sl assignK_nil assignK_ref assignK_agg assignK_fz assignK_ptr assignK_eptr assignK_any nilRow_eq takeRow_eq appended_eq storeK_ptr storeK_eptr store_mk appIn_eq appMk_eq marked_eq ovOut_nil ovOut_cons ovIn_nil ovIn_cons padRow_eq ysC capK_nil capK_ref ioSt_mk outB_nil outR_nil outB outR inB_nil inB_cons inR_nil inR_cons L.kl L.kl0 L.ids L.ids0 Option.getD_some evalO constA mO_some mT_some put_mk putO_some putO_none okD_some okD_none pk_some pk_none look_nil del_nil sput noBox_mk noRow_mk newBox_eq newRow0_eq St.killRow RowC.kill rowMap_mk rowOf ovAll ovAdd ovDel ovGet ovShift dstOf ysOf overlay_nil overlay_nil' overlay A.map V.map L.noPtr L.noPtr0 L.noRow L.noRow0 L.peek L.norm L.flat clos_int clos_bool clos_str clos_sl clos_nil clos_any clos_fz L.clos L.isFz L.kd moveL fieldOff eqCells eqCell eqOp oneOf boolOf intOfA tupOf vOf aggOf isPtrLike isSlice lenKind lenL nL elemTI loadV asV binL intBin intDivL shrL boolBin strBin strAdd ptrNil boundN partCells fillL placesOf setL chunks repL capsOf capL callOf argsOf frzV_int frzV_bool frzV_str frzV_sl frzV_nil frzV_fz frzV_any frzV_own frzV_clo frzV_ref frzV_eptr frzV_ptr frzRow_nil frzRow_ov frzRs_nil frzRs_cons frzCs_nil frzCs_cons frzO_some frzO_none frzN_int frzN_bool frzN_str frzN_sl frzN_nil frzN_any frzN_own List.map_cons List.map_nil List.cons_append List.nil_append List.append_nil List.length_cons List.length_nil List.length_map List.length_append List.headD_cons List.tail_cons List.getElem?_cons_zero List.getElem?_cons_succ List.drop_zero List.drop_succ_cons List.drop_nil List.take_succ_cons List.take_zero List.take_nil List.take_length List.filter_cons List.filter_nil List.elem_cons List.elem_nil List.all_cons List.all_nil Option.bind_some Option.map_some Option.some.injEq bne_self_eq_false beq_self_eq_true if_true if_false Bool.false_eq_true true_and and_true and_self Nat.zero_add Nat.add_zero Nat.zero_le Int.toNat_natCast Int.toNat_zero Option.isSome_some List.getElem?_toArray decide_true decide_false ge_iff_le gt_iff_lt Bool.not_true Bool.not_false Nat.le_refl Bool.and_true Bool.true_and Bool.and_false Bool.false_and eVal eRow eRow1 eRows eInt1 eInts eCol eCols eTbl eTbls eFK eFKs eCon eCons eSch eRel eInst eChg eChgs szOf getD_map_lt wrap_nat wrap_in List.take_of_length_le frz_eVal frz_eRow1 frz_eInt1 frz_eCol frz_eTbl frz_eFK frz_eCon frz_eRel frz_eChg noOwn_nil noOwn_cons noOwn_append L.isOwn noOwn_eVal noOwn_eRow1 noOwn_eInt1 noOwn_eCol noOwn_eTbl noOwn_eFK noOwn_eCon noOwn_eRel noOwn_eChg convK_2 convK_3 convK_5 convK_12 convK_21 convK_57 convK_155 convK_162 convK_166 TT_2 TT_3 TT_4 TT_5 TT_9 TT_12 TT_13 TT_21 TT_22 TT_23 TT_24 TT_25 TT_26 TT_27 TT_28 TT_38 TT_39 TT_40 TT_41 TT_42 TT_45 TT_46 TT_47 TT_48 TT_49 TT_50 TT_51 TT_52 TT_54 TT_55 TT_56 TT_57 TT_65 TT_66 TT_82 TT_83 TT_84 TT_100 TT_101 TT_118 TT_155 TT_162 TT_166 boolTy_4 eqK_46 eqK_50 eqK_52
attribute [local congr] VOps.congr VHead.congr VOp.congr VVal.congr pk.congr assignK.congr appK.congr appStd.congr copyK.congr clearK.congr storeK.congr loadK.congr idxK.congr sliceK.congr indexK.congr binK.congr convKk.congr
def bId : ByteArray := ⟨#[105, 100]⟩
def bName : ByteArray := ⟨#[110, 97, 109, 101]⟩
def bPeople : ByteArray := ⟨#[112, 101, 111, 112, 108, 101]⟩
def peopleT : Tbl := ⟨bPeople, [⟨bId, 1, false⟩, ⟨bName, 3, true⟩], [0]⟩

theorem people_sat : Sat Tryd.prog 30 [] (.v (.agg (eTbl peopleT))) := by
  refine sat_of_body tyOk Tryd.func30 rfl (by kernel_rfl) ⟨Nat.le_of_ble_eq_true rfl, Nat.le_of_ble_eq_true rfl⟩ fun w0 m0 F0 => ?_
  simp only [Tryd.ntmps30, envOf, Nat.reduceAdd]
  repeat' (first | ((first | with_reducible refine qV tyOk fun K hK => ?_ | (with_reducible first | refine qG ?_ | refine qH ?_ | refine qP ?_ | refine qGx ?_ | refine qHx ?_ | refine qPx ?_) | ((with_reducible first | refine qS ?_ ?_ | refine qT ?_ ?_ | refine qU ?_ ?_) <;> (intro h; try simp only [NM] at h)) | with_reducible refine yD tyOk mixed 6 (by kernel_rfl) fun K hK => ?_) <;> simp -dsimp (disch := (first | omega | (simp only [LN]; omega))) only [go_sem, ↓reduceIte, seval]) | ((with_reducible refine hK _ ?_); clear hK K) | (with_reducible first | refine qA ?_ | refine qB ?_ | refine qC ?_ | refine qD ?_ | refine qE ?_ | refine qF ?_ | refine qL ?_ | refine qM ?_ | refine qN ?_ | refine qO ?_ | refine qQ ?_) | refine qR rfl ?_ | (with_reducible refine AI ?_) | ((with_reducible refine qW (T := TT) (b := ?_) ?_ ?_); rotate_left; exact rfl) | (with_reducible first | refine qX ?_ | refine qY ?_ | refine qZ ?_) | (with_reducible first | refine qI ?_ | refine qIx ?_ | fail) | ((with_reducible refine yS ?_ ?_) <;> (intro h; try simp only [NM] at h)))
  simp -dsimp (disch := (first | omega | (simp only [LN]; omega))) only [retQ, Tryd.results30, resVals, cellRV, resOf, St.rest, St.freeze, RT, go_sem, ↓reduceIte, seval]
  first | done | rfl

def cellB (v : Val) : ByteArray := (((((⟨#[124]⟩ : ByteArray) ++ itoaB v.kind ++ ⟨#[44]⟩) ++ itoaB v.int ++ ⟨#[44]⟩) ++ itoaB (v.text.size : Int)) ++ ⟨#[44]⟩) ++ v.text
def encL (r : Row) (k : Nat) : List UInt8 := Lib.itoa r.length ++ ((r.take k).map fun v => (cellB v).data.toList).flatten
def encB (r : Row) : ByteArray := ⟨(encL r r.length).toArray⟩
structure ValFits (v : Val) : Prop where
  k0 : -9223372036854775808 ≤ v.kind
  k1 : v.kind ≤ 9223372036854775807
  i0 : -9223372036854775808 ≤ v.int
  i1 : v.int ≤ 9223372036854775807
  t : v.text.size ≤ 1048576
structure RowFits (r : Row) : Prop where
  n : r.length ≤ 1048576
  v : ∀ v ∈ r, ValFits v
theorem itoaB_size (n : Int) (h0 : -9223372036854775808 ≤ n) (h1 : n ≤ 9223372036854775807) : (itoaB n).size ≤ 21 := by
  have e : (itoaB n).size = (Lib.itoa n).length := by
    show (itoaB n).data.size = _
    rw [← Array.length_toList]
    simp [itoaB]
  rw [e]
  exact Lib.itoa_length_le n h0 h1
theorem cellB_size {v : Val} (h : ValFits v) : (cellB v).size ≤ 1048643 := by
  have h1 := itoaB_size v.kind h.k0 h.k1
  have h2 := itoaB_size v.int h.i0 h.i1
  have h3 := itoaB_size (v.text.size : Int) (by omega) (by have := h.t; omega)
  have h4 := h.t
  have b1 : (⟨#[124]⟩ : ByteArray).size = 1 := rfl
  have b2 : (⟨#[44]⟩ : ByteArray).size = 1 := rfl
  simp only [cellB, ByteArray.size_append, b1, b2]
  omega
theorem encL_zero (r : Row) : encL r 0 = Lib.itoa r.length := by simp [encL]
theorem encL_succ {r : Row} {k : Nat} (h : k < r.length) : encL r (k + 1) = encL r k ++ (cellB r[k]).data.toList := by
  rw [encL, take_snoc r k h, List.map_append, List.flatten_append, encL]
  simp only [List.map_cons, List.map_nil, List.flatten_cons, List.flatten_nil, List.append_nil, List.append_assoc]
theorem encL_le {r : Row} (h : RowFits r) : ∀ k, k ≤ r.length → (encL r k).length ≤ 21 + k * 1048643
  | 0, _ => by
    rw [encL_zero]
    have := Lib.itoa_length_le r.length (by omega) (by have := h.n; omega)
    omega
  | k + 1, hk => by
    rw [encL_succ (by omega), List.length_append]
    have h1 := encL_le h k (by omega)
    have h2 := cellB_size (h.v r[k] (List.getElem_mem _))
    have h3 : (cellB r[k]).data.toList.length = (cellB r[k]).size := Array.length_toList
    omega
theorem itoa_ne (n : Int) : Lib.itoa n ≠ [] := by
  unfold Lib.itoa
  split
  · simp
  · unfold Lib.decDigits
    split <;> simp
theorem encL_ne (r : Row) (k : Nat) : encL r k ≠ [] := by
  unfold encL
  intro h
  exact itoa_ne _ (List.append_eq_nil_iff.1 h).1
theorem okIds_ptr (σb σr : Ids) (i o : Nat) : okIds σb σr (.ptr i o) = (look σb i).isSome := rfl
theorem okIds_byt (σb σr : Ids) (t : TypeId) (l : List UInt8) : okIds σb σr (.byt t l) = true := rfl
set_option maxHeartbeats 8000000 in
theorem encode_sat (r : Row) (hr : RowFits r) : Sat Tryd.prog 14 [.one (eRow r)] (.v (.one (.str (encB r)))) := by
  have hn := hr.n
  refine sat_of_body tyOk Tryd.func14 rfl (by kernel_rfl) ⟨Nat.le_of_ble_eq_true rfl, Nat.le_of_ble_eq_true rfl⟩ fun w0 m0 F0 => ?_
  simp only [Tryd.ntmps14, envOf, Nat.reduceAdd]
  refine qA ?_
  refine qV tyOk fun K hK => ?_
  simp -dsimp (disch := (first | omega | (simp only [LN]; omega))) only [go_sem, ↓reduceIte, seval]
  refine hK _ (qB ?_)
  clear hK K
  refine bld_start (by simpa using hn) ⟨rfl, rfl, rfl⟩ ⟨rfl, rfl, rfl⟩ ⟨rfl, rfl, rfl⟩ ⟨rfl, rfl, rfl⟩ ⟨rfl, rfl, rfl⟩ ?_
  repeat' (first | ((first | with_reducible refine qV tyOk fun K hK => ?_ | (with_reducible first | refine qG ?_ | refine qH ?_ | refine qP ?_ | refine qGx ?_ | refine qHx ?_ | refine qPx ?_) | ((with_reducible first | refine qS ?_ ?_ | refine qT ?_ ?_ | refine qU ?_ ?_) <;> (intro h; try simp only [NM] at h))) <;> simp -dsimp (disch := (first | omega | (simp only [LN]; omega))) only [go_sem, ↓reduceIte, seval]) | ((with_reducible refine hK _ ?_); clear hK K) | (with_reducible first | refine qA ?_ | refine qB ?_ | refine qC ?_ | refine qD ?_ | refine qE ?_ | refine qF ?_ | refine qL ?_ | refine qM ?_ | refine qN ?_ | refine qO ?_ | refine qQ ?_) | refine qR rfl ?_ | (with_reducible refine AI ?_) | ((with_reducible refine qW (T := TT) (b := ?_) ?_ ?_); rotate_left; exact rfl) | (with_reducible first | refine qX ?_ | refine qY ?_ | refine qZ ?_) | (with_reducible first | refine qI ?_ | refine qIx ?_ | fail) | ((with_reducible refine yS ?_ ?_) <;> (intro h; try simp only [NM] at h)))
  refine AWP.loop (ι := {k : Nat // k ≤ r.length}) (fun k => ⟨38, [(3, .v (.one (.ptr 3 0))), (10, .v (.one (eRow r))), (11, .v (oI r.length)), (12, .v (oI k.1))], [(3, [.ptr 3 0, .byt tB (encL r k.1)])], []⟩) (fun k => r.length - k.1) ⟨0, Nat.zero_le _⟩ ?_ fun ⟨k, hkl⟩ => ?_
  · refine St.le_mk ?_ ?_ ?_ <;> simp only [LE, EN, Nat.reduceEqDiff, reduceIte, Nat.reduceSub, encL_zero]
  simp only
  rcases Nat.lt_or_ge k r.length with hc | hc
  · have hv := hr.v r[k] (List.getElem_mem _)
    have hs := cellB_size hv
    have hL := encL_le hr k hkl
    have ws := writeString_satM (encL r k) (cellB r[k]) (by omega)
    have es := encL_succ hc
    have i1 := itoa_sat r[k].kind hv.k0 hv.k1
    have i2 := itoa_sat r[k].int hv.i0 hv.i1
    have i3 := itoa_sat (r[k].text.size : Int) (by omega) (by have := hv.t; omega)
    have z1 := itoaB_size r[k].kind hv.k0 hv.k1
    have z2 := itoaB_size r[k].int hv.i0 hv.i1
    have z3 := itoaB_size (r[k].text.size : Int) (by omega) (by have := hv.t; omega)
    have z4 := hv.t
    have b1 : (⟨#[124]⟩ : ByteArray).size = 1 := rfl
    have b2 : (⟨#[44]⟩ : ByteArray).size = 1 := rfl
    unfold cellB at ws
    repeat' (first | ((first | ((fail_if_success (refine AWP.isRegion 6 ?_)); (with_reducible refine qV tyOk fun K hK => ?_)) | (with_reducible first | refine qG ?_ | refine qH ?_ | refine qP ?_ | refine qGx ?_ | refine qHx ?_ | refine qPx ?_) | ((with_reducible first | refine qS ?_ ?_ | refine qT ?_ ?_ | refine qU ?_ ?_) <;> (intro h; try simp only [NM] at h))) <;> simp -dsimp (disch := (first | omega | (simp only [LN]; omega))) only [go_sem, ↓reduceIte, seval]) | ((with_reducible refine hK _ ?_); clear hK K) | (with_reducible first | refine qA ?_ | refine qB ?_ | refine qC ?_ | refine qD ?_ | refine qE ?_ | refine qF ?_ | refine qL ?_ | refine qM ?_ | refine qN ?_ | refine qO ?_ | refine qQ ?_) | refine qR rfl ?_ | (with_reducible refine AI ?_) | ((with_reducible refine qW (T := TT) (b := ?_) ?_ ?_); rotate_left; exact rfl) | (with_reducible first | refine qX ?_ | refine qY ?_ | refine qZ ?_) | (with_reducible first | refine qI ?_ | refine qIx ?_ | fail) | ((with_reducible refine yS ?_ ?_) <;> (intro h; try simp only [NM] at h)))
    refine AWP.drawX tyOk mixed [(0, 2), (5, 2), (10, 3), (16, 2)] [(2, [(3, 2)], [(5, 2), (10, 3), (16, 2)]), (7, [(8, 2)], [(3, 2), (10, 3), (16, 2)]), (13, [(14, 2), (18, 1)], [(3, 2), (8, 2), (16, 2)]), (19, [], [])] [2, 7, 13, 19] 8 (by decide) (by kernel_rfl) (by kernel_rfl) (by kernel_rfl) (by kernel_rfl) fun K hK => ?_
    simp only [segx_nil, segx_cons, segs, List.drop_succ_cons, List.drop_zero, List.take_succ_cons, List.take_zero, List.getElem?_cons_zero, List.getElem?_cons_succ, List.cons_append, List.nil_append, List.append_nil] at hK ⊢
    simp -dsimp (disch := (first | omega | (simp only [LN]; omega))) only [go_sem, ↓reduceIte, seval, ByteArray.size_append, b1, b2]
    repeat' (first | ((first | with_reducible refine qV tyOk fun K hK => ?_ | (with_reducible first | refine qG ?_ | refine qH ?_ | refine qP ?_ | refine qGx ?_ | refine qHx ?_ | refine qPx ?_) | ((with_reducible first | refine qS ?_ ?_ | refine qT ?_ ?_ | refine qU ?_ ?_) <;> (intro h; try simp only [NM] at h)) | ((with_reducible refine CallJ.is ?_); refine CallJ.io [(1000, 3)] [] [(1000, 3)] [] [] [] [3, 3] [] (ws) rfl ⟨rfl, rfl, rfl, rfl⟩ ?_ ?_ ?_; (focus (simp -dsimp (disch := (first | omega | (simp only [LN]; omega))) only [go_sem, ↓reduceIte, seval, ByteArray.size_append, b1, b2, okIds_ptr, okIds_byt, dropL_nil, dropL_nil', dropL_cons]; done)); (focus (simp -dsimp (disch := (first | omega | (simp only [LN]; omega))) only [go_sem, ↓reduceIte, seval, ByteArray.size_append, b1, b2, okIds_ptr, okIds_byt, dropL_nil, dropL_nil', dropL_cons]; done))) | ((with_reducible refine CallJ.is ?_); (first | refine CallJ.pure (i1) ?_ | refine CallJ.pure (i2) ?_ | refine CallJ.pure (i3) ?_ | ((apply CallJ.lentI); (focus (simp -dsimp (disch := (first | omega | (simp only [LN]; omega))) only [go_sem, ↓reduceIte, seval, ByteArray.size_append, b1, b2, okIds_ptr, okIds_byt, dropL_nil, dropL_nil', dropL_cons]; rfl)); (focus (first | exact (i1) | exact (i2) | exact (i3)))))) | ((with_reducible refine CallH.is ?_); (first | refine CallH.intro (i1) ?_ | refine CallH.intro (i2) ?_ | refine CallH.intro (i3) ?_))) <;> simp -dsimp (disch := (first | omega | (simp only [LN]; omega))) only [go_sem, ↓reduceIte, seval, ByteArray.size_append, b1, b2, okIds_ptr, okIds_byt, dropL_nil, dropL_nil', dropL_cons]) | ((with_reducible refine hK _ ?_); clear hK K) | (with_reducible first | refine qA ?_ | refine qB ?_ | refine qC ?_ | refine qD ?_ | refine qE ?_ | refine qF ?_ | refine qL ?_ | refine qM ?_ | refine qN ?_ | refine qO ?_ | refine qQ ?_) | refine qR rfl ?_ | ((with_reducible refine VCy.intro fun K0 hK0 => ?_)) | ((with_reducible refine VCy.fin ?_); (refine hK0 _ ?_); clear hK0 K0) | (with_reducible first | refine VCy.quiet ?_ | refine VCy.none ?_) | ((with_reducible first | refine VCy.some fun K hK => ?_ | refine VCy.step fun K hK => ?_); simp -dsimp (disch := (first | omega | (simp only [LN]; omega))) only [go_sem, ↓reduceIte, seval, ByteArray.size_append, b1, b2, okIds_ptr, okIds_byt, dropL_nil, dropL_nil', dropL_cons]) | ((with_reducible refine VCy.keep ?_ ?_); focus ((simp -dsimp (disch := (first | omega | (simp only [LN]; omega))) only [go_sem, ↓reduceIte, seval, Stable_cons, Stable_nil, sameA_some, sameA_none, ByteArray.size_append, b1, b2, okIds_ptr, okIds_byt, dropL_nil, dropL_nil', dropL_cons]); first | done | with_reducible assumption | omega | (repeat' with_reducible refine And.intro ?_ ?_) <;> first | with_reducible rfl | with_reducible assumption | omega)) | (with_reducible refine AI ?_) | ((with_reducible refine qW (T := TT) (b := ?_) ?_ ?_); rotate_left; exact rfl) | (with_reducible first | refine qX ?_ | refine qY ?_ | refine qZ ?_) | (with_reducible first | refine qI ?_ | refine qIx ?_ | fail) | ((with_reducible refine yS ?_ ?_) <;> (intro h; try simp only [NM] at h)))
    refine ⟨⟨k + 1, by omega⟩, by simp only; omega, ?_⟩
    have ef : cellB r[k] = (((((⟨#[124]⟩ : ByteArray) ++ itoaB r[k].kind ++ ⟨#[44]⟩) ++ itoaB r[k].int ++ ⟨#[44]⟩) ++ itoaB (r[k].text.size : Int)) ++ ⟨#[44]⟩) ++ r[k].text := rfl
    rw [← ef]
    refine St.le_mk ?_ ?_ ?_ <;> simp only [LE, EN, Nat.reduceEqDiff, reduceIte, Nat.reduceSub, es]
  · have hk : k = r.length := by omega
    subst hk
    repeat' (first | ((first | with_reducible refine qV tyOk fun K hK => ?_ | (with_reducible first | refine qG ?_ | refine qH ?_ | refine qP ?_ | refine qGx ?_ | refine qHx ?_ | refine qPx ?_) | ((with_reducible first | refine qS ?_ ?_ | refine qT ?_ ?_ | refine qU ?_ ?_) <;> (intro h; try simp only [NM] at h)) | ((with_reducible refine CallJ.is ?_); refine CallJ.io [(1000, 3)] [] [] [] [3] [] [3] [] (string_satM (encL r r.length) (encL_ne r r.length)) rfl ⟨rfl, rfl, rfl, rfl⟩ ?_ ?_ ?_; (focus (simp -dsimp (disch := (first | omega | (simp only [LN]; omega))) only [go_sem, ↓reduceIte, seval, okIds_ptr, okIds_byt, dropL_nil, dropL_nil', dropL_cons]; done)); (focus (simp -dsimp (disch := (first | omega | (simp only [LN]; omega))) only [go_sem, ↓reduceIte, seval, okIds_ptr, okIds_byt, dropL_nil, dropL_nil', dropL_cons]; done)))) <;> simp -dsimp (disch := (first | omega | (simp only [LN]; omega))) only [go_sem, ↓reduceIte, seval, okIds_ptr, okIds_byt, dropL_nil, dropL_nil', dropL_cons]) | ((with_reducible refine hK _ ?_); clear hK K) | (with_reducible first | refine qA ?_ | refine qB ?_ | refine qC ?_ | refine qD ?_ | refine qE ?_ | refine qF ?_ | refine qL ?_ | refine qM ?_ | refine qN ?_ | refine qO ?_ | refine qQ ?_) | refine qR rfl ?_ | (with_reducible refine AI ?_) | ((with_reducible refine qW (T := TT) (b := ?_) ?_ ?_); rotate_left; exact rfl) | (with_reducible first | refine qX ?_ | refine qY ?_ | refine qZ ?_) | (with_reducible first | refine qI ?_ | refine qIx ?_ | fail) | ((with_reducible refine yS ?_ ?_) <;> (intro h; try simp only [NM] at h)))
    simp -dsimp (disch := (first | omega | (simp only [LN]; omega))) only [retQ, Tryd.results14, resVals, cellRV, resOf, St.rest, St.freeze, RT, go_sem, ↓reduceIte, seval]
    rfl

def cat (x : ByteArray) (l : List ByteArray) : ByteArray := l.foldl (· ++ ·) x
theorem cat_succ {α : Type} (x : ByteArray) (f : α → ByteArray) (l : List α) (k : Nat) (h : k < l.length) : cat x ((l.take (k + 1)).map f) = cat x ((l.take k).map f) ++ f l[k] := by
  rw [take_snoc l k h, List.map_append]
  simp [cat]
theorem cat_all {α : Type} (x : ByteArray) (f : α → ByteArray) (l : List α) (k : Nat) (h : l.length ≤ k) : cat x ((l.take k).map f) = cat x (l.map f) := by
  rw [List.take_of_length_le h]
theorem cat_nil (x : ByteArray) : cat x [] = x := rfl
theorem cat_size {α : Type} (f : α → ByteArray) (B : Nat) : ∀ (l : List α) (x : ByteArray), (∀ y ∈ l, (f y).size ≤ B) → (cat x (l.map f)).size ≤ x.size + l.length * B
  | [], x, _ => by simp [cat]
  | y :: l, x, h => by
    have h1 := cat_size f B l (x ++ f y) fun z hz => h z (by simp [hz])
    have h2 := h y (by simp)
    show (cat (x ++ f y) (l.map f)).size ≤ _
    rw [ByteArray.size_append] at h1
    rw [List.length_cons, Nat.succ_mul]
    omega
theorem cat_size_take {α : Type} (f : α → ByteArray) (B : Nat) (l : List α) (x : ByteArray) (h : ∀ y ∈ l, (f y).size ≤ B) (k : Nat) (hk : k ≤ l.length) : (cat x ((l.take k).map f)).size ≤ x.size + k * B := by
  have := cat_size f B (l.take k) x fun y hy => h y (List.mem_of_mem_take hy)
  rwa [List.length_take, Nat.min_eq_left hk] at this
def IntB (n : Int) : Prop := -9223372036854775808 ≤ n ∧ n ≤ 9223372036854775807
def sizedB (s : ByteArray) : ByteArray := (itoaB (s.size : Int) ++ (⟨#[58]⟩ : ByteArray)) ++ s
theorem sizedB_size (s : ByteArray) (h : s.size ≤ 1048576) : (sizedB s).size ≤ 1048598 := by
  have h1 := itoaB_size (s.size : Int) (by omega) (by omega)
  have b1 : (⟨#[58]⟩ : ByteArray).size = 1 := rfl
  simp only [sizedB, ByteArray.size_append, b1]
  omega
theorem sized_sat (s : ByteArray) (h : s.size ≤ 1048576) : Sat Tryd.prog 47 [oS s] (.v (oS (sizedB s))) := by
  have h1 := itoaB_size (s.size : Int) (by omega) (by omega)
  have b1 : (⟨#[58]⟩ : ByteArray).size = 1 := rfl
  have i1 := itoa_sat (s.size : Int) (by omega) (by omega)
  refine sat_of_body tyOk Tryd.func47 rfl (by kernel_rfl) ⟨Nat.le_of_ble_eq_true rfl, Nat.le_of_ble_eq_true rfl⟩ fun w0 m0 F0 => ?_
  simp only [Tryd.ntmps47, envOf, Nat.reduceAdd]
  repeat' (first | ((first | with_reducible refine qV tyOk fun K hK => ?_ | (with_reducible first | refine qG ?_ | refine qH ?_ | refine qP ?_ | refine qGx ?_ | refine qHx ?_ | refine qPx ?_) | ((with_reducible first | refine qS ?_ ?_ | refine qT ?_ ?_ | refine qU ?_ ?_) <;> (intro h; try simp only [NM] at h)) | with_reducible refine yD tyOk mixed 6 (by kernel_rfl) fun K hK => ?_ | ((with_reducible refine CallJ.is ?_); (first | refine CallJ.pure (i1) ?_ | ((apply CallJ.lentI); (focus (simp -dsimp (disch := (first | omega | (simp only [LN]; omega))) only [go_sem, ↓reduceIte, seval, ByteArray.size_append, b1]; rfl)); (focus (first | exact (i1)))))) | ((with_reducible refine CallH.is ?_); (first | refine CallH.intro (i1) ?_))) <;> simp -dsimp (disch := (first | omega | (simp only [LN]; omega))) only [go_sem, ↓reduceIte, seval, ByteArray.size_append, b1]) | ((with_reducible refine hK _ ?_); clear hK K) | (with_reducible first | refine qA ?_ | refine qB ?_ | refine qC ?_ | refine qD ?_ | refine qE ?_ | refine qF ?_ | refine qL ?_ | refine qM ?_ | refine qN ?_ | refine qO ?_ | refine qQ ?_) | refine qR rfl ?_ | (with_reducible refine AI ?_) | ((with_reducible refine qW (T := TT) (b := ?_) ?_ ?_); rotate_left; exact rfl) | (with_reducible first | refine qX ?_ | refine qY ?_ | refine qZ ?_) | (with_reducible first | refine qI ?_ | refine qIx ?_ | fail) | ((with_reducible refine yS ?_ ?_) <;> (intro h; try simp only [NM] at h)))
  simp -dsimp (disch := (first | omega | (simp only [LN]; omega))) only [retQ, Tryd.results47, resVals, cellRV, resOf, St.rest, St.freeze, RT, go_sem, ↓reduceIte, seval]
  rfl

structure FkF (f : FK) : Prop where
  table : f.table.size ≤ 1048576
  ref : f.ref.size ≤ 1048576
  n : f.cols.length ≤ 1048576
  cols : ∀ c ∈ f.cols, IntB c
def fkcB (n : Int) : ByteArray := (⟨#[44]⟩ : ByteArray) ++ itoaB n
def fkB (f : FK) : ByteArray := cat (sizedB f.table ++ sizedB f.ref) (f.cols.map fkcB)
theorem fkcB_size {n : Int} (h : IntB n) : (fkcB n).size ≤ 22 := by
  have h1 := itoaB_size n h.1 h.2
  have b1 : (⟨#[44]⟩ : ByteArray).size = 1 := rfl
  simp only [fkcB, ByteArray.size_append, b1]
  omega
theorem fkB_size {f : FK} (h : FkF f) : (fkB f).size ≤ 30000000 := by
  have h1 := cat_size fkcB 22 f.cols (sizedB f.table ++ sizedB f.ref) fun c hc => fkcB_size (h.cols c hc)
  have h2 := sizedB_size _ h.table
  have h3 := sizedB_size _ h.ref
  have h4 := h.n
  rw [ByteArray.size_append] at h1
  unfold fkB
  omega
set_option maxHeartbeats 8000000 in
theorem fkID_sat (f : FK) (h : FkF f) : Sat Tryd.prog 46 [.agg (eFK f)] (.v (oS (fkB f))) := by
  have h2 := sizedB_size _ h.table
  have h3 := sizedB_size _ h.ref
  have hn := h.n
  refine sat_of_body tyOk Tryd.func46 rfl (by kernel_rfl) ⟨Nat.le_of_ble_eq_true rfl, Nat.le_of_ble_eq_true rfl⟩ fun w0 m0 F0 => ?_
  simp only [Tryd.ntmps46, envOf, Nat.reduceAdd]
  repeat' (first | ((first | with_reducible refine qV tyOk fun K hK => ?_ | (with_reducible first | refine qG ?_ | refine qH ?_ | refine qP ?_ | refine qGx ?_ | refine qHx ?_ | refine qPx ?_) | ((with_reducible first | refine qS ?_ ?_ | refine qT ?_ ?_ | refine qU ?_ ?_) <;> (intro h; try simp only [NM] at h)) | with_reducible refine yD tyOk mixed 6 (by kernel_rfl) fun K hK => ?_ | ((with_reducible refine CallJ.is ?_); (first | refine CallJ.pure (sized_sat f.table h.table) ?_ | refine CallJ.pure (sized_sat f.ref h.ref) ?_ | ((apply CallJ.lentI); (focus (simp -dsimp (disch := (first | omega | (simp only [LN]; omega))) only [go_sem, ↓reduceIte, seval, ByteArray.size_append]; rfl)); (focus (first | exact (sized_sat f.table h.table) | exact (sized_sat f.ref h.ref)))))) | ((with_reducible refine CallH.is ?_); (first | refine CallH.intro (sized_sat f.table h.table) ?_ | refine CallH.intro (sized_sat f.ref h.ref) ?_))) <;> simp -dsimp (disch := (first | omega | (simp only [LN]; omega))) only [go_sem, ↓reduceIte, seval, ByteArray.size_append]) | ((with_reducible refine hK _ ?_); clear hK K) | (with_reducible first | refine qA ?_ | refine qB ?_ | refine qC ?_ | refine qD ?_ | refine qE ?_ | refine qF ?_ | refine qL ?_ | refine qM ?_ | refine qN ?_ | refine qO ?_ | refine qQ ?_) | refine qR rfl ?_ | (with_reducible refine AI ?_) | ((with_reducible refine qW (T := TT) (b := ?_) ?_ ?_); rotate_left; exact rfl) | (with_reducible first | refine qX ?_ | refine qY ?_ | refine qZ ?_) | (with_reducible first | refine qI ?_ | refine qIx ?_ | fail) | ((with_reducible refine yS ?_ ?_) <;> (intro h; try simp only [NM] at h)))
  refine AWP.loop (ι := {k : Nat // k ≤ f.cols.length}) (fun k => ⟨27, [(3, .v (oS (cat (sizedB f.table ++ sizedB f.ref) ((f.cols.take k.1).map fkcB)))), (14, .v (.one (eInts f.cols))), (15, .v (oI f.cols.length)), (16, .v (oI k.1))], [], []⟩) (fun k => f.cols.length - k.1) ⟨0, Nat.zero_le _⟩ ?_ fun ⟨k, hkl⟩ => ?_
  · refine St.le_mk ?_ ?_ ?_ <;> simp only [LE, EN, Nat.reduceEqDiff, reduceIte, Nat.reduceSub, cat_nil]
  simp only
  have hs := cat_size_take fkcB 22 f.cols (sizedB f.table ++ sizedB f.ref) (fun c hc => fkcB_size (h.cols c hc)) k hkl
  rw [ByteArray.size_append] at hs
  rcases Nat.lt_or_ge k f.cols.length with hc | hc
  · have hi := h.cols f.cols[k] (List.getElem_mem _)
    have i1 := itoa_sat f.cols[k] hi.1 hi.2
    have z1 := itoaB_size f.cols[k] hi.1 hi.2
    have b1 : (⟨#[44]⟩ : ByteArray).size = 1 := rfl
    have es := cat_succ (sizedB f.table ++ sizedB f.ref) fkcB f.cols k hc
    repeat' (first | ((first | with_reducible refine qV tyOk fun K hK => ?_ | (with_reducible first | refine qG ?_ | refine qH ?_ | refine qP ?_ | refine qGx ?_ | refine qHx ?_ | refine qPx ?_) | ((with_reducible first | refine qS ?_ ?_ | refine qT ?_ ?_ | refine qU ?_ ?_) <;> (intro h; try simp only [NM] at h)) | ((with_reducible refine CallJ.is ?_); (first | refine CallJ.pure (i1) ?_ | ((apply CallJ.lentI); (focus (simp -dsimp (disch := (first | omega | (simp only [LN]; omega))) only [go_sem, ↓reduceIte, seval, ByteArray.size_append, b1]; rfl)); (focus (first | exact (i1)))))) | ((with_reducible refine CallH.is ?_); (first | refine CallH.intro (i1) ?_))) <;> simp -dsimp (disch := (first | omega | (simp only [LN]; omega))) only [go_sem, ↓reduceIte, seval, ByteArray.size_append, b1]) | ((with_reducible refine hK _ ?_); clear hK K) | (with_reducible first | refine qA ?_ | refine qB ?_ | refine qC ?_ | refine qD ?_ | refine qE ?_ | refine qF ?_ | refine qL ?_ | refine qM ?_ | refine qN ?_ | refine qO ?_ | refine qQ ?_) | refine qR rfl ?_ | (with_reducible refine AI ?_) | ((with_reducible refine qW (T := TT) (b := ?_) ?_ ?_); rotate_left; exact rfl) | (with_reducible first | refine qX ?_ | refine qY ?_ | refine qZ ?_) | (with_reducible first | refine qI ?_ | refine qIx ?_ | fail) | ((with_reducible refine yS ?_ ?_) <;> (intro h; try simp only [NM] at h)))
    refine ⟨⟨k + 1, by omega⟩, by simp only; omega, ?_⟩
    have ef : fkcB f.cols[k] = (⟨#[44]⟩ : ByteArray) ++ itoaB f.cols[k] := rfl
    rw [← ef]
    refine St.le_mk ?_ ?_ ?_ <;> simp only [LE, EN, Nat.reduceEqDiff, reduceIte, Nat.reduceSub, es]
  · rw [cat_all _ _ _ _ hc]
    repeat' (first | ((first | with_reducible refine qV tyOk fun K hK => ?_ | (with_reducible first | refine qG ?_ | refine qH ?_ | refine qP ?_ | refine qGx ?_ | refine qHx ?_ | refine qPx ?_) | ((with_reducible first | refine qS ?_ ?_ | refine qT ?_ ?_ | refine qU ?_ ?_) <;> (intro h; try simp only [NM] at h))) <;> simp -dsimp (disch := (first | omega | (simp only [LN]; omega))) only [go_sem, ↓reduceIte, seval]) | ((with_reducible refine hK _ ?_); clear hK K) | (with_reducible first | refine qA ?_ | refine qB ?_ | refine qC ?_ | refine qD ?_ | refine qE ?_ | refine qF ?_ | refine qL ?_ | refine qM ?_ | refine qN ?_ | refine qO ?_ | refine qQ ?_) | refine qR rfl ?_ | (with_reducible refine AI ?_) | ((with_reducible refine qW (T := TT) (b := ?_) ?_ ?_); rotate_left; exact rfl) | (with_reducible first | refine qX ?_ | refine qY ?_ | refine qZ ?_) | (with_reducible first | refine qI ?_ | refine qIx ?_ | fail) | ((with_reducible refine yS ?_ ?_) <;> (intro h; try simp only [NM] at h)))
    simp -dsimp (disch := (first | omega | (simp only [LN]; omega))) only [retQ, Tryd.results46, resVals, cellRV, resOf, St.rest, St.freeze, RT, go_sem, ↓reduceIte, seval]
    rfl

structure ColF (c : Col) : Prop where
  name : c.name.size ≤ 1048576
  kind : IntB c.kind
structure TblF (t : Tbl) : Prop where
  name : t.name.size ≤ 1048576
  n : t.cols.length ≤ 1048576
  cols : ∀ c ∈ t.cols, ColF c
  pn : t.pk.length ≤ 1048576
  pk : ∀ c ∈ t.pk, IntB c
def colB (c : Col) : ByteArray := ((sizedB c.name ++ itoaB c.kind) ++ boolB c.nullable) ++ (⟨#[44]⟩ : ByteArray)
def pkB (n : Int) : ByteArray := itoaB n ++ (⟨#[44]⟩ : ByteArray)
def tblH (t : Tbl) : ByteArray := ((sizedB t.name ++ (⟨#[40]⟩ : ByteArray)) ++ itoaB t.cols.length) ++ (⟨#[44]⟩ : ByteArray)
def tblB (t : Tbl) : ByteArray := cat (cat (tblH t) (t.cols.map colB)) (t.pk.map pkB) ++ (⟨#[41]⟩ : ByteArray)
theorem boolB_size (b : Bool) : (boolB b).size ≤ 5 := by cases b <;> decide
theorem pkB_size {n : Int} (h : IntB n) : (pkB n).size ≤ 22 := by
  have h1 := itoaB_size n h.1 h.2
  have b1 : (⟨#[44]⟩ : ByteArray).size = 1 := rfl
  simp only [pkB, ByteArray.size_append, b1]
  omega
theorem colB_size {c : Col} (h : ColF c) : (colB c).size ≤ 1048630 := by
  have h1 := itoaB_size c.kind h.kind.1 h.kind.2
  have h2 := sizedB_size _ h.name
  have h3 := boolB_size c.nullable
  have b1 : (⟨#[44]⟩ : ByteArray).size = 1 := rfl
  simp only [colB, ByteArray.size_append, b1]
  omega
theorem tblH_size {t : Tbl} (h : TblF t) : (tblH t).size ≤ 1048630 := by
  have h1 := itoaB_size t.cols.length (by omega) (by have := h.n; omega)
  have h2 := sizedB_size _ h.name
  have b1 : (⟨#[44]⟩ : ByteArray).size = 1 := rfl
  have b2 : (⟨#[40]⟩ : ByteArray).size = 1 := rfl
  simp only [tblH, ByteArray.size_append, b1, b2]
  omega
theorem tblB_size {t : Tbl} (h : TblF t) : (tblB t).size ≤ 1100000000000 := by
  have h1 := cat_size pkB 22 t.pk (cat (tblH t) (t.cols.map colB)) fun c hc => pkB_size (h.pk c hc)
  have h2 := cat_size colB 1048630 t.cols (tblH t) fun c hc => colB_size (h.cols c hc)
  have h3 := tblH_size h
  have h4 := h.n
  have h5 := h.pn
  have b1 : (⟨#[41]⟩ : ByteArray).size = 1 := rfl
  simp only [tblB, ByteArray.size_append, b1]
  omega
set_option maxHeartbeats 8000000 in
theorem tableID_sat (t : Tbl) (h : TblF t) : Sat Tryd.prog 45 [.agg (eTbl t)] (.v (oS (tblB t))) := by
  have hn := h.n
  have hpn := h.pn
  have h2 := sizedB_size _ h.name
  have h3 := itoaB_size t.cols.length (by omega) (by omega)
  have hH := tblH_size h
  have i0 := itoa_sat t.cols.length (by omega) (by omega)
  have b1 : (⟨#[44]⟩ : ByteArray).size = 1 := rfl
  have b2 : (⟨#[40]⟩ : ByteArray).size = 1 := rfl
  have b3 : (⟨#[41]⟩ : ByteArray).size = 1 := rfl
  have eH : ((sizedB t.name ++ (⟨#[40]⟩ : ByteArray)) ++ itoaB t.cols.length) ++ (⟨#[44]⟩ : ByteArray) = tblH t := rfl
  refine sat_of_body tyOk Tryd.func45 rfl (by kernel_rfl) ⟨Nat.le_of_ble_eq_true rfl, Nat.le_of_ble_eq_true rfl⟩ fun w0 m0 F0 => ?_
  simp only [Tryd.ntmps45, envOf, Nat.reduceAdd]
  repeat' (first | ((first | with_reducible refine qV tyOk fun K hK => ?_ | (with_reducible first | refine qG ?_ | refine qH ?_ | refine qP ?_ | refine qGx ?_ | refine qHx ?_ | refine qPx ?_) | ((with_reducible first | refine qS ?_ ?_ | refine qT ?_ ?_ | refine qU ?_ ?_) <;> (intro h; try simp only [NM] at h)) | with_reducible refine yD tyOk mixed 6 (by kernel_rfl) fun K hK => ?_ | ((with_reducible refine CallJ.is ?_); (first | refine CallJ.pure (sized_sat t.name h.name) ?_ | refine CallJ.pure (i0) ?_ | ((apply CallJ.lentI); (focus (simp -dsimp (disch := (first | omega | (simp only [LN]; omega))) only [go_sem, ↓reduceIte, seval, ByteArray.size_append, b1, b2]; rfl)); (focus (first | exact (sized_sat t.name h.name) | exact (i0)))))) | ((with_reducible refine CallH.is ?_); (first | refine CallH.intro (sized_sat t.name h.name) ?_ | refine CallH.intro (i0) ?_))) <;> simp -dsimp (disch := (first | omega | (simp only [LN]; omega))) only [go_sem, ↓reduceIte, seval, ByteArray.size_append, b1, b2]) | ((with_reducible refine hK _ ?_); clear hK K) | (with_reducible first | refine qA ?_ | refine qB ?_ | refine qC ?_ | refine qD ?_ | refine qE ?_ | refine qF ?_ | refine qL ?_ | refine qM ?_ | refine qN ?_ | refine qO ?_ | refine qQ ?_) | refine qR rfl ?_ | (with_reducible refine AI ?_) | ((with_reducible refine qW (T := TT) (b := ?_) ?_ ?_); rotate_left; exact rfl) | (with_reducible first | refine qX ?_ | refine qY ?_ | refine qZ ?_) | (with_reducible first | refine qI ?_ | refine qIx ?_ | fail) | ((with_reducible refine yS ?_ ?_) <;> (intro h; try simp only [NM] at h)))
  rw [eH]
  refine AWP.loop (ι := {k : Nat // k ≤ t.cols.length}) (fun k => ⟨55, [(1, .v (.one (.ptr 1 0))), (3, .v (oS (cat (tblH t) ((t.cols.take k.1).map colB)))), (19, .v (.one (eCols t.cols))), (20, .v (oI t.cols.length)), (21, .v (oI k.1))], [(1, eTbl t)], []⟩) (fun k => t.cols.length - k.1) ⟨0, Nat.zero_le _⟩ ?_ fun ⟨k, hkl⟩ => ?_
  · refine St.le_mk ?_ ?_ ?_ <;> simp only [LE, EN, Nat.reduceEqDiff, reduceIte, Nat.reduceSub, eTbl, cat_nil]
  simp only
  have hs := cat_size_take colB 1048630 t.cols (tblH t) (fun c hc => colB_size (h.cols c hc)) k hkl
  rcases Nat.lt_or_ge k t.cols.length with hc | hc
  · have hi := h.cols t.cols[k] (List.getElem_mem _)
    have i1 := itoa_sat t.cols[k].kind hi.kind.1 hi.kind.2
    have z1 := itoaB_size t.cols[k].kind hi.kind.1 hi.kind.2
    have z2 := boolB_size t.cols[k].nullable
    have z3 := sizedB_size _ hi.name
    have es := cat_succ (tblH t) colB t.cols k hc
    repeat' (first | ((first | with_reducible refine qV tyOk fun K hK => ?_ | (with_reducible first | refine qG ?_ | refine qH ?_ | refine qP ?_ | refine qGx ?_ | refine qHx ?_ | refine qPx ?_) | ((with_reducible first | refine qS ?_ ?_ | refine qT ?_ ?_ | refine qU ?_ ?_) <;> (intro h; try simp only [NM] at h)) | with_reducible refine yD tyOk mixed 6 (by kernel_rfl) fun K hK => ?_ | ((with_reducible refine CallJ.is ?_); (first | refine CallJ.pure (i1) ?_ | refine CallJ.pure (sized_sat t.cols[k].name hi.name) ?_ | refine CallJ.pure (formatBool_sat t.cols[k].nullable) ?_ | ((apply CallJ.lentI); (focus (simp -dsimp (disch := (first | omega | (simp only [LN]; omega))) only [go_sem, ↓reduceIte, seval, ByteArray.size_append, b1]; rfl)); (focus (first | exact (i1) | exact (sized_sat t.cols[k].name hi.name) | exact (formatBool_sat t.cols[k].nullable)))))) | ((with_reducible refine CallH.is ?_); (first | refine CallH.intro (i1) ?_ | refine CallH.intro (sized_sat t.cols[k].name hi.name) ?_ | refine CallH.intro (formatBool_sat t.cols[k].nullable) ?_))) <;> simp -dsimp (disch := (first | omega | (simp only [LN]; omega))) only [go_sem, ↓reduceIte, seval, ByteArray.size_append, b1]) | ((with_reducible refine hK _ ?_); clear hK K) | (with_reducible first | refine qA ?_ | refine qB ?_ | refine qC ?_ | refine qD ?_ | refine qE ?_ | refine qF ?_ | refine qL ?_ | refine qM ?_ | refine qN ?_ | refine qO ?_ | refine qQ ?_) | refine qR rfl ?_ | (with_reducible refine AI ?_) | ((with_reducible refine qW (T := TT) (b := ?_) ?_ ?_); rotate_left; exact rfl) | (with_reducible first | refine qX ?_ | refine qY ?_ | refine qZ ?_) | (with_reducible first | refine qI ?_ | refine qIx ?_ | fail) | ((with_reducible refine yS ?_ ?_) <;> (intro h; try simp only [NM] at h)))
    refine ⟨⟨k + 1, by omega⟩, by simp only; omega, ?_⟩
    have ef : colB t.cols[k] = ((sizedB t.cols[k].name ++ itoaB t.cols[k].kind) ++ boolB t.cols[k].nullable) ++ (⟨#[44]⟩ : ByteArray) := rfl
    rw [← ef]
    refine St.le_mk ?_ ?_ ?_ <;> simp only [LE, EN, Nat.reduceEqDiff, reduceIte, Nat.reduceSub, eTbl, es]
  · rw [cat_all _ _ _ _ hc]
    have hs2 := cat_size colB 1048630 t.cols (tblH t) (fun c hc => colB_size (h.cols c hc))
    obtain ⟨X, hX⟩ : ∃ X, cat (tblH t) (t.cols.map colB) = X := ⟨_, rfl⟩
    have eT : tblB t = cat X (t.pk.map pkB) ++ (⟨#[41]⟩ : ByteArray) := by rw [← hX]; rfl
    rw [hX] at hs2 ⊢
    rw [eT]
    repeat' (first | ((first | with_reducible refine qV tyOk fun K hK => ?_ | (with_reducible first | refine qG ?_ | refine qH ?_ | refine qP ?_ | refine qGx ?_ | refine qHx ?_ | refine qPx ?_) | ((with_reducible first | refine qS ?_ ?_ | refine qT ?_ ?_ | refine qU ?_ ?_) <;> (intro h; try simp only [NM] at h))) <;> simp -dsimp (disch := (first | omega | (simp only [LN]; omega))) only [go_sem, ↓reduceIte, seval]) | ((with_reducible refine hK _ ?_); clear hK K) | (with_reducible first | refine qA ?_ | refine qB ?_ | refine qC ?_ | refine qD ?_ | refine qE ?_ | refine qF ?_ | refine qL ?_ | refine qM ?_ | refine qN ?_ | refine qO ?_ | refine qQ ?_) | refine qR rfl ?_ | (with_reducible refine AI ?_) | ((with_reducible refine qW (T := TT) (b := ?_) ?_ ?_); rotate_left; exact rfl) | (with_reducible first | refine qX ?_ | refine qY ?_ | refine qZ ?_) | (with_reducible first | refine qI ?_ | refine qIx ?_ | fail) | ((with_reducible refine yS ?_ ?_) <;> (intro h; try simp only [NM] at h)))
    refine AWP.loop (ι := {k : Nat // k ≤ t.pk.length}) (fun k => ⟨55, [(3, .v (oS (cat X ((t.pk.take k.1).map pkB)))), (41, .v (.one (eInts t.pk))), (42, .v (oI t.pk.length)), (43, .v (oI k.1))], [], []⟩) (fun k => t.pk.length - k.1) ⟨0, Nat.zero_le _⟩ ?_ fun ⟨j, hjl⟩ => ?_
    · refine St.le_mk ?_ ?_ ?_ <;> simp only [LE, EN, Nat.reduceEqDiff, reduceIte, Nat.reduceSub, cat_nil]
    simp only
    have hs3 := cat_size_take pkB 22 t.pk X (fun c hc => pkB_size (h.pk c hc)) j hjl
    rcases Nat.lt_or_ge j t.pk.length with hc2 | hc2
    · have hi := h.pk t.pk[j] (List.getElem_mem _)
      have i1 := itoa_sat t.pk[j] hi.1 hi.2
      have z1 := itoaB_size t.pk[j] hi.1 hi.2
      have es := cat_succ X pkB t.pk j hc2
      repeat' (first | ((first | with_reducible refine qV tyOk fun K hK => ?_ | (with_reducible first | refine qG ?_ | refine qH ?_ | refine qP ?_ | refine qGx ?_ | refine qHx ?_ | refine qPx ?_) | ((with_reducible first | refine qS ?_ ?_ | refine qT ?_ ?_ | refine qU ?_ ?_) <;> (intro h; try simp only [NM] at h)) | ((with_reducible refine CallJ.is ?_); (first | refine CallJ.pure (i1) ?_ | ((apply CallJ.lentI); (focus (simp -dsimp (disch := (first | omega | (simp only [LN]; omega))) only [go_sem, ↓reduceIte, seval, ByteArray.size_append, b1]; rfl)); (focus (first | exact (i1)))))) | ((with_reducible refine CallH.is ?_); (first | refine CallH.intro (i1) ?_))) <;> simp -dsimp (disch := (first | omega | (simp only [LN]; omega))) only [go_sem, ↓reduceIte, seval, ByteArray.size_append, b1]) | ((with_reducible refine hK _ ?_); clear hK K) | (with_reducible first | refine qA ?_ | refine qB ?_ | refine qC ?_ | refine qD ?_ | refine qE ?_ | refine qF ?_ | refine qL ?_ | refine qM ?_ | refine qN ?_ | refine qO ?_ | refine qQ ?_) | refine qR rfl ?_ | (with_reducible refine AI ?_) | ((with_reducible refine qW (T := TT) (b := ?_) ?_ ?_); rotate_left; exact rfl) | (with_reducible first | refine qX ?_ | refine qY ?_ | refine qZ ?_) | (with_reducible first | refine qI ?_ | refine qIx ?_ | fail) | ((with_reducible refine yS ?_ ?_) <;> (intro h; try simp only [NM] at h)))
      refine ⟨⟨j + 1, by omega⟩, by simp only; omega, ?_⟩
      have ef : pkB t.pk[j] = itoaB t.pk[j] ++ (⟨#[44]⟩ : ByteArray) := rfl
      rw [← ef]
      refine St.le_mk ?_ ?_ ?_ <;> simp only [LE, EN, Nat.reduceEqDiff, reduceIte, Nat.reduceSub, es]
    · rw [cat_all _ _ _ _ hc2]
      rw [List.take_of_length_le hc2] at hs3
      repeat' (first | ((first | with_reducible refine qV tyOk fun K hK => ?_ | (with_reducible first | refine qG ?_ | refine qH ?_ | refine qP ?_ | refine qGx ?_ | refine qHx ?_ | refine qPx ?_) | ((with_reducible first | refine qS ?_ ?_ | refine qT ?_ ?_ | refine qU ?_ ?_) <;> (intro h; try simp only [NM] at h))) <;> simp -dsimp (disch := (first | omega | (simp only [LN]; omega))) only [go_sem, ↓reduceIte, seval, ByteArray.size_append, b3]) | ((with_reducible refine hK _ ?_); clear hK K) | (with_reducible first | refine qA ?_ | refine qB ?_ | refine qC ?_ | refine qD ?_ | refine qE ?_ | refine qF ?_ | refine qL ?_ | refine qM ?_ | refine qN ?_ | refine qO ?_ | refine qQ ?_) | refine qR rfl ?_ | (with_reducible refine AI ?_) | ((with_reducible refine qW (T := TT) (b := ?_) ?_ ?_); rotate_left; exact rfl) | (with_reducible first | refine qX ?_ | refine qY ?_ | refine qZ ?_) | (with_reducible first | refine qI ?_ | refine qIx ?_ | fail) | ((with_reducible refine yS ?_ ?_) <;> (intro h; try simp only [NM] at h)))
      simp -dsimp (disch := (first | omega | (simp only [LN]; omega))) only [retQ, Tryd.results45, resVals, cellRV, resOf, St.rest, St.freeze, RT, go_sem, ↓reduceIte, seval]

def tblsE (ts : List Tbl) (k : Nat) (t : Tbl) : Option Int :=
  if tblE t ≠ 0 then some (tblE t) else if 0 < (k : Int) ∧ (Op.bytesLess t.name.toList (ts.getD ((k : Int) - 1).toNat zTbl).name.toList = true ∨ t.name.toList = (ts.getD ((k : Int) - 1).toNat zTbl).name.toList) then some 6 else none
def fksE (s : Sch) (k : Nat) (f : FK) : Option Int :=
  if fkE s f ≠ 0 then some (fkE s f) else if 0 ≤ idx (fun o => fkEq o f) (s.fks.take k) 0 then some 5 else none
def consE (s : Sch) (k : Nat) (c : Con) : Option Int :=
  if conE s c ≠ 0 then some (conE s c) else if 0 ≤ idx (conEq c) (s.cons.take k) 0 then some 5 else none
def schE (s : Sch) : Int :=
  if 6 < s.tables.length ∨ 8 < s.fks.length ∨ 8 < s.cons.length then 2 else
  match scan (tblsE s.tables) s.tables 0 with
  | some e => e
  | none => match scan (fksE s) s.fks 0 with
    | some e => e
    | none => match scan (consE s) s.cons 0 with
      | some e => e
      | none => 0

structure Sch.Fits (s : Sch) : Prop where
  tables : s.tables.length ≤ 140737488355328
  table : ∀ t ∈ s.tables, t.cols.length ≤ 140737488355328 ∧ t.pk.length ≤ 140737488355328
  fks : s.fks.length ≤ 140737488355328
  fk : ∀ f ∈ s.fks, f.cols.length ≤ 140737488355328
  cons : s.cons.length ≤ 140737488355328

theorem containsCon_take (l : List Con) (k : Nat) (c : Con) (hlen : l.length ≤ 140737488355328) :
    Sat Tryd.prog 82 [.one (.sl 7 ((l.map eCon).take k)), .agg (eCon c)] (.v (oB (decide (0 ≤ idx (conEq c) (l.take k) 0)))) := by
  have h := containsCon_sat (l.take k) c (by rw [List.length_take]; omega)
  rw [eCons, List.map_take] at h
  exact h

set_option maxHeartbeats 16000000 in
theorem schValidate_sat (s : Sch) (hf : s.Fits) : Sat Tryd.prog 44 [.agg (eSch s)] (.v (oI (schE s))) := by
  by_cases h0 : 6 < s.tables.length ∨ 8 < s.fks.length ∨ 8 < s.cons.length
  · refine sat_of_body tyOk Tryd.func44 rfl (by kernel_rfl) ⟨Nat.le_of_ble_eq_true rfl, Nat.le_of_ble_eq_true rfl⟩ fun w0 m0 F0 => ?_
    simp only [Tryd.ntmps44, envOf, Nat.reduceAdd]
    repeat' (first | ((first | with_reducible refine qV tyOk fun K hK => ?_ | (with_reducible first | refine qG ?_ | refine qH ?_ | refine qP ?_ | refine qGx ?_ | refine qHx ?_ | refine qPx ?_) | ((with_reducible first | refine qS ?_ ?_ | refine qT ?_ ?_ | refine qU ?_ ?_) <;> (intro h; try simp only [NM] at h)) | with_reducible refine yD tyOk mixed 6 (by kernel_rfl) fun K hK => ?_) <;> simp -dsimp (disch := (first | omega | (simp only [LN]; omega))) only [go_sem, ↓reduceIte, seval]) | ((with_reducible refine hK _ ?_); clear hK K) | (with_reducible first | refine qA ?_ | refine qB ?_ | refine qC ?_ | refine qD ?_ | refine qE ?_ | refine qF ?_ | refine qL ?_ | refine qM ?_ | refine qN ?_ | refine qO ?_ | refine qQ ?_) | refine qR rfl ?_ | (with_reducible refine AI ?_) | ((with_reducible refine qW (T := TT) (b := ?_) ?_ ?_); rotate_left; exact rfl) | (with_reducible first | refine qX ?_ | refine qY ?_ | refine qZ ?_) | (with_reducible first | refine qI ?_ | refine qIx ?_ | fail) | ((with_reducible refine yS ?_ ?_) <;> (intro h; try simp only [NM] at h)))
    all_goals first
      | (exfalso; omega)
      | (
         simp -dsimp (disch := (first | omega | (simp only [LN]; omega))) only [retQ, Tryd.results44, resVals, cellRV, resOf, St.rest, St.freeze, RT, go_sem, ↓reduceIte, seval]
         rw [schE, if_pos h0])
  have spec : schE s = match scan (tblsE s.tables) s.tables 0 with
    | some e => e
    | none => match scan (fksE s) s.fks 0 with
      | some e => e
      | none => match scan (consE s) s.cons 0 with
        | some e => e
        | none => 0 := by rw [schE, if_neg h0]
  rw [spec]
  refine sat_of_body tyOk Tryd.func44 rfl (by kernel_rfl) ⟨Nat.le_of_ble_eq_true rfl, Nat.le_of_ble_eq_true rfl⟩ fun w0 m0 F0 => ?_
  simp only [Tryd.ntmps44, envOf, Nat.reduceAdd]
  repeat' (first | ((first | with_reducible refine qV tyOk fun K hK => ?_ | (with_reducible first | refine qG ?_ | refine qH ?_ | refine qP ?_ | refine qGx ?_ | refine qHx ?_ | refine qPx ?_) | ((with_reducible first | refine qS ?_ ?_ | refine qT ?_ ?_ | refine qU ?_ ?_) <;> (intro h; try simp only [NM] at h)) | with_reducible refine yD tyOk mixed 6 (by kernel_rfl) fun K hK => ?_) <;> simp -dsimp (disch := (first | omega | (simp only [LN]; omega))) only [go_sem, ↓reduceIte, seval]) | ((with_reducible refine hK _ ?_); clear hK K) | (with_reducible first | refine qA ?_ | refine qB ?_ | refine qC ?_ | refine qD ?_ | refine qE ?_ | refine qF ?_ | refine qL ?_ | refine qM ?_ | refine qN ?_ | refine qO ?_ | refine qQ ?_) | refine qR rfl ?_ | (with_reducible refine AI ?_) | ((with_reducible refine qW (T := TT) (b := ?_) ?_ ?_); rotate_left; exact rfl) | (with_reducible first | refine qX ?_ | refine qY ?_ | refine qZ ?_) | (with_reducible first | refine qI ?_ | refine qIx ?_ | fail) | ((with_reducible refine yS ?_ ?_) <;> (intro h; try simp only [NM] at h)))
  refine AWP.loop (ι := {k : Nat // k ≤ s.tables.length ∧ scan (tblsE s.tables) (s.tables.drop k) k = scan (tblsE s.tables) s.tables 0}) (fun k => ⟨98, [(1, .v (.one (.ptr 1 0))), (29, .v (.one (.sl 3 (s.tables.map eTbl)))), (30, .v (oI s.tables.length)), (31, .v (oI k.1))], [(1, eSch s)], []⟩) (fun k => s.tables.length - k.1) ⟨0, Nat.zero_le _, rfl⟩ ?_ fun ⟨k, hkl, hi⟩ => ?_
  · refine St.le_mk ?_ ?_ ?_ <;> simp only [LE, EN, Nat.reduceEqDiff, reduceIte, Nat.reduceSub, eSch]
  rcases Nat.lt_or_ge k s.tables.length with hc | hc
  · obtain ⟨b1, b2⟩ := hf.table s.tables[k] (List.getElem_mem hc)
    repeat' (first | ((first | with_reducible refine qV tyOk fun K hK => ?_ | (with_reducible first | refine qG ?_ | refine qH ?_ | refine qP ?_ | refine qGx ?_ | refine qHx ?_ | refine qPx ?_) | ((with_reducible first | refine qS ?_ ?_ | refine qT ?_ ?_ | refine qU ?_ ?_) <;> (intro h; try simp only [NM] at h)) | with_reducible refine yD tyOk mixed 6 (by kernel_rfl) fun K hK => ?_ | ((with_reducible refine CallJ.is ?_); (first | refine CallJ.pure (validateTable_sat _ b1 b2) ?_ | ((apply CallJ.lentI); (focus (simp -dsimp (disch := (first | omega | (simp only [LN]; omega))) only [go_sem, ↓reduceIte, seval]; rfl)); (focus (first | exact (validateTable_sat _ b1 b2)))))) | ((with_reducible refine CallH.is ?_); (first | refine CallH.intro (validateTable_sat _ b1 b2) ?_))) <;> simp -dsimp (disch := (first | omega | (simp only [LN]; omega))) only [go_sem, ↓reduceIte, seval]) | ((with_reducible refine hK _ ?_); clear hK K) | (with_reducible first | refine qA ?_ | refine qB ?_ | refine qC ?_ | refine qD ?_ | refine qE ?_ | refine qF ?_ | refine qL ?_ | refine qM ?_ | refine qN ?_ | refine qO ?_ | refine qQ ?_) | refine qR rfl ?_ | (with_reducible refine AI ?_) | ((with_reducible refine qW (T := TT) (b := ?_) ?_ ?_); rotate_left; exact rfl) | (with_reducible first | refine qX ?_ | refine qY ?_ | refine qZ ?_) | (with_reducible first | refine qI ?_ | refine qIx ?_ | fail) | ((with_reducible refine yS ?_ ?_) <;> (intro h; try simp only [NM] at h)))
    all_goals
      first
        | (have hs : (tblsE s.tables) k s.tables[k] = none := by
             (simp (disch := omega) only [tblsE, getD_lt]; (repeat' split) <;> first | rfl | with_reducible assumption | omega | (exfalso; omega) | (simp_all; done) | (simp_all; omega))
           refine ⟨⟨k + 1, by omega, by rw [scan_step (by omega) hs, hi]⟩, by simp only; omega, ?_⟩
           refine St.le_mk ?_ ?_ ?_ <;> simp only [LE, EN, Nat.reduceEqDiff, reduceIte, Nat.reduceSub, eSch]
           done)
        | (simp -dsimp (disch := (first | omega | (simp only [LN]; omega))) only [retQ, Tryd.results44, resVals, cellRV, resOf, St.rest, St.freeze, RT, go_sem, ↓reduceIte, seval]
           rw [scan_leaf (by omega) ?_ hi]
           all_goals first | with_reducible rfl | ((simp (disch := omega) only [tblsE, getD_lt]; (repeat' split) <;> first | rfl | with_reducible assumption | omega | (exfalso; omega) | (simp_all; done) | (simp_all; omega)); done) | rfl
           done)
  · rw [scan_end (by omega)] at hi
    have hi0 := hi.symm
    have hok : ∀ t ∈ s.tables, OkTbl t := by
      intro t ht
      obtain ⟨j, hj, rfl⟩ := List.mem_iff_getElem.1 ht
      have h5 := scan_none hi.symm j hj
      rw [Nat.zero_add, tblsE] at h5
      split at h5
      · cases h5
      · rename_i h6
        exact okTbl_of (by simpa using h6)
    clear hi
    repeat' (first | ((first | with_reducible refine qV tyOk fun K hK => ?_ | (with_reducible first | refine qG ?_ | refine qH ?_ | refine qP ?_ | refine qGx ?_ | refine qHx ?_ | refine qPx ?_) | ((with_reducible first | refine qS ?_ ?_ | refine qT ?_ ?_ | refine qU ?_ ?_) <;> (intro h; try simp only [NM] at h)) | with_reducible refine yD tyOk mixed 6 (by kernel_rfl) fun K hK => ?_) <;> simp -dsimp (disch := (first | omega | (simp only [LN]; omega))) only [go_sem, ↓reduceIte, seval]) | ((with_reducible refine hK _ ?_); clear hK K) | (with_reducible first | refine qA ?_ | refine qB ?_ | refine qC ?_ | refine qD ?_ | refine qE ?_ | refine qF ?_ | refine qL ?_ | refine qM ?_ | refine qN ?_ | refine qO ?_ | refine qQ ?_) | refine qR rfl ?_ | (with_reducible refine AI ?_) | ((with_reducible refine qW (T := TT) (b := ?_) ?_ ?_); rotate_left; exact rfl) | (with_reducible first | refine qX ?_ | refine qY ?_ | refine qZ ?_) | (with_reducible first | refine qI ?_ | refine qIx ?_ | fail) | ((with_reducible refine yS ?_ ?_) <;> (intro h; try simp only [NM] at h)))
    rw [hi0]
    simp only
    clear hi0
    refine AWP.loop (ι := {k : Nat // k ≤ s.fks.length ∧ scan (fksE s) (s.fks.drop k) k = scan (fksE s) s.fks 0}) (fun k => ⟨98, [(1, .v (.one (.ptr 1 0))), (57, .v (.one (.sl 3 (s.fks.map eFK)))), (58, .v (oI s.fks.length)), (59, .v (oI k.1))], [(1, eSch s)], []⟩) (fun k => s.fks.length - k.1) ⟨0, Nat.zero_le _, rfl⟩ ?_ fun ⟨k, hkl, hi⟩ => ?_
    · refine St.le_mk ?_ ?_ ?_ <;> simp only [LE, EN, Nat.reduceEqDiff, reduceIte, Nat.reduceSub, eSch]
    rcases Nat.lt_or_ge k s.fks.length with hc | hc
    · have b1 := hf.fk s.fks[k] (List.getElem_mem hc)
      have b2 := hf.fks
      have b3 := hf.tables
      repeat' (first | ((first | with_reducible refine qV tyOk fun K hK => ?_ | (with_reducible first | refine qG ?_ | refine qH ?_ | refine qP ?_ | refine qGx ?_ | refine qHx ?_ | refine qPx ?_) | ((with_reducible first | refine qS ?_ ?_ | refine qT ?_ ?_ | refine qU ?_ ?_) <;> (intro h; try simp only [NM] at h)) | with_reducible refine yD tyOk mixed 6 (by kernel_rfl) fun K hK => ?_ | ((with_reducible refine CallJ.is ?_); (first | refine CallJ.pure (validateFK_sat s _ b3 b1 hok) ?_ | refine CallJ.pure (containsFK_sat (s.fks.take k) _ [.fz (eFK s.fks[k])] (fun o => fkEq o s.fks[k]) (by rw [List.length_take]; omega) fun t ht => validate1_sat t s.fks[k] (hf.fk t (List.mem_of_mem_take ht))) ?_ | ((first | refine CallJ.lent (validateFK_sat s _ b3 b1 hok) ?_ ?_; focus (simp -dsimp (disch := (first | omega | (simp only [LN]; omega))) only [go_sem, ↓reduceIte, seval, List.map_take]; done) | refine CallJ.lent (containsFK_sat (s.fks.take k) _ [.fz (eFK s.fks[k])] (fun o => fkEq o s.fks[k]) (by rw [List.length_take]; omega) fun t ht => validate1_sat t s.fks[k] (hf.fk t (List.mem_of_mem_take ht))) ?_ ?_; focus (simp -dsimp (disch := (first | omega | (simp only [LN]; omega))) only [go_sem, ↓reduceIte, seval, List.map_take]; done))))) | ((with_reducible refine CallH.is ?_); (first | refine CallH.intro (validateFK_sat s _ b3 b1 hok) ?_ | refine CallH.intro (containsFK_sat (s.fks.take k) _ [.fz (eFK s.fks[k])] (fun o => fkEq o s.fks[k]) (by rw [List.length_take]; omega) fun t ht => validate1_sat t s.fks[k] (hf.fk t (List.mem_of_mem_take ht))) ?_))) <;> simp -dsimp (disch := (first | omega | (simp only [LN]; omega))) only [go_sem, ↓reduceIte, seval, List.map_take]) | ((with_reducible refine hK _ ?_); clear hK K) | (with_reducible first | refine qA ?_ | refine qB ?_ | refine qC ?_ | refine qD ?_ | refine qE ?_ | refine qF ?_ | refine qL ?_ | refine qM ?_ | refine qN ?_ | refine qO ?_ | refine qQ ?_) | refine qR rfl ?_ | (with_reducible refine AI ?_) | ((with_reducible refine qW (T := TT) (b := ?_) ?_ ?_); rotate_left; exact rfl) | (with_reducible first | refine qX ?_ | refine qY ?_ | refine qZ ?_) | (with_reducible first | refine qI ?_ | refine qIx ?_ | fail) | ((with_reducible refine yS ?_ ?_) <;> (intro h; try simp only [NM] at h)))
      all_goals
        first
          | (have hs : (fksE s) k s.fks[k] = none := by
               (simp (disch := omega) only [fksE, getD_lt]; (repeat' split) <;> first | rfl | with_reducible assumption | omega | (exfalso; omega) | (simp_all; done) | (simp_all; omega))
             refine ⟨⟨k + 1, by omega, by rw [scan_step (by omega) hs, hi]⟩, by simp only; omega, ?_⟩
             refine St.le_mk ?_ ?_ ?_ <;> simp only [LE, EN, Nat.reduceEqDiff, reduceIte, Nat.reduceSub, eSch]
             done)
          | (simp -dsimp (disch := (first | omega | (simp only [LN]; omega))) only [retQ, Tryd.results44, resVals, cellRV, resOf, St.rest, St.freeze, RT, go_sem, ↓reduceIte, seval]
             rw [scan_leaf (by omega) ?_ hi]
             all_goals first | with_reducible rfl | ((simp (disch := omega) only [fksE, getD_lt]; (repeat' split) <;> first | rfl | with_reducible assumption | omega | (exfalso; omega) | (simp_all; done) | (simp_all; omega)); done) | rfl
             done)
    rw [scan_end (by omega)] at hi
    have hi0 := hi.symm
    clear hi
    repeat' (first | ((first | with_reducible refine qV tyOk fun K hK => ?_ | (with_reducible first | refine qG ?_ | refine qH ?_ | refine qP ?_ | refine qGx ?_ | refine qHx ?_ | refine qPx ?_) | ((with_reducible first | refine qS ?_ ?_ | refine qT ?_ ?_ | refine qU ?_ ?_) <;> (intro h; try simp only [NM] at h)) | with_reducible refine yD tyOk mixed 6 (by kernel_rfl) fun K hK => ?_) <;> simp -dsimp (disch := (first | omega | (simp only [LN]; omega))) only [go_sem, ↓reduceIte, seval]) | ((with_reducible refine hK _ ?_); clear hK K) | (with_reducible first | refine qA ?_ | refine qB ?_ | refine qC ?_ | refine qD ?_ | refine qE ?_ | refine qF ?_ | refine qL ?_ | refine qM ?_ | refine qN ?_ | refine qO ?_ | refine qQ ?_) | refine qR rfl ?_ | (with_reducible refine AI ?_) | ((with_reducible refine qW (T := TT) (b := ?_) ?_ ?_); rotate_left; exact rfl) | (with_reducible first | refine qX ?_ | refine qY ?_ | refine qZ ?_) | (with_reducible first | refine qI ?_ | refine qIx ?_ | fail) | ((with_reducible refine yS ?_ ?_) <;> (intro h; try simp only [NM] at h)))
    rw [hi0]
    simp only
    clear hi0
    refine AWP.loop (ι := {k : Nat // k ≤ s.cons.length ∧ scan (consE s) (s.cons.drop k) k = scan (consE s) s.cons 0}) (fun k => ⟨98, [(1, .v (.one (.ptr 1 0))), (78, .v (.one (.sl 7 (s.cons.map eCon)))), (79, .v (oI s.cons.length)), (80, .v (oI k.1))], [(1, eSch s)], []⟩) (fun k => s.cons.length - k.1) ⟨0, Nat.zero_le _, rfl⟩ ?_ fun ⟨k, hkl, hi⟩ => ?_
    · refine St.le_mk ?_ ?_ ?_ <;> simp only [LE, EN, Nat.reduceEqDiff, reduceIte, Nat.reduceSub, eSch]
    rcases Nat.lt_or_ge k s.cons.length with hc | hc
    · have b2 := hf.cons
      have b3 := hf.tables
      have b4 : ∀ t ∈ s.tables, t.cols.length ≤ 140737488355328 := fun t ht => (hf.table t ht).1
      repeat' (first | ((first | with_reducible refine qV tyOk fun K hK => ?_ | (with_reducible first | refine qG ?_ | refine qH ?_ | refine qP ?_ | refine qGx ?_ | refine qHx ?_ | refine qPx ?_) | ((with_reducible first | refine qS ?_ ?_ | refine qT ?_ ?_ | refine qU ?_ ?_) <;> (intro h; try simp only [NM] at h)) | with_reducible refine yD tyOk mixed 6 (by kernel_rfl) fun K hK => ?_ | ((with_reducible refine CallJ.is ?_); (first | refine CallJ.pure (validateCon_sat s _ b3 b4) ?_ | refine CallJ.pure (containsCon_take s.cons k s.cons[k] b2) ?_ | ((first | refine CallJ.lent (validateCon_sat s _ b3 b4) ?_ ?_; focus (simp -dsimp (disch := (first | omega | (simp only [LN]; omega))) only [go_sem, ↓reduceIte, seval, List.map_take]; done) | refine CallJ.lent (containsCon_take s.cons k s.cons[k] b2) ?_ ?_; focus (simp -dsimp (disch := (first | omega | (simp only [LN]; omega))) only [go_sem, ↓reduceIte, seval, List.map_take]; done))))) | ((with_reducible refine CallH.is ?_); (first | refine CallH.intro (validateCon_sat s _ b3 b4) ?_ | refine CallH.intro (containsCon_take s.cons k s.cons[k] b2) ?_))) <;> simp -dsimp (disch := (first | omega | (simp only [LN]; omega))) only [go_sem, ↓reduceIte, seval, List.map_take]) | ((with_reducible refine hK _ ?_); clear hK K) | (with_reducible first | refine qA ?_ | refine qB ?_ | refine qC ?_ | refine qD ?_ | refine qE ?_ | refine qF ?_ | refine qL ?_ | refine qM ?_ | refine qN ?_ | refine qO ?_ | refine qQ ?_) | refine qR rfl ?_ | (with_reducible refine AI ?_) | ((with_reducible refine qW (T := TT) (b := ?_) ?_ ?_); rotate_left; exact rfl) | (with_reducible first | refine qX ?_ | refine qY ?_ | refine qZ ?_) | (with_reducible first | refine qI ?_ | refine qIx ?_ | fail) | ((with_reducible refine yS ?_ ?_) <;> (intro h; try simp only [NM] at h)))
      all_goals
        first
          | (have hs : (consE s) k s.cons[k] = none := by
               (simp (disch := omega) only [consE, getD_lt]; (repeat' split) <;> first | rfl | with_reducible assumption | omega | (exfalso; omega) | (simp_all; done) | (simp_all; omega))
             refine ⟨⟨k + 1, by omega, by rw [scan_step (by omega) hs, hi]⟩, by simp only; omega, ?_⟩
             refine St.le_mk ?_ ?_ ?_ <;> simp only [LE, EN, Nat.reduceEqDiff, reduceIte, Nat.reduceSub, eSch]
             done)
          | (simp -dsimp (disch := (first | omega | (simp only [LN]; omega))) only [retQ, Tryd.results44, resVals, cellRV, resOf, St.rest, St.freeze, RT, go_sem, ↓reduceIte, seval]
             rw [scan_leaf (by omega) ?_ hi]
             all_goals first | with_reducible rfl | ((simp (disch := omega) only [consE, getD_lt]; (repeat' split) <;> first | rfl | with_reducible assumption | omega | (exfalso; omega) | (simp_all; done) | (simp_all; omega)); done) | rfl
             done)
    rw [scan_end (by omega)] at hi
    have hi0 := hi.symm
    clear hi
    repeat' (first | ((first | with_reducible refine qV tyOk fun K hK => ?_ | (with_reducible first | refine qG ?_ | refine qH ?_ | refine qP ?_ | refine qGx ?_ | refine qHx ?_ | refine qPx ?_) | ((with_reducible first | refine qS ?_ ?_ | refine qT ?_ ?_ | refine qU ?_ ?_) <;> (intro h; try simp only [NM] at h)) | with_reducible refine yD tyOk mixed 6 (by kernel_rfl) fun K hK => ?_) <;> simp -dsimp (disch := (first | omega | (simp only [LN]; omega))) only [go_sem, ↓reduceIte, seval]) | ((with_reducible refine hK _ ?_); clear hK K) | (with_reducible first | refine qA ?_ | refine qB ?_ | refine qC ?_ | refine qD ?_ | refine qE ?_ | refine qF ?_ | refine qL ?_ | refine qM ?_ | refine qN ?_ | refine qO ?_ | refine qQ ?_) | refine qR rfl ?_ | (with_reducible refine AI ?_) | ((with_reducible refine qW (T := TT) (b := ?_) ?_ ?_); rotate_left; exact rfl) | (with_reducible first | refine qX ?_ | refine qY ?_ | refine qZ ?_) | (with_reducible first | refine qI ?_ | refine qIx ?_ | fail) | ((with_reducible refine yS ?_ ?_) <;> (intro h; try simp only [NM] at h)))
    rw [hi0]
    simp -dsimp (disch := (first | omega | (simp only [LN]; omega))) only [retQ, Tryd.results44, resVals, cellRV, resOf, St.rest, St.freeze, RT, go_sem, ↓reduceIte, seval]

set_option maxHeartbeats 8000000 in
theorem schemasWork_sat : Sat Tryd.prog 16 [] (.v (oB true)) := by
  have f1 : (⟨[peopleT], [], []⟩ : Sch).Fits := ⟨by decide, by decide, by decide, by decide, by decide⟩
  have f2 : (⟨[peopleT, peopleT], [], []⟩ : Sch).Fits := ⟨by decide, by decide, by decide, by decide, by decide⟩
  have e1 : schE ⟨[peopleT], [], []⟩ = 0 := by kernel_rfl
  have e2 : schE ⟨[peopleT, peopleT], [], []⟩ = 6 := by kernel_rfl
  refine sat_of_body tyOk Tryd.func16 rfl (by kernel_rfl) ⟨Nat.le_of_ble_eq_true rfl, Nat.le_of_ble_eq_true rfl⟩ fun w0 m0 F0 => ?_
  simp only [Tryd.ntmps16, envOf, Nat.reduceAdd]
  repeat' (first | ((first | with_reducible refine qV tyOk fun K hK => ?_ | (with_reducible first | refine qG ?_ | refine qH ?_ | refine qP ?_ | refine qGx ?_ | refine qHx ?_ | refine qPx ?_) | ((with_reducible first | refine qS ?_ ?_ | refine qT ?_ ?_ | refine qU ?_ ?_) <;> (intro h; try simp only [NM] at h)) | with_reducible refine yD tyOk mixed 6 (by kernel_rfl) fun K hK => ?_ | ((with_reducible refine CallJ.is ?_); (first | refine CallJ.pure (people_sat) ?_ | refine CallJ.pure (schValidate_sat ⟨[peopleT], [], []⟩ f1) ?_ | refine CallJ.pure (schValidate_sat ⟨[peopleT, peopleT], [], []⟩ f2) ?_ | ((apply CallJ.lentI); (focus (simp -dsimp (disch := (first | omega | (simp only [LN]; omega))) only [go_sem, ↓reduceIte, seval, e1, e2]; rfl)); (focus (first | exact (people_sat) | exact (schValidate_sat ⟨[peopleT], [], []⟩ f1) | exact (schValidate_sat ⟨[peopleT, peopleT], [], []⟩ f2)))))) | ((with_reducible refine CallH.is ?_); (first | refine CallH.intro (people_sat) ?_ | refine CallH.intro (schValidate_sat ⟨[peopleT], [], []⟩ f1) ?_ | refine CallH.intro (schValidate_sat ⟨[peopleT, peopleT], [], []⟩ f2) ?_))) <;> simp -dsimp (disch := (first | omega | (simp only [LN]; omega))) only [go_sem, ↓reduceIte, seval, e1, e2]) | ((with_reducible refine hK _ ?_); clear hK K) | (with_reducible first | refine qA ?_ | refine qB ?_ | refine qC ?_ | refine qD ?_ | refine qE ?_ | refine qF ?_ | refine qL ?_ | refine qM ?_ | refine qN ?_ | refine qO ?_ | refine qQ ?_) | refine qR rfl ?_ | (with_reducible refine AI ?_) | ((with_reducible refine qW (T := TT) (b := ?_) ?_ ?_); rotate_left; exact rfl) | (with_reducible first | refine qX ?_ | refine qY ?_ | refine qZ ?_) | (with_reducible first | refine qI ?_ | refine qIx ?_ | fail) | ((with_reducible refine yS ?_ ?_) <;> (intro h; try simp only [NM] at h)))
  simp -dsimp (disch := (first | omega | (simp only [LN]; omega))) only [retQ, Tryd.results16, resVals, cellRV, resOf, St.rest, St.freeze, RT, go_sem, ↓reduceIte, seval]

structure OkRel (t : Tbl) (rows : List Row) : Prop where
  n24 : rows.length ≤ 24
  row : ∀ j, ∀ h : j < rows.length, rowE t rows[j] = 0
  ord : ∀ j, ∀ h : j + 1 < rows.length, cmpRows (keyOf t.pk rows[j]) (keyOf t.pk rows[j + 1]) < 0

theorem CallJ.apart {P : Program} {T : TypeId → Option TI} {ops : Array Oper} {l : List Oper} {K : St → Prop} {f : FuncId} {fn : Func} {s : St} {d : Option Tmp} {id lo n id' lo' n' : Nat} (t e : TypeId) (tR : TypeId) (sz : Nat) (r r' : RowC) (hf : P.funcs[f]? = some fn) (hname : (fn.name == "runtime.NumGoroutine") = false)
    (hb : fn.body.isNone = true) (hn : Extern.findNext fn = none) (he : Extern.find fn = some (Extern.SlicesOverlaps.overlaps #[t, t] #[tR])) (ht : P.underlying t = some (.slice e)) (hz : ∀ w, (sizeOf e).run P w = .ok sz w)
    (hne : id ≠ id') (hr : look s.row id = some r) (hr' : look s.row id' = some r') (hcl : ovOut r'.ov r'.xs.length) (hfit : lo' + n' ≤ r'.xs.length) (h0 : 0 < n') (hs0 : 0 < r'.sz)
    (hk : s.okD d ∧ VOps P T ops l (St.putO { s with row := sput id' ⟨r'.sz, r'.xs.take (lo' + n'), []⟩ s.row } d (.v (.one (.bool false)))) K) : CallJ P T ops d l s K (f, [.one (.ref id lo n), .one (.ref id' lo' n')]) :=
  ⟨_, CallMoves.apart hf hname hb hn he ht hz hk.1 hne hr hr' hcl hfit h0 hs0, hk.2⟩

theorem toList_inj {a b : ByteArray} (h : a.toList = b.toList) : a = b := by
  rw [ByteArray.toList_eq, ByteArray.toList_eq] at h
  cases a; cases b
  simp only at h
  congr 1
  exact Array.ext' h
structure IsCmp {α : Type} (c : α → α → Int) : Prop where
  eq0 : ∀ a b, c a b = 0 ↔ a = b
  anti : ∀ a b, c a b = -(c b a)
  trans : ∀ x y z, c x y < 0 → c y z < 0 → c x z < 0
theorem IsCmp.refl {α : Type} {c : α → α → Int} (h : IsCmp c) (a : α) : c a a = 0 := (h.eq0 a a).2 rfl
theorem IsCmp.le_trans {α : Type} {c : α → α → Int} (h : IsCmp c) {x y z : α} (h1 : c x y ≤ 0) (h2 : c y z ≤ 0) : c x z ≤ 0 := by
  rcases Int.lt_or_eq_of_le h1 with h1 | h1
  · rcases Int.lt_or_eq_of_le h2 with h2 | h2
    · exact Int.le_of_lt (h.trans _ _ _ h1 h2)
    · rw [← (h.eq0 _ _).1 h2]; omega
  · rw [(h.eq0 _ _).1 h1]; exact h2
theorem cmpInts_is : IsCmp cmpInts := by
  refine ⟨fun a b => ?_, fun a b => ?_, fun x y z => ?_⟩ <;> unfold cmpInts <;> (repeat' split) <;> omega
theorem cmpL_is : IsCmp Lib.compareBytes := by
  refine ⟨fun a => ?_, fun a => ?_, fun a => ?_⟩
  · induction a with
    | nil => intro b; cases b <;> simp [Lib.compareBytes]
    | cons x a ih =>
      intro b
      cases b with
      | nil => simp [Lib.compareBytes]
      | cons y b =>
        simp only [Lib.compareBytes, List.cons.injEq]
        have := ih b
        have hxy : x = y ↔ x.toNat = y.toNat := ⟨fun h => by rw [h], fun h => UInt8.toNat_inj.1 h⟩
        simp only [UInt8.lt_iff_toNat_lt] at *
        (repeat' split) <;> simp_all <;> omega
  · induction a with
    | nil => intro b; cases b <;> simp [Lib.compareBytes]
    | cons x a ih =>
      intro b
      cases b with
      | nil => simp [Lib.compareBytes]
      | cons y b =>
        simp only [Lib.compareBytes]
        have := ih b
        simp only [UInt8.lt_iff_toNat_lt] at *
        (repeat' split) <;> simp_all <;> omega
  · induction a with
    | nil =>
      intro y z h1 h2
      cases y <;> cases z <;> simp_all [Lib.compareBytes]
    | cons x a ih =>
      intro b c h1 h2
      cases b with
      | nil => simp [Lib.compareBytes] at h1
      | cons y b =>
        cases c with
        | nil => simp [Lib.compareBytes] at h2
        | cons z c =>
          simp only [Lib.compareBytes] at *
          have := ih b c
          simp only [UInt8.lt_iff_toNat_lt] at *
          (repeat' split) <;> (repeat' split at h1) <;> (repeat' split at h2) <;> simp_all <;> omega
theorem cmpS_is : IsCmp cmpS := by
  refine ⟨fun a b => ?_, fun a b => cmpL_is.anti _ _, fun x y z => cmpL_is.trans _ _ _⟩
  unfold cmpS
  rw [cmpL_is.eq0]
  exact ⟨fun h => toList_inj (by rw [ByteArray.toList_eq, ByteArray.toList_eq]; exact h), fun h => by rw [h]⟩
def lexC {α β γ : Type} (f : γ → α) (g : γ → β) (c : α → α → Int) (d : β → β → Int) (x y : γ) : Int := if c (f x) (f y) ≠ 0 then c (f x) (f y) else d (g x) (g y)
theorem lexC_is {α β γ : Type} {f : γ → α} {g : γ → β} {c : α → α → Int} {d : β → β → Int} (hc : IsCmp c) (hd : IsCmp d) (hi : ∀ x y, f x = f y → g x = g y → x = y) : IsCmp (lexC f g c d) := by
  refine ⟨fun a b => ?_, fun a b => ?_, fun x y z h1 h2 => ?_⟩
  · unfold lexC
    have h1 := hc.eq0 (f a) (f b)
    have h2 := hd.eq0 (g a) (g b)
    split
    · rename_i h
      exact ⟨fun e => absurd e h, fun e => by rw [e] at h; exact absurd (hc.refl _) h⟩
    · rename_i h
      have h : c (f a) (f b) = 0 := by simpa using h
      rw [h2]
      exact ⟨fun e => hi a b (h1.1 h) e, fun e => by rw [e]⟩
  · unfold lexC
    have h1 := hc.anti (f a) (f b)
    have h2 := hd.anti (g a) (g b)
    split <;> split <;> omega
  · unfold lexC at *
    by_cases e1 : c (f x) (f y) = 0
    · have e1' := (hc.eq0 _ _).1 e1
      rw [if_neg (by simp [e1])] at h1
      rw [e1']
      by_cases e2 : c (f y) (f z) = 0
      · rw [if_neg (by simp [e2])] at h2 ⊢
        exact hd.trans _ _ _ h1 h2
      · rw [if_pos e2] at h2 ⊢
        exact h2
    · rw [if_pos e1] at h1
      by_cases e2 : c (f y) (f z) = 0
      · rw [← (hc.eq0 _ _).1 e2, if_pos e1]
        exact h1
      · rw [if_pos e2] at h2
        have h3 := hc.trans _ _ _ h1 h2
        rw [if_pos (by omega)]
        exact h3
theorem cmpV_is : IsCmp cmpV := by
  have h1 : IsCmp (lexC (γ := Val) Val.kind (fun v => (v.int, v.text)) cmpInts (lexC Prod.fst Prod.snd cmpInts cmpS)) :=
    lexC_is cmpInts_is (lexC_is cmpInts_is cmpS_is fun x y h1 h2 => Prod.ext h1 h2) fun x y h1 h2 => by
      cases x; cases y
      simp only [Prod.mk.injEq] at h1 h2
      simp [h1, h2.1, h2.2]
  exact h1

theorem cmpCell_shift (y : Val) (b : Row) : ∀ (a : Row) (k : Nat), scan (cmpCell (y :: b)) a (k + 1) = scan (cmpCell b) a k
  | [], _ => rfl
  | x :: a, k => by
    have e : cmpCell (y :: b) (k + 1) x = cmpCell b k x := by
      unfold cmpCell
      simp
    rw [scan, scan, e, cmpCell_shift y b a (k + 1)]
theorem cmpRows_nil_nil : cmpRows [] [] = 0 := rfl
theorem cmpRows_nil_cons (y : Val) (b : Row) : cmpRows [] (y :: b) = -1 := by
  unfold cmpRows
  simp only [scan, cmpInts, List.length_nil, List.length_cons]
  rw [if_pos (by omega)]
theorem cmpRows_cons_nil (x : Val) (a : Row) : cmpRows (x :: a) [] = 1 := by
  have h : scan (cmpCell []) (x :: a) 0 = none := scan_all_none fun j y _ => by simp [cmpCell]
  unfold cmpRows
  rw [h]
  simp only [cmpInts, List.length_nil, List.length_cons]
  rw [if_neg (by omega), if_pos (by omega)]
theorem cmpRows_cons (x y : Val) (a b : Row) : cmpRows (x :: a) (y :: b) = if cmpV x y ≠ 0 then cmpV x y else cmpRows a b := by
  unfold cmpRows
  rw [scan, show cmpCell (y :: b) 0 x = if cmpV x y ≠ 0 then some (cmpV x y) else none by simp [cmpCell]]
  by_cases h : cmpV x y = 0
  · rw [if_neg (by simp [h]), if_neg (by simp [h])]
    simp only
    rw [cmpCell_shift y b a 0]
    cases scan (cmpCell b) a 0 with
    | some e => rfl
    | none =>
      simp only [cmpInts, List.length_cons]
      (repeat' split) <;> omega
  · rw [if_pos h, if_pos h]
theorem cmpRows_is : IsCmp cmpRows := by
  refine ⟨fun a => ?_, fun a => ?_, fun a => ?_⟩
  · induction a with
    | nil => intro b; cases b with
      | nil => simp [cmpRows_nil_nil]
      | cons y b => simp [cmpRows_nil_cons]
    | cons x a ih => intro b; cases b with
      | nil => simp [cmpRows_cons_nil]
      | cons y b =>
        rw [cmpRows_cons]
        have h1 := cmpV_is.eq0 x y
        have h2 := ih b
        split
        · rename_i h; simp [h]; intro e; exact absurd (h1.2 e) h
        · rename_i h
          have h : cmpV x y = 0 := by simpa using h
          rw [h2]; simp [h1.1 h]
  · induction a with
    | nil => intro b; cases b with
      | nil => rfl
      | cons y b => rw [cmpRows_nil_cons, cmpRows_cons_nil]
    | cons x a ih => intro b; cases b with
      | nil => rw [cmpRows_nil_cons, cmpRows_cons_nil]; rfl
      | cons y b =>
        rw [cmpRows_cons, cmpRows_cons]
        have h1 := cmpV_is.anti x y
        have h2 := ih b
        split <;> split <;> omega
  · induction a with
    | nil => intro b c h1 h2; cases b with
      | nil => rw [cmpRows_nil_nil] at h1; omega
      | cons y b => cases c with
        | nil => rw [cmpRows_cons_nil] at h2; omega
        | cons z c => rw [cmpRows_nil_cons]; omega
    | cons x a ih => intro b c h1 h2; cases b with
      | nil => rw [cmpRows_cons_nil] at h1; omega
      | cons y b => cases c with
        | nil => rw [cmpRows_cons_nil] at h2; omega
        | cons z c =>
          rw [cmpRows_cons] at h1 h2 ⊢
          by_cases e1 : cmpV x y = 0
          · rw [if_neg (by simp [e1])] at h1
            rw [(cmpV_is.eq0 _ _).1 e1]
            by_cases e2 : cmpV y z = 0
            · rw [if_neg (by simp [e2])] at h2 ⊢
              exact ih b c h1 h2
            · rw [if_pos e2] at h2 ⊢; exact h2
          · rw [if_pos e1] at h1
            by_cases e2 : cmpV y z = 0
            · rw [← (cmpV_is.eq0 _ _).1 e2, if_pos e1]; exact h1
            · rw [if_pos e2] at h2
              have h3 := cmpV_is.trans _ _ _ h1 h2
              rw [if_pos (by omega)]; exact h3

def SR (t : Tbl) (rows : List Row) : Prop := rows.Pairwise fun a b => cmpRows (keyOf t.pk a) (keyOf t.pk b) < 0
theorem sr_of {t : Tbl} : ∀ {rows : List Row}, (∀ j, ∀ h : j + 1 < rows.length, cmpRows (keyOf t.pk rows[j]) (keyOf t.pk rows[j + 1]) < 0) → SR t rows
  | [], _ => .nil
  | x :: l, h => by
    have hl : SR t l := sr_of fun j hj => h (j + 1) (by simpa using hj)
    refine .cons (fun y hy => ?_) hl
    cases l with
    | nil => cases hy
    | cons z l =>
      have h0 : cmpRows (keyOf t.pk x) (keyOf t.pk z) < 0 := by simpa using h 0 (by simp)
      rcases List.mem_cons.1 hy with rfl | hy
      · exact h0
      · exact cmpRows_is.trans _ _ _ h0 ((List.pairwise_cons.1 hl).1 y hy)
theorem sr_get {t : Tbl} {rows : List Row} (h : SR t rows) : ∀ j, ∀ hj : j + 1 < rows.length, cmpRows (keyOf t.pk rows[j]) (keyOf t.pk rows[j + 1]) < 0 :=
  fun j hj => List.pairwise_iff_getElem.1 h j (j + 1) (by omega) hj (by omega)

theorem Sch.Fits.sub {s : Sch} (h : s.Fits) {fks : List FK} {cons : List Con} (hf : fks.Sublist s.fks) (hc : cons.Sublist s.cons) : (⟨s.tables, fks, cons⟩ : Sch).Fits :=
  ⟨h.tables, h.table, Nat.le_trans hf.length_le h.fks, fun f hf' => h.fk f (hf.subset hf'), Nat.le_trans hc.length_le h.cons⟩

theorem okRel_iff (t : Tbl) (rows : List Row) : OkRel t rows ↔ rows.length ≤ 24 ∧ (∀ x ∈ rows, rowE t x = 0) ∧ SR t rows := by
  constructor
  · rintro ⟨h1, h2, h3⟩
    refine ⟨h1, fun x hx => ?_, sr_of h3⟩
    obtain ⟨j, hj, rfl⟩ := List.mem_iff_getElem.1 hx
    exact h2 j hj
  · rintro ⟨h1, h2, h3⟩
    exact ⟨h1, fun j hj => h2 _ (List.getElem_mem hj), fun j hj => sr_get h3 j hj⟩
theorem OkRel.sub {t : Tbl} {l rows : List Row} (h : OkRel t rows) (hs : l.Sublist rows) : OkRel t l := by
  obtain ⟨h1, h2, h3⟩ := (okRel_iff _ _).1 h
  exact (okRel_iff _ _).2 ⟨Nat.le_trans hs.length_le h1, fun x hx => h2 x (hs.subset hx), List.Pairwise.sublist hs h3⟩

section
open Go.RowKit
def memOf (w : World) : Mem := fun x => w.cell? x
def CRd (w : World) (cs : List Value) (ls : List L) : Prop := cs.length = ls.length ∧ ∀ (j : Nat) (l : L), ls[j]? = some l → ∃ v, cs[j]? = some v ∧ Rep (memOf w) v l

theorem CRd.append {w : World} {cs cs' : List Value} {ls ls' : List L} (h : CRd w cs ls) (h' : CRd w cs' ls') : CRd w (cs ++ cs') (ls ++ ls') := by
  refine ⟨by simp [h.1, h'.1], fun j l hj => ?_⟩
  rcases Nat.lt_or_ge j ls.length with hlt | hge
  · rw [List.getElem?_append_left hlt] at hj
    rw [List.getElem?_append_left (by rw [h.1]; exact hlt)]
    exact h.2 j l hj
  · rw [List.getElem?_append_right hge] at hj
    rw [List.getElem?_append_right (by rw [h.1]; exact hge), h.1]
    exact h'.2 _ l hj

structure Rd (P : Program) (w : World) (t : TypeId) {α : Type} (e : α → List L) (good : α → Prop) : Prop where
  get : ∀ {H : Type} {enc : TypeId × Value → H} {base : Nat} {spare : Nat → Bool} {held : Bool} {n : Nat} {cs : List Value} {x : DataW H × List MemPlace}, DataW.trod enc P w base spare held n t cs = some x →
    (∀ n ∈ x.1.weights P t, n ≤ reachBytes) → ∃ y, good y ∧ CRd w cs (e y)

variable {P : Program} {w : World} {t : TypeId}

theorem CRd.one {v : Value} {l : L} (h : Rep (memOf w) v l) : CRd w [v] [l] := by
  refine ⟨rfl, fun j x hj => ?_⟩
  cases j with
  | zero => simp only [List.getElem?_cons_zero, Option.some.injEq] at hj; subst hj; exact ⟨v, rfl, h⟩
  | succ j => simp at hj

theorem Rd.to {α β : Type} {e : α → List L} {e' : β → List L} {good : α → Prop} {good' : β → Prop} (h : Rd P w t e good) (f : α → β) (he : ∀ x, e' (f x) = e x) (hg : ∀ x, good x → good' (f x)) : Rd P w t e' good' := by
  constructor
  intro H enc base spare held n cs x h1 h2
  obtain ⟨y, h3, h4⟩ := h.get h1 h2
  exact ⟨f y, hg y h3, by rw [he]; exact h4⟩

theorem choose_list {α : Type} {R : Nat → α → Prop} : ∀ (n : Nat), (∀ i, i < n → ∃ x, R i x) → ∃ l : List α, l.length = n ∧ ∀ i x, l[i]? = some x → R i x
  | 0, _ => ⟨[], rfl, fun i x h => by simp at h⟩
  | n + 1, h => by
    obtain ⟨l, h1, h2⟩ := choose_list n fun i hi => h i (by omega)
    obtain ⟨x, hx⟩ := h n (by omega)
    refine ⟨l ++ [x], by simp [h1], fun i y hy => ?_⟩
    rcases Nat.lt_or_ge i n with hlt | hge
    · rw [List.getElem?_append_left (by omega)] at hy
      exact h2 i y hy
    · rw [List.getElem?_append_right (by omega)] at hy
      have : i = n := by
        have := (List.getElem?_eq_some_iff.1 hy).1
        simp only [List.length_singleton] at this
        omega
      subst this
      simp [h1] at hy
      subst hy
      exact hx

theorem vrep_agg {cs : Array Value} {ls : List L} {ω : Wh} (h : CRd w cs.toList ls) : VRep (memOf w) ω (.agg cs) (.agg ls) := by
  refine ⟨cs, rfl, by simpa using h.1, fun j l hj => ?_⟩
  obtain ⟨v, h1, h2⟩ := h.2 j l hj
  exact ⟨v, by simpa using h1, h2.erep⟩
def NoLib (P : Program) : Bool := (P.globalNamed "internal/strconv.uint64pow10").isNone && (P.globalNamed "strconv.ErrSyntax").isNone && (P.globalNamed "strconv.ErrRange").isNone
theorem var_kept {P : Program} {w w' : World} {F : Nat → Prop} (hF : ∀ k, ¬ F k) (hk : Keeps F w w') {nm : String} {x : Array Value} (h : w.var? P nm = some x) : w'.var? P nm = some x := by
  unfold World.var? at h ⊢
  cases hg : P.globalNamed nm with
  | none => rw [hg] at h; cases h
  | some g =>
    rw [hg] at h
    have hlt : g < w.heap.size := by
      rcases Nat.lt_or_ge g w.heap.size with hc | hc
      · exact hc
      · have e : w.heap[g]? = none := by simp [hc]
        simp only [Option.bind_some, e] at h
        cases h
    simp only [Option.bind_some, hk.block g hlt (hF g)] at h ⊢
    exact h
theorem goodC_none {P : Program} {w : World} {F : Nat → Prop} (hg : NoLib P = true ∨ LaidW P w) (hF : ∀ k, ¬ F k) : GoodC P w F := by
  intro w' hk
  rcases hg with hg | hg
  · simp only [NoLib, Bool.and_eq_true, Option.isNone_iff_eq_none] at hg
    obtain ⟨⟨h1, h2⟩, h3⟩ := hg
    exact ⟨fun h => absurd h (by rw [h1]; decide), fun h => absurd h (by rw [h2]; decide), fun h => absurd h (by rw [h3]; decide)⟩
  · refine ⟨fun h => var_kept hF hk (hg.pow h), fun h => ?_, fun h => ?_⟩
    · obtain ⟨tp, p, e⟩ := hg.syn h
      exact ⟨tp, p, var_kept hF hk e⟩
    · obtain ⟨tp, p, e⟩ := hg.rng h
      exact ⟨tp, p, var_kept hF hk e⟩

theorem calls_of_sat {f : FuncId} {fn : Func} {c : Code} {xs : List V} {b : Bool} {vs : List Value} (hf : P.funcs[f]? = some fn) (hb : fn.body = some c) (hn : (fn.name == "runtime.NumGoroutine") = false) (h : Sat P f xs (.v (.one (.bool b))))
    (hA : ∀ ω, ArgsRep (memOf w) ω vs xs) (hg : NoLib P = true ∨ LaidW P w := by exact .inl (by kernel_rfl)) : Calls P f vs.toArray w fun e w' => e = .returned (.bool b) ∧ Below w.heap.size w w' := by
  have ω : Wh := { box := fun _ => 0, row := fun _ => { blk := none, cap := 0, sz := 0 }, f := fun _ _ _ => False }
  have hCI : CI P w (memOf w) (handed [] [] ω) (roots [] []) a0 w (memOf w) ω := by
    refine { size := rfl, defers := rfl, keeps := ⟨rfl, rfl, rfl, Nat.le_refl _, fun _ _ _ => rfl⟩, mle := Mem.le_refl _, mold := fun _ _ _ => rfl, ok := fun _ _ h => h, env := fun _ _ h => (by cases h), box := fun _ _ h => (by cases h), row := fun _ _ h => (by cases h), fresh := fun κ id hl => ?_, apart := fun κ id κ' id' hl => ?_, home := ⟨fun id hid => ?_, fun _ _ h => (by simp [handed, look] at h), fun _ _ h => (by simp [handed, look] at h)⟩, good := goodC_none hg fun k hk => owned_none hk }
    · cases κ <;> exact absurd hl (by simp [St.live, roots, look])
    · cases κ <;> exact absurd hl (by simp [St.live, roots, look])
    · simp [handed, look] at hid
  have h1 := h.call (memOf w) w vs ω hCI (hA ω)
  rcases h1 with ⟨v, w', h2, _⟩ | ⟨_, h2⟩
  · have h3 : (callFunc f vs.toArray).run P w = .ok (.enter f vs.toArray) w := by
      simp only [callFunc, Sem.run_bind, program, Sem.run, Result.andThen_ok, hf]
      rw [hn, hb]
      simp
    rw [h3] at h2
    cases h2
  · refine h2.mono fun e w' ⟨v, he, m', ω', hC, hv⟩ => ?_
    have hv : v = .bool b := by
      have hv : Rep m' v (.bool b) := hv
      cases hv
      rfl
    subst hv
    refine ⟨he, hC.keeps.os, hC.keeps.tape, hC.keeps.output, hC.keeps.size, fun k hk => hC.keeps.block k hk fun ho => ?_⟩
    obtain ⟨κ, id, hl, _⟩ := ho
    cases κ <;> exact absurd hl (by simp [St.live, roots, look])

theorem argsRep_nil {m : Mem} {ω : Wh} : ArgsRep m ω [] [] := ⟨rfl, fun i x h => by simp at h⟩
theorem argsRep_cons {m : Mem} {ω : Wh} {v : Value} {x : V} {vs : List Value} {xs : List V} (h : VRep m ω v x) (hs : ArgsRep m ω vs xs) : ArgsRep m ω (v :: vs) (x :: xs) := by
  refine ⟨by simp [hs.1], fun i y hy => ?_⟩
  cases i with
  | zero => simp only [List.getElem?_cons_zero, Option.some.injEq] at hy; subst hy; exact ⟨v, rfl, h⟩
  | succ i => exact hs.2 i y (by simpa using hy)

section
open Go.ChangeShapes
variable {H : Type} {enc : TypeId × Value → H} {w' : World} {base : Nat} {sp : Nat → Bool} {held : Bool}
theorem trodAll_carry (hs : ∀ p : MemPlace, p.block < w.heap.size → w.sameAt w' p) : ∀ {ts : List TypeId} {vs : List Value} {ds : List (DataW H)} {ps : List MemPlace}, DataW.TrodAll enc P w base sp held ts vs ds ps → (∀ p ∈ ps, p.block < w.heap.size) → DataW.TrodAll enc P w' base sp held ts vs ds ps
  | [], vs, ds, ps, h, _ => by
    obtain ⟨rfl, rfl, rfl⟩ := trodAll_nil h
    exact rfl
  | t :: ts, vs, ds, ps, h, hp => by
    obtain ⟨v, vs1, d, ds1, a, b, rfl, rfl, rfl, ⟨n, h1⟩, h2⟩ := trodAll_cons h
    exact ⟨a, b, ⟨n, DataW.trod_carry n _ _ _ h1 fun p hp' => hs p (hp p (by simp [hp']))⟩, trodAll_carry hs h2 fun p hp' => hp p (by simp [hp']), rfl⟩
theorem trodAll_below (hl : laidOutB P = true) (hb : Below w.heap.size w w') : ∀ {ts : List TypeId} {vs : List Value} {ds : List (DataW H)} {ps : List MemPlace}, (ts.all fun t => P.readableRec t && decide (t < P.types.size)) = true → DataW.TrodAll enc P w 0 (fun _ => true) true ts vs ds ps → (∀ p ∈ ps, p.block < w.heap.size) →
    DataW.TrodAll enc P w' 0 (fun b => decide (b < w.heap.size)) true ts vs ds ps
  | [], vs, ds, ps, _, h, _ => by
    obtain ⟨rfl, rfl, rfl⟩ := trodAll_nil h
    exact rfl
  | t :: ts, vs, ds, ps, hr, h, hp => by
    obtain ⟨v, vs1, d, ds1, a, b, rfl, rfl, rfl, h1, h2⟩ := trodAll_cons h
    simp only [List.all_cons, Bool.and_eq_true, decide_eq_true_eq] at hr
    exact ⟨a, b, Below.trod hl hr.1.1 hr.1.2 h1 hb fun p hp' => hp p (by simp [hp']), trodAll_below hl hb hr.2 h2 fun p hp' => hp p (by simp [hp']), rfl⟩

theorem post_of_below {f : Func} {s : ChangeSpec} {apart fresh again : Bool} {args : Array Value} {ds gs : List (DataW H)} {before : List MemPlace} {rt : TypeId} (hl : laidOutB P = true) (hrt : f.resultTypes = #[rt]) (hub : P.underlying rt = some .bool)
    (hread : (f.params.toList.all fun t => P.readableRec t && decide (t < P.types.size)) = true) (hvs : s.vars = [])
    (hW : DataW.Whole enc P f.params.toList s.vars apart w args.toList ds gs before) (hb : Below w.heap.size w w')
    (hfn : s.fn H ds = { results := [.lit (.bool true)], args := ds }) : s.post enc P f apart fresh false again w args (.bool true) w' := by
  have hW0 := hW
  have hlt : ∀ p ∈ before, p.block < w.heap.size := fun p hp => by simpa using hW.lt p hp
  obtain ⟨p, q, hA, hV, rfl, hz, hn⟩ := hW
  rw [hvs] at hV
  have hgq : gs = [] ∧ q = [] := by
    cases gs with
    | nil => exact ⟨rfl, hV⟩
    | cons g gs => exact absurd hV (by simp [DataW.TrodVars])
  obtain ⟨rfl, rfl⟩ := hgq
  simp only [List.append_nil] at hlt hz hn ⊢
  have hres : ∀ (b : Nat) (sp : Nat → Bool) (hd : Bool), DataW.TrodAll enc P w' b sp hd f.resultTypes.toList ((Value.bool true).resultList f.resultTypes.size) (s.fn H (ds ++ [])).results [] := by
    intro b sp hd
    rw [hrt, List.append_nil, hfn]
    exact ⟨[], [], ⟨1, by simp [DataW.trod, hub, Value.cells]⟩, rfl, rfl⟩
  have hargs1 := trodAll_below (P := P) hl hb hread hA hlt
  have hargs2 := trodAll_carry (P := P) (w := w) (w' := w') (fun p hp => hb.same hp) hA hlt
  have hvars : ∀ sp, DataW.TrodVars enc P w' sp s.vars (s.fn H (ds ++ [])).vars [] := by
    intro sp
    rw [hvs, List.append_nil, hfn]
    exact rfl
  refine ⟨ds, [], p ++ [], [], p, [], hW0, hres _ _ _, by rw [List.append_nil, hfn]; exact hargs1, hvars _, World.keptBut_mono (fun p hp => ⟨by simpa using hp.1, ?_⟩) (hb.frame fun x => x ∈ p ∧ True), fun _ => ?_⟩
  · simpa using hp.1
  · refine ⟨?_, _, _, ([] ++ p) ++ [], ⟨[] ++ p, [], trodAll_append hargs2 (hres _ _ _), hvars _, rfl, ?_, ?_⟩, ?_⟩
    · exact ok_one hrt rfl (okWide_bool_mk hub true)
    · intro b off hp
      have hp : MemPlace.cell b off ∈ p := by simpa using hp
      rw [hb.frozen (hlt _ hp)]
      exact hz b off hp
    · intro ha
      simpa using hn ha
    · intro p hp _
      simpa using hp
end
end

section
variable {w : World}
theorem cells_int : Tryd.prog.cellsOf 3 = 1 := by kernel_rfl
theorem cells_string : Tryd.prog.cellsOf 9 = 1 := by kernel_rfl
theorem cells_bool : Tryd.prog.cellsOf 4 = 1 := by kernel_rfl
theorem cells_Value : Tryd.prog.cellsOf 50 = 3 := by kernel_rfl
theorem cells_s_Column : Tryd.prog.cellsOf 22 = 1 := by kernel_rfl
theorem cells_Column : Tryd.prog.cellsOf 46 = 3 := by kernel_rfl
theorem cells_s_int : Tryd.prog.cellsOf 23 = 1 := by kernel_rfl
theorem cells_Table : Tryd.prog.cellsOf 25 = 3 := by kernel_rfl
theorem cells_s_Table : Tryd.prog.cellsOf 38 = 1 := by kernel_rfl
theorem cells_ForeignKey : Tryd.prog.cellsOf 48 = 3 := by kernel_rfl
theorem cells_s_ForeignKey : Tryd.prog.cellsOf 39 = 1 := by kernel_rfl
theorem cells_Constraint : Tryd.prog.cellsOf 52 = 7 := by kernel_rfl
theorem cells_s_Constraint : Tryd.prog.cellsOf 40 = 1 := by kernel_rfl
theorem cells_Schema : Tryd.prog.cellsOf 42 = 3 := by kernel_rfl
end

section
theorem laid : laidOutB Tryd.prog = true := by kernel_rfl
theorem ownK : ownKnob Tryd.prog.godebug = none := by kernel_rfl

variable {w : World}
end

def conB (c : Con) : ByteArray := ((((sizedB c.table ++ sizedB c.op) ++ itoaB c.left) ++ (⟨#[32]⟩ : ByteArray)) ++ itoaB c.right) ++ encB [c.value]
def fkS (f : FK) : ByteArray := fkB f ++ (⟨#[59]⟩ : ByteArray)
def schH (s : Sch) : ByteArray := ((((itoaB s.tables.length ++ (⟨#[59]⟩ : ByteArray)) ++ itoaB s.fks.length) ++ (⟨#[59]⟩ : ByteArray)) ++ itoaB s.cons.length) ++ (⟨#[59]⟩ : ByteArray)
def schB (s : Sch) : ByteArray := cat (cat (cat (schH s) (s.tables.map tblB)) (s.fks.map fkS)) (s.cons.map conB)
structure ConF (c : Con) : Prop where
  table : c.table.size ≤ 1048576
  op : c.op.size ≤ 1048576
  left : IntB c.left
  right : IntB c.right
  value : ValFits c.value
structure SchF (s : Sch) : Prop where
  nt : s.tables.length ≤ 1048576
  tables : ∀ t ∈ s.tables, TblF t
  nf : s.fks.length ≤ 1048576
  fks : ∀ f ∈ s.fks, FkF f
  nc : s.cons.length ≤ 1048576
  cons : ∀ c ∈ s.cons, ConF c
theorem encB_size {r : Row} (h : RowFits r) : (encB r).size ≤ 21 + r.length * 1048643 := by
  have e : (encB r).size = (encL r r.length).length := by
    show (encB r).data.size = _
    rw [← Array.length_toList]
    simp [encB]
  rw [e]
  exact encL_le h _ (Nat.le_refl _)
theorem fkS_size {f : FK} (h : FkF f) : (fkS f).size ≤ 30000001 := by
  have h1 := fkB_size h
  have b1 : (⟨#[59]⟩ : ByteArray).size = 1 := rfl
  simp only [fkS, ByteArray.size_append, b1]
  omega
theorem ConF.row {c : Con} (h : ConF c) : RowFits [c.value] := ⟨by simp, fun v hv => by rw [List.mem_singleton.1 hv]; exact h.value⟩
theorem conB_size {c : Con} (h : ConF c) : (conB c).size ≤ 4000000 := by
  have h1 := sizedB_size _ h.table
  have h2 := sizedB_size _ h.op
  have h3 := itoaB_size c.left h.left.1 h.left.2
  have h4 := itoaB_size c.right h.right.1 h.right.2
  have h5 := encB_size h.row
  have b1 : (⟨#[32]⟩ : ByteArray).size = 1 := rfl
  simp only [List.length_cons, List.length_nil] at h5
  simp only [conB, ByteArray.size_append, b1]
  omega
theorem schH_size {s : Sch} (h : SchF s) : (schH s).size ≤ 66 := by
  have h1 := itoaB_size s.tables.length (by omega) (by have := h.nt; omega)
  have h2 := itoaB_size s.fks.length (by omega) (by have := h.nf; omega)
  have h3 := itoaB_size s.cons.length (by omega) (by have := h.nc; omega)
  have b1 : (⟨#[59]⟩ : ByteArray).size = 1 := rfl
  simp only [schH, ByteArray.size_append, b1]
  omega
set_option maxHeartbeats 16000000 in
theorem schemaID_sat (s : Sch) (h : SchF s) : Sat Tryd.prog 17 [.agg (eSch s)] (.v (oS (schB s))) := by
  have n1 := h.nt
  have n2 := h.nf
  have n3 := h.nc
  have z1 := itoaB_size s.tables.length (by omega) (by omega)
  have z2 := itoaB_size s.fks.length (by omega) (by omega)
  have z3 := itoaB_size s.cons.length (by omega) (by omega)
  have i1 := itoa_sat s.tables.length (by omega) (by omega)
  have i2 := itoa_sat s.fks.length (by omega) (by omega)
  have i3 := itoa_sat s.cons.length (by omega) (by omega)
  have hH := schH_size h
  have b1 : (⟨#[59]⟩ : ByteArray).size = 1 := rfl
  have b2 : (⟨#[32]⟩ : ByteArray).size = 1 := rfl
  have eH : ((((itoaB s.tables.length ++ (⟨#[59]⟩ : ByteArray)) ++ itoaB s.fks.length) ++ (⟨#[59]⟩ : ByteArray)) ++ itoaB s.cons.length) ++ (⟨#[59]⟩ : ByteArray) = schH s := rfl
  refine sat_of_body tyOk Tryd.func17 rfl (by kernel_rfl) ⟨Nat.le_of_ble_eq_true rfl, Nat.le_of_ble_eq_true rfl⟩ fun w0 m0 F0 => ?_
  simp only [Tryd.ntmps17, envOf, Nat.reduceAdd]
  repeat' (first | ((first | with_reducible refine qV tyOk fun K hK => ?_ | (with_reducible first | refine qG ?_ | refine qH ?_ | refine qP ?_ | refine qGx ?_ | refine qHx ?_ | refine qPx ?_) | ((with_reducible first | refine qS ?_ ?_ | refine qT ?_ ?_ | refine qU ?_ ?_) <;> (intro h; try simp only [NM] at h)) | with_reducible refine yD tyOk mixed 6 (by kernel_rfl) fun K hK => ?_ | ((with_reducible refine CallJ.is ?_); (first | refine CallJ.pure (i1) ?_ | refine CallJ.pure (i2) ?_ | refine CallJ.pure (i3) ?_ | ((apply CallJ.lentI); (focus (simp -dsimp (disch := (first | omega | (simp only [LN]; omega))) only [go_sem, ↓reduceIte, seval, ByteArray.size_append, b1]; rfl)); (focus (first | exact (i1) | exact (i2) | exact (i3)))))) | ((with_reducible refine CallH.is ?_); (first | refine CallH.intro (i1) ?_ | refine CallH.intro (i2) ?_ | refine CallH.intro (i3) ?_))) <;> simp -dsimp (disch := (first | omega | (simp only [LN]; omega))) only [go_sem, ↓reduceIte, seval, ByteArray.size_append, b1]) | ((with_reducible refine hK _ ?_); clear hK K) | (with_reducible first | refine qA ?_ | refine qB ?_ | refine qC ?_ | refine qD ?_ | refine qE ?_ | refine qF ?_ | refine qL ?_ | refine qM ?_ | refine qN ?_ | refine qO ?_ | refine qQ ?_) | refine qR rfl ?_ | (with_reducible refine AI ?_) | ((with_reducible refine qW (T := TT) (b := ?_) ?_ ?_); rotate_left; exact rfl) | (with_reducible first | refine qX ?_ | refine qY ?_ | refine qZ ?_) | (with_reducible first | refine qI ?_ | refine qIx ?_ | fail) | ((with_reducible refine yS ?_ ?_) <;> (intro h; try simp only [NM] at h)))
  rw [eH]
  refine AWP.loop (ι := {k : Nat // k ≤ s.tables.length}) (fun k => ⟨84, [(1, .v (.one (.ptr 1 0))), (3, .v (oS (cat (schH s) ((s.tables.take k.1).map tblB)))), (28, .v (.one (eTbls s.tables))), (29, .v (oI s.tables.length)), (30, .v (oI k.1))], [(1, eSch s)], []⟩) (fun k => s.tables.length - k.1) ⟨0, Nat.zero_le _⟩ ?_ fun ⟨k, hkl⟩ => ?_
  · refine St.le_mk ?_ ?_ ?_ <;> simp only [LE, EN, Nat.reduceEqDiff, reduceIte, Nat.reduceSub, eSch, cat_nil]
  simp only
  have hs := cat_size_take tblB 1100000000000 s.tables (schH s) (fun c hc => tblB_size (h.tables c hc)) k hkl
  rcases Nat.lt_or_ge k s.tables.length with hc | hc
  · have hi := h.tables s.tables[k] (List.getElem_mem _)
    have z1 := tblB_size hi
    have es := cat_succ (schH s) tblB s.tables k hc
    repeat' (first | ((first | with_reducible refine qV tyOk fun K hK => ?_ | (with_reducible first | refine qG ?_ | refine qH ?_ | refine qP ?_ | refine qGx ?_ | refine qHx ?_ | refine qPx ?_) | ((with_reducible first | refine qS ?_ ?_ | refine qT ?_ ?_ | refine qU ?_ ?_) <;> (intro h; try simp only [NM] at h)) | ((with_reducible refine CallJ.is ?_); (first | refine CallJ.pure (tableID_sat s.tables[k] hi) ?_ | ((apply CallJ.lentI); (focus (simp -dsimp (disch := (first | omega | (simp only [LN]; omega))) only [go_sem, ↓reduceIte, seval, ByteArray.size_append]; rfl)); (focus (first | exact (tableID_sat s.tables[k] hi)))))) | ((with_reducible refine CallH.is ?_); (first | refine CallH.intro (tableID_sat s.tables[k] hi) ?_))) <;> simp -dsimp (disch := (first | omega | (simp only [LN]; omega))) only [go_sem, ↓reduceIte, seval, ByteArray.size_append]) | ((with_reducible refine hK _ ?_); clear hK K) | (with_reducible first | refine qA ?_ | refine qB ?_ | refine qC ?_ | refine qD ?_ | refine qE ?_ | refine qF ?_ | refine qL ?_ | refine qM ?_ | refine qN ?_ | refine qO ?_ | refine qQ ?_) | refine qR rfl ?_ | (with_reducible refine AI ?_) | ((with_reducible refine qW (T := TT) (b := ?_) ?_ ?_); rotate_left; exact rfl) | (with_reducible first | refine qX ?_ | refine qY ?_ | refine qZ ?_) | (with_reducible first | refine qI ?_ | refine qIx ?_ | fail) | ((with_reducible refine yS ?_ ?_) <;> (intro h; try simp only [NM] at h)))
    refine ⟨⟨k + 1, by omega⟩, by simp only; omega, ?_⟩
    refine St.le_mk ?_ ?_ ?_ <;> simp only [LE, EN, Nat.reduceEqDiff, reduceIte, Nat.reduceSub, eSch, es]
  rw [cat_all _ _ _ _ hc]
  have hs2 := cat_size tblB 1100000000000 s.tables (schH s) (fun c hc => tblB_size (h.tables c hc))
  obtain ⟨X, hX⟩ : ∃ X, cat (schH s) (s.tables.map tblB) = X := ⟨_, rfl⟩
  have eT : schB s = cat (cat X (s.fks.map fkS)) (s.cons.map conB) := by rw [← hX]; rfl
  rw [hX] at hs2 ⊢
  rw [eT]
  repeat' (first | ((first | with_reducible refine qV tyOk fun K hK => ?_ | (with_reducible first | refine qG ?_ | refine qH ?_ | refine qP ?_ | refine qGx ?_ | refine qHx ?_ | refine qPx ?_) | ((with_reducible first | refine qS ?_ ?_ | refine qT ?_ ?_ | refine qU ?_ ?_) <;> (intro h; try simp only [NM] at h))) <;> simp -dsimp (disch := (first | omega | (simp only [LN]; omega))) only [go_sem, ↓reduceIte, seval]) | ((with_reducible refine hK _ ?_); clear hK K) | (with_reducible first | refine qA ?_ | refine qB ?_ | refine qC ?_ | refine qD ?_ | refine qE ?_ | refine qF ?_ | refine qL ?_ | refine qM ?_ | refine qN ?_ | refine qO ?_ | refine qQ ?_) | refine qR rfl ?_ | (with_reducible refine AI ?_) | ((with_reducible refine qW (T := TT) (b := ?_) ?_ ?_); rotate_left; exact rfl) | (with_reducible first | refine qX ?_ | refine qY ?_ | refine qZ ?_) | (with_reducible first | refine qI ?_ | refine qIx ?_ | fail) | ((with_reducible refine yS ?_ ?_) <;> (intro h; try simp only [NM] at h)))
  refine AWP.loop (ι := {k : Nat // k ≤ s.fks.length}) (fun k => ⟨84, [(1, .v (.one (.ptr 1 0))), (3, .v (oS (cat X ((s.fks.take k.1).map fkS)))), (40, .v (.one (eFKs s.fks))), (41, .v (oI s.fks.length)), (42, .v (oI k.1))], [(1, eSch s)], []⟩) (fun k => s.fks.length - k.1) ⟨0, Nat.zero_le _⟩ ?_ fun ⟨j, hjl⟩ => ?_
  · refine St.le_mk ?_ ?_ ?_ <;> simp only [LE, EN, Nat.reduceEqDiff, reduceIte, Nat.reduceSub, eSch, cat_nil]
  simp only
  have hs3 := cat_size_take fkS 30000001 s.fks X (fun c hc => fkS_size (h.fks c hc)) j hjl
  rcases Nat.lt_or_ge j s.fks.length with hc2 | hc2
  · have hi := h.fks s.fks[j] (List.getElem_mem _)
    have z1 := fkB_size hi
    have es := cat_succ X fkS s.fks j hc2
    repeat' (first | ((first | with_reducible refine qV tyOk fun K hK => ?_ | (with_reducible first | refine qG ?_ | refine qH ?_ | refine qP ?_ | refine qGx ?_ | refine qHx ?_ | refine qPx ?_) | ((with_reducible first | refine qS ?_ ?_ | refine qT ?_ ?_ | refine qU ?_ ?_) <;> (intro h; try simp only [NM] at h)) | ((with_reducible refine CallJ.is ?_); (first | refine CallJ.pure (fkID_sat s.fks[j] hi) ?_ | ((apply CallJ.lentI); (focus (simp -dsimp (disch := (first | omega | (simp only [LN]; omega))) only [go_sem, ↓reduceIte, seval, ByteArray.size_append, b1]; rfl)); (focus (first | exact (fkID_sat s.fks[j] hi)))))) | ((with_reducible refine CallH.is ?_); (first | refine CallH.intro (fkID_sat s.fks[j] hi) ?_))) <;> simp -dsimp (disch := (first | omega | (simp only [LN]; omega))) only [go_sem, ↓reduceIte, seval, ByteArray.size_append, b1]) | ((with_reducible refine hK _ ?_); clear hK K) | (with_reducible first | refine qA ?_ | refine qB ?_ | refine qC ?_ | refine qD ?_ | refine qE ?_ | refine qF ?_ | refine qL ?_ | refine qM ?_ | refine qN ?_ | refine qO ?_ | refine qQ ?_) | refine qR rfl ?_ | (with_reducible refine AI ?_) | ((with_reducible refine qW (T := TT) (b := ?_) ?_ ?_); rotate_left; exact rfl) | (with_reducible first | refine qX ?_ | refine qY ?_ | refine qZ ?_) | (with_reducible first | refine qI ?_ | refine qIx ?_ | fail) | ((with_reducible refine yS ?_ ?_) <;> (intro h; try simp only [NM] at h)))
    refine ⟨⟨j + 1, by omega⟩, by simp only; omega, ?_⟩
    have ef : fkS s.fks[j] = fkB s.fks[j] ++ (⟨#[59]⟩ : ByteArray) := rfl
    rw [← ef]
    refine St.le_mk ?_ ?_ ?_ <;> simp only [LE, EN, Nat.reduceEqDiff, reduceIte, Nat.reduceSub, eSch, es]
  rw [cat_all _ _ _ _ hc2]
  have hs4 := cat_size fkS 30000001 s.fks X (fun c hc => fkS_size (h.fks c hc))
  obtain ⟨Y, hY⟩ : ∃ Y, cat X (s.fks.map fkS) = Y := ⟨_, rfl⟩
  rw [hY] at hs4 ⊢
  repeat' (first | ((first | with_reducible refine qV tyOk fun K hK => ?_ | (with_reducible first | refine qG ?_ | refine qH ?_ | refine qP ?_ | refine qGx ?_ | refine qHx ?_ | refine qPx ?_) | ((with_reducible first | refine qS ?_ ?_ | refine qT ?_ ?_ | refine qU ?_ ?_) <;> (intro h; try simp only [NM] at h))) <;> simp -dsimp (disch := (first | omega | (simp only [LN]; omega))) only [go_sem, ↓reduceIte, seval]) | ((with_reducible refine hK _ ?_); clear hK K) | (with_reducible first | refine qA ?_ | refine qB ?_ | refine qC ?_ | refine qD ?_ | refine qE ?_ | refine qF ?_ | refine qL ?_ | refine qM ?_ | refine qN ?_ | refine qO ?_ | refine qQ ?_) | refine qR rfl ?_ | (with_reducible refine AI ?_) | ((with_reducible refine qW (T := TT) (b := ?_) ?_ ?_); rotate_left; exact rfl) | (with_reducible first | refine qX ?_ | refine qY ?_ | refine qZ ?_) | (with_reducible first | refine qI ?_ | refine qIx ?_ | fail) | ((with_reducible refine yS ?_ ?_) <;> (intro h; try simp only [NM] at h)))
  refine AWP.loop (ι := {k : Nat // k ≤ s.cons.length}) (fun k => ⟨84, [(3, .v (oS (cat Y ((s.cons.take k.1).map conB)))), (53, .v (.one (eCons s.cons))), (54, .v (oI s.cons.length)), (55, .v (oI k.1))], [], []⟩) (fun k => s.cons.length - k.1) ⟨0, Nat.zero_le _⟩ ?_ fun ⟨i, hil⟩ => ?_
  · refine St.le_mk ?_ ?_ ?_ <;> simp only [LE, EN, Nat.reduceEqDiff, reduceIte, Nat.reduceSub, cat_nil]
  simp only
  have hs5 := cat_size_take conB 4000000 s.cons Y (fun c hc => conB_size (h.cons c hc)) i hil
  rcases Nat.lt_or_ge i s.cons.length with hc3 | hc3
  · have hi := h.cons s.cons[i] (List.getElem_mem _)
    have w1 := sizedB_size _ hi.table
    have w2 := sizedB_size _ hi.op
    have w3 := itoaB_size s.cons[i].left hi.left.1 hi.left.2
    have w4 := itoaB_size s.cons[i].right hi.right.1 hi.right.2
    have w5 := encB_size hi.row
    simp only [List.length_cons, List.length_nil] at w5
    have j1 := itoa_sat s.cons[i].left hi.left.1 hi.left.2
    have j2 := itoa_sat s.cons[i].right hi.right.1 hi.right.2
    have es := cat_succ Y conB s.cons i hc3
    have ef : conB s.cons[i] = ((((sizedB s.cons[i].table ++ sizedB s.cons[i].op) ++ itoaB s.cons[i].left) ++ (⟨#[32]⟩ : ByteArray)) ++ itoaB s.cons[i].right) ++ encB [s.cons[i].value] := rfl
    repeat' (first | ((first | with_reducible refine qV tyOk fun K hK => ?_ | (with_reducible first | refine qG ?_ | refine qH ?_ | refine qP ?_ | refine qGx ?_ | refine qHx ?_ | refine qPx ?_) | ((with_reducible first | refine qS ?_ ?_ | refine qT ?_ ?_ | refine qU ?_ ?_) <;> (intro h; try simp only [NM] at h))) <;> simp -dsimp (disch := (first | omega | (simp only [LN]; omega))) only [go_sem, ↓reduceIte, seval]) | ((with_reducible refine hK _ ?_); clear hK K) | (with_reducible first | refine qA ?_ | refine qB ?_ | refine qC ?_ | refine qD ?_ | refine qE ?_ | refine qF ?_ | refine qL ?_ | refine qM ?_ | refine qN ?_ | refine qO ?_ | refine qQ ?_) | refine qR rfl ?_ | (with_reducible refine AI ?_) | ((with_reducible refine qW (T := TT) (b := ?_) ?_ ?_); rotate_left; exact rfl) | (with_reducible first | refine qX ?_ | refine qY ?_ | refine qZ ?_) | (with_reducible first | refine qI ?_ | refine qIx ?_ | fail) | ((with_reducible refine yS ?_ ?_) <;> (intro h; try simp only [NM] at h)))
    refine AWP.drawY tyOk mixed [(0, 3), (4, 2), (8, 2), (13, 2), (17, 2)] (.cons 3 [] [(0, 1), (4, 2), (8, 2), (13, 2), (17, 2)] (.cons 6 [(7, 1)] [(0, 1), (8, 2), (13, 2), (17, 2)] (.cons 10 [(11, 2)] [(0, 1), (7, 1), (13, 2), (17, 2)] (.cons 15 [(16, 1)] [(0, 1), (7, 1), (11, 2), (17, 2)] (.cons 19 [] [(0, 1), (7, 1), (11, 2), (16, 1)] (.cons 20 [(21, 2)] [(0, 1), (7, 1), (11, 2), (16, 1)] (.cons 23 [] [] .leaf .none) .none) .none) (.cons 19 [] [(0, 1), (7, 1), (11, 4)] (.cons 15 [(16, 1)] [(0, 1), (7, 1), (11, 2)] (.cons 20 [(21, 2)] [(0, 1), (7, 1), (11, 2), (16, 1)] (.cons 23 [] [] .leaf .none) .none) .none) .none)) (.cons 19 [] [(0, 1), (7, 3), (13, 2)] (.cons 10 [(11, 2)] [(0, 1), (7, 1), (13, 2)] (.cons 15 [(16, 1)] [(0, 1), (7, 1), (11, 2)] (.cons 20 [(21, 2)] [(0, 1), (7, 1), (11, 2), (16, 1)] (.cons 23 [] [] .leaf .none) .none) .none) .none) .none)) (.cons 19 [] [(0, 1), (4, 2), (8, 2), (13, 2)] (.cons 6 [(7, 1)] [(0, 1), (8, 2), (13, 2)] (.cons 10 [(11, 2)] [(0, 1), (7, 1), (13, 2)] (.cons 15 [(16, 1)] [(0, 1), (7, 1), (11, 2)] (.cons 20 [(21, 2)] [(0, 1), (7, 1), (11, 2), (16, 1)] (.cons 23 [] [] .leaf .none) .none) .none) .none) .none) .none)) (.cons 19 [] [(0, 3), (4, 2), (8, 2), (13, 2)] (.cons 3 [] [(0, 1), (4, 2), (8, 2), (13, 2)] (.cons 6 [(7, 1)] [(0, 1), (8, 2), (13, 2)] (.cons 10 [(11, 2)] [(0, 1), (7, 1), (13, 2)] (.cons 15 [(16, 1)] [(0, 1), (7, 1), (11, 2)] (.cons 20 [(21, 2)] [(0, 1), (7, 1), (11, 2), (16, 1)] (.cons 23 [] [] .leaf .none) .none) .none) .none) .none) .none) .none)) [3, 6, 10, 15, 19, 20, 23] 8 (by decide) (by kernel_rfl) (by kernel_rfl) (by kernel_rfl) (by kernel_rfl) fun K hK => ?_
    simp only [segt_leaf, segt_none, segt_cons, segs, List.drop_succ_cons, List.drop_zero, List.take_succ_cons, List.take_zero, List.getElem?_cons_zero, List.getElem?_cons_succ, List.cons_append, List.nil_append, List.append_nil] at hK ⊢
    simp -dsimp (disch := (first | omega | (simp only [LN]; omega))) only [go_sem, ↓reduceIte, seval, ByteArray.size_append, b2]
    repeat' (first | ((first | with_reducible refine qV tyOk fun K hK => ?_ | (with_reducible first | refine qG ?_ | refine qH ?_ | refine qP ?_ | refine qGx ?_ | refine qHx ?_ | refine qPx ?_) | ((with_reducible first | refine qS ?_ ?_ | refine qT ?_ ?_ | refine qU ?_ ?_) <;> (intro h; try simp only [NM] at h)) | ((with_reducible refine CallJ.is ?_); (first | refine CallJ.pure (sized_sat s.cons[i].table hi.table) ?_ | refine CallJ.pure (sized_sat s.cons[i].op hi.op) ?_ | refine CallJ.pure (j1) ?_ | refine CallJ.pure (j2) ?_ | refine CallJ.pure (encode_sat [s.cons[i].value] hi.row) ?_ | ((apply CallJ.lentI); (focus (simp -dsimp (disch := (first | omega | (simp only [LN]; omega))) only [go_sem, ↓reduceIte, seval, ByteArray.size_append, b2]; rfl)); (focus (first | exact (sized_sat s.cons[i].table hi.table) | exact (sized_sat s.cons[i].op hi.op) | exact (j1) | exact (j2) | exact (encode_sat [s.cons[i].value] hi.row)))))) | ((with_reducible refine CallH.is ?_); (first | refine CallH.intro (sized_sat s.cons[i].table hi.table) ?_ | refine CallH.intro (sized_sat s.cons[i].op hi.op) ?_ | refine CallH.intro (j1) ?_ | refine CallH.intro (j2) ?_ | refine CallH.intro (encode_sat [s.cons[i].value] hi.row) ?_))) <;> simp -dsimp (disch := (first | omega | (simp only [LN]; omega))) only [go_sem, ↓reduceIte, seval, ByteArray.size_append, b2]) | ((with_reducible refine hK _ ?_); clear hK K) | (with_reducible first | refine qA ?_ | refine qB ?_ | refine qC ?_ | refine qD ?_ | refine qE ?_ | refine qF ?_ | refine qL ?_ | refine qM ?_ | refine qN ?_ | refine qO ?_ | refine qQ ?_) | refine qR rfl ?_ | ((with_reducible refine VCt.intro fun K0 hK0 => ?_)) | ((with_reducible refine VCt.fin ?_); (refine hK0 _ ?_); clear hK0 K0) | (with_reducible first | refine VCy.quiet ?_ | refine VCt.none ?_) | ((with_reducible first | refine VCt.some fun K hK => ?_ | refine VCt.step fun K hK => ?_); simp -dsimp (disch := (first | omega | (simp only [LN]; omega))) only [go_sem, ↓reduceIte, seval, ByteArray.size_append, b2]) | ((with_reducible refine VCy.keep ?_ ?_); focus ((simp -dsimp (disch := (first | omega | (simp only [LN]; omega))) only [go_sem, ↓reduceIte, seval, Stable_cons, Stable_nil, sameA_some, sameA_none, ByteArray.size_append, b2]); first | done | with_reducible assumption | omega | (repeat' with_reducible refine And.intro ?_ ?_) <;> first | with_reducible rfl | with_reducible assumption | omega)) | ((with_reducible refine VCt.fork (fun K hK => ?_) ?_); (focus (simp -dsimp (disch := (first | omega | (simp only [LN]; omega))) only [go_sem, ↓reduceIte, seval, ByteArray.size_append, b2]))) | (with_reducible refine AI ?_) | ((with_reducible refine qW (T := TT) (b := ?_) ?_ ?_); rotate_left; exact rfl) | (with_reducible first | refine qX ?_ | refine qY ?_ | refine qZ ?_) | (with_reducible first | refine qI ?_ | refine qIx ?_ | fail) | ((with_reducible refine yS ?_ ?_) <;> (intro h; try simp only [NM] at h)))
    all_goals refine ⟨⟨i + 1, by omega⟩, by simp only; omega, ?_⟩
    all_goals rw [← ef]
    all_goals refine St.le_mk ?_ ?_ ?_ <;> simp only [LE, EN, Nat.reduceEqDiff, reduceIte, Nat.reduceSub, es]
  rw [cat_all _ _ _ _ hc3]
  repeat' (first | ((first | with_reducible refine qV tyOk fun K hK => ?_ | (with_reducible first | refine qG ?_ | refine qH ?_ | refine qP ?_ | refine qGx ?_ | refine qHx ?_ | refine qPx ?_) | ((with_reducible first | refine qS ?_ ?_ | refine qT ?_ ?_ | refine qU ?_ ?_) <;> (intro h; try simp only [NM] at h))) <;> simp -dsimp (disch := (first | omega | (simp only [LN]; omega))) only [go_sem, ↓reduceIte, seval]) | ((with_reducible refine hK _ ?_); clear hK K) | (with_reducible first | refine qA ?_ | refine qB ?_ | refine qC ?_ | refine qD ?_ | refine qE ?_ | refine qF ?_ | refine qL ?_ | refine qM ?_ | refine qN ?_ | refine qO ?_ | refine qQ ?_) | refine qR rfl ?_ | (with_reducible refine AI ?_) | ((with_reducible refine qW (T := TT) (b := ?_) ?_ ?_); rotate_left; exact rfl) | (with_reducible first | refine qX ?_ | refine qY ?_ | refine qZ ?_) | (with_reducible first | refine qI ?_ | refine qIx ?_ | fail) | ((with_reducible refine yS ?_ ?_) <;> (intro h; try simp only [NM] at h)))
  simp -dsimp (disch := (first | omega | (simp only [LN]; omega))) only [retQ, Tryd.results17, resVals, cellRV, resOf, St.rest, St.freeze, RT, go_sem, ↓reduceIte, seval]

def mix {α : Type} (f : α → α) (l : List α) (k : Nat) : List α := (l.take k).map f ++ l.drop k
theorem mix_zero {α : Type} (f : α → α) (l : List α) : mix f l 0 = l := rfl
theorem mix_len {α : Type} (f : α → α) (l : List α) (k : Nat) : (mix f l k).length = l.length := by
  simp only [mix, List.length_append, List.length_map, List.length_take, List.length_drop]
  omega
theorem mix_getO {α : Type} (f : α → α) (l : List α) (k : Nat) (h : k < l.length) : (mix f l k)[k]? = some l[k] := by
  have e : ((l.take k).map f).length = k := by simp; omega
  simp only [mix]
  rw [List.getElem?_append_right (by omega), e, Nat.sub_self, List.getElem?_drop, Nat.add_zero, List.getElem?_eq_getElem h]
theorem mix_get {α : Type} (f : α → α) (l : List α) (k : Nat) (h : k < l.length) : (mix f l k)[k]'(by rw [mix_len]; exact h) = l[k] := by
  have h1 := mix_getO f l k h
  rw [List.getElem?_eq_getElem (by rw [mix_len]; exact h)] at h1
  exact Option.some.inj h1
theorem mix_all {α : Type} (f : α → α) (l : List α) : mix f l l.length = l.map f := by simp [mix]
theorem mixr_get {α : Type} (e : α → List L) (f : α → α) (l : List α) (k : Nat) (h : k < l.length) : ((mix f l k).map e).getD k [] = e l[k] := by
  rw [List.getD_eq_getElem?_getD, List.getElem?_map, mix_getO f l k h]; rfl
theorem mix_succ {α : Type} (f : α → α) (l : List α) (k : Nat) (h : k < l.length) : (mix f l k).set k (f l[k]) = mix f l (k + 1) := by
  have e : ((l.take k).map f).length = k := by simp; omega
  simp only [mix]
  rw [List.set_append_right _ _ (by omega), e, Nat.sub_self, List.drop_eq_getElem_cons h, List.set_cons_zero, take_snoc l k h, List.map_append]
  simp
theorem mixr_set {α : Type} (e : α → List L) (f : α → α) (l : List α) (k : Nat) (h : k < l.length) : ((mix f l k).map e).set k (e (f l[k])) = (mix f l (k + 1)).map e := by
  rw [← List.map_set, mix_succ f l k h]
theorem mix_self {α : Type} (f : α → α) (l : List α) (k : Nat) (h : k < l.length) : (mix f l k).set k l[k] = mix f l k := by
  conv => lhs; rw [← mix_get f l k h]
  exact List.set_getElem_self _
def modC (c : Col) : Col := { c with kind := 9 }
def nine (_ : Int) : Int := 9
def modT (t : Tbl) : Tbl := ⟨⟨#[99, 104, 97, 110, 103, 101, 100]⟩, t.cols.map modC, t.pk.map nine⟩
def modF (f : FK) : FK := { f with cols := f.cols.map nine }
def modN (c : Con) : Con := { c with left := 9 }
def rowT (l : List Tbl) (k : Nat) (t : Tbl) : List (List L) := (l.set k t).map eTblO
theorem rowT_len (l : List Tbl) (k : Nat) (t : Tbl) : (rowT l k t).length = l.length := by simp [rowT]
theorem rowT_at {l : List Tbl} {k : Nat} (t : Tbl) (h : k < l.length) : (rowT l k t)[k]? = some (eTblO t) := by simp [rowT, h]
theorem rowT_get {l : List Tbl} {k : Nat} (t : Tbl) (h : k < l.length) : (rowT l k t).getD k [] = eTblO t := by
  rw [List.getD_eq_getElem?_getD, rowT_at t h]; rfl
theorem rowT_set (l : List Tbl) (k : Nat) (t t' : Tbl) : (rowT l k t).set k (eTblO t') = rowT l k t' := by
  simp only [rowT]
  rw [← List.map_set, List.set_set]
theorem rowT_cell1 {l : List Tbl} {k : Nat} (t : Tbl) (h : k < l.length) : cellOf (rowT l k t) k 1 = some (.own 3 (t.cols.map eCol)) := by
  unfold cellOf
  rw [rowT_at t h]; rfl
theorem rowT_cell2 {l : List Tbl} {k : Nat} (t : Tbl) (h : k < l.length) : cellOf (rowT l k t) k 2 = some (.own 1 (t.pk.map eInt1)) := by
  unfold cellOf
  rw [rowT_at t h]; rfl
theorem rowT_cols {l : List Tbl} {k : Nat} (t : Tbl) (h : k < l.length) (c : List Col) : setCell (rowT l k t) k 1 (.own 3 (c.map eCol)) = rowT l k ⟨t.name, c, t.pk⟩ := by
  unfold setCell
  rw [rowT_get t h]
  exact rowT_set l k t ⟨t.name, c, t.pk⟩
theorem rowT_pk {l : List Tbl} {k : Nat} (t : Tbl) (h : k < l.length) (c : List Int) : setCell (rowT l k t) k 2 (.own 1 (c.map eInt1)) = rowT l k ⟨t.name, t.cols, c⟩ := by
  unfold setCell
  rw [rowT_get t h]
  exact rowT_set l k t ⟨t.name, t.cols, c⟩
theorem rowT_done {ts : List Tbl} {k : Nat} (h : k < ts.length) : rowT (mix modT ts k) k (modT ts[k]) = (mix modT ts (k + 1)).map eTblO := by
  unfold rowT
  rw [mix_succ modT ts k h]
def rowF (l : List FK) (k : Nat) (f : FK) : List (List L) := (l.set k f).map eFKO
theorem rowF_len (l : List FK) (k : Nat) (t : FK) : (rowF l k t).length = l.length := by simp [rowF]
theorem rowF_at {l : List FK} {k : Nat} (t : FK) (h : k < l.length) : (rowF l k t)[k]? = some (eFKO t) := by simp [rowF, h]
theorem rowF_get {l : List FK} {k : Nat} (t : FK) (h : k < l.length) : (rowF l k t).getD k [] = eFKO t := by
  rw [List.getD_eq_getElem?_getD, rowF_at t h]; rfl
theorem rowF_set (l : List FK) (k : Nat) (t t' : FK) : (rowF l k t).set k (eFKO t') = rowF l k t' := by
  simp only [rowF]
  rw [← List.map_set, List.set_set]
theorem rowF_cell1 {l : List FK} {k : Nat} (t : FK) (h : k < l.length) : cellOf (rowF l k t) k 1 = some (.own 1 (t.cols.map eInt1)) := by
  unfold cellOf
  rw [rowF_at t h]; rfl
theorem rowF_cols {l : List FK} {k : Nat} (t : FK) (h : k < l.length) (c : List Int) : setCell (rowF l k t) k 1 (.own 1 (c.map eInt1)) = rowF l k { t with cols := c } := by
  unfold setCell
  rw [rowF_get t h]
  exact rowF_set l k t { t with cols := c }
theorem rowF_done {ts : List FK} {k : Nat} (h : k < ts.length) : rowF (mix modF ts k) k (modF ts[k]) = (mix modF ts (k + 1)).map eFKO := by
  unfold rowF
  rw [mix_succ modF ts k h]
set_option maxHeartbeats 16000000 in
theorem schemaCloneIndependent_sat (s : Sch) (hs : SchF s) : Sat Tryd.prog 5 [.agg (eSch s)] (.v (oB true)) := by
  have nt := hs.nt
  have nf := hs.nf
  have nc := hs.nc
  have id := schemaID_sat s hs
  have cl := schClone_own s nt nf nc (fun t ht => ⟨(hs.tables t ht).n, (hs.tables t ht).pn⟩) (fun f hf => (hs.fks f hf).n)
  refine sat_of_body tyOk Tryd.func5 rfl (by kernel_rfl) ⟨Nat.le_of_ble_eq_true rfl, Nat.le_of_ble_eq_true rfl⟩ fun w0 m0 F0 => ?_
  simp only [Tryd.ntmps5, envOf, Nat.reduceAdd]
  repeat' (first | ((first | with_reducible refine qV tyOk fun K hK => ?_ | (with_reducible first | refine qG ?_ | refine qH ?_ | refine qP ?_ | refine qGx ?_ | refine qHx ?_ | refine qPx ?_) | ((with_reducible first | refine qS ?_ ?_ | refine qT ?_ ?_ | refine qU ?_ ?_) <;> (intro h; try simp only [NM] at h)) | ((with_reducible refine CallJ.is ?_); refine CallJ.io [] [] [] [(24, 16), (42, 15), (10, 12)] [] [16, 15, 12] [] [16, 15, 12] (cl) rfl ⟨rfl, rfl, rfl, rfl⟩ ?_ ?_ ?_; (focus (simp -dsimp (disch := (first | omega | (simp only [LN]; omega))) only [go_sem, ↓reduceIte, seval, dropL_nil, dropL_nil', dropL_cons]; done)); (focus (simp -dsimp (disch := (first | omega | (simp only [LN]; omega))) only [go_sem, ↓reduceIte, seval, dropL_nil, dropL_nil', dropL_cons]; done))) | ((with_reducible refine CallJ.is ?_); (first | refine CallJ.pure (schemasWork_sat) ?_ | refine CallJ.pure (id) ?_ | ((apply CallJ.lentI); (focus (simp -dsimp (disch := (first | omega | (simp only [LN]; omega))) only [go_sem, ↓reduceIte, seval, dropL_nil, dropL_nil', dropL_cons]; rfl)); (focus (first | exact (schemasWork_sat) | exact (id)))))) | ((with_reducible refine CallH.is ?_); (first | refine CallH.intro (schemasWork_sat) ?_ | refine CallH.intro (id) ?_))) <;> simp -dsimp (disch := (first | omega | (simp only [LN]; omega))) only [go_sem, ↓reduceIte, seval, dropL_nil, dropL_nil', dropL_cons]) | ((with_reducible refine hK _ ?_); clear hK K) | (with_reducible first | refine qA ?_ | refine qB ?_ | refine qC ?_ | refine qD ?_ | refine qE ?_ | refine qF ?_ | refine qL ?_ | refine qM ?_ | refine qN ?_ | refine qO ?_ | refine qQ ?_) | refine qR rfl ?_ | (with_reducible refine AI ?_) | ((with_reducible refine qW (T := TT) (b := ?_) ?_ ?_); rotate_left; exact rfl) | (with_reducible first | refine qX ?_ | refine qY ?_ | refine qZ ?_) | (with_reducible first | refine qI ?_ | refine qIx ?_ | fail) | ((with_reducible refine yS ?_ ?_) <;> (intro h; try simp only [NM] at h)))
  refine AWP.loop (ι := {k : Nat // k ≤ s.tables.length}) (fun k => ⟨110, [(1, .v (.one (.ptr 1 0))), (3, .v (oS (schB s))), (4, .v (.one (.ptr 4 0))), (19, .v (oI s.tables.length)), (20, .v (oI k.1))], [(4, [.ref 16 0 s.tables.length, .ref 15 0 s.fks.length, .ref 12 0 s.cons.length]), (1, eSch s)], [(16, ⟨3, (mix modT s.tables k.1).map eTblO, []⟩), (15, ⟨3, s.fks.map eFKO, []⟩), (12, ⟨7, s.cons.map eCon, []⟩)]⟩) (fun k => s.tables.length - k.1) ⟨0, Nat.zero_le _⟩ ?_ fun ⟨k, hkl⟩ => ?_
  · refine St.le_mk ?_ ?_ ?_ <;> simp only [LE, EN, Nat.reduceEqDiff, reduceIte, Nat.reduceSub, eSch, mix_zero]
  simp only at hkl ⊢
  rcases Nat.lt_or_ge k s.tables.length with hc | hc
  · have hl : k < (mix modT s.tables k).length := by rw [mix_len]; exact hc
    have e0 : (mix modT s.tables k).map eTblO = rowT (mix modT s.tables k) k s.tables[k] := by unfold rowT; rw [mix_self modT s.tables k hc]
    have rl := rowT_len (mix modT s.tables k) k
    have rg := fun t => rowT_get (l := mix modT s.tables k) (k := k) t hl
    rw [mix_len] at rl
    have bt := hs.tables s.tables[k] (List.getElem_mem hc)
    have b1 := bt.n
    have b2 := bt.pn
    rw [e0]
    obtain ⟨tb, htb⟩ : ∃ tb, s.tables[k] = tb := ⟨_, rfl⟩
    have done := rowT_done hc
    rw [htb] at b1 b2 done ⊢
    repeat' (first | ((first | ((fail_if_success (refine AWP.isRegion 9 ?_)); (with_reducible refine qV tyOk fun K hK => ?_)) | (with_reducible first | refine qG ?_ | refine qH ?_ | refine qP ?_ | refine qGx ?_ | refine qHx ?_ | refine qPx ?_) | ((with_reducible first | refine qS ?_ ?_ | refine qT ?_ ?_ | refine qU ?_ ?_) <;> (intro h; try simp only [NM] at h))) <;> simp -dsimp (disch := (first | omega | (simp only [LN]; omega))) only [go_sem, ↓reduceIte, seval, rl, rg, eTblO]) | ((with_reducible refine hK _ ?_); clear hK K) | (with_reducible first | refine qA ?_ | refine qB ?_ | refine qC ?_ | refine qD ?_ | refine qE ?_ | refine qF ?_ | refine qL ?_ | refine qM ?_ | refine qN ?_ | refine qO ?_ | refine qQ ?_) | refine qR rfl ?_ | (with_reducible refine AI ?_) | ((with_reducible refine qW (T := TT) (b := ?_) ?_ ?_); rotate_left; exact rfl) | (with_reducible first | refine qX ?_ | refine qY ?_ | refine qZ ?_) | (with_reducible first | refine qI ?_ | refine qIx ?_ | fail) | ((with_reducible refine yS ?_ ?_) <;> (intro h; try simp only [NM] at h)))
    have e1 := rowT_set (mix modT s.tables k) k tb ⟨⟨#[99, 104, 97, 110, 103, 101, 100]⟩, tb.cols, tb.pk⟩
    simp only [eTblO] at e1
    rw [e1]
    refine AWP.openC 16 k 1 2000 rfl (rowT_cell1 _ hl) rfl (by decide) (by decide) ?_
    simp -dsimp (disch := (first | omega | (simp only [LN]; omega))) only [go_sem, ↓reduceIte, seval, openR_mk]
    repeat' (first | ((first | with_reducible refine qV tyOk fun K hK => ?_ | (with_reducible first | refine qG ?_ | refine qH ?_ | refine qP ?_ | refine qGx ?_ | refine qHx ?_ | refine qPx ?_) | ((with_reducible first | refine qS ?_ ?_ | refine qT ?_ ?_ | refine qU ?_ ?_) <;> (intro h; try simp only [NM] at h))) <;> simp -dsimp (disch := (first | omega | (simp only [LN]; omega))) only [go_sem, ↓reduceIte, seval, rl, rg, eTblO]) | ((with_reducible refine hK _ ?_); clear hK K) | (with_reducible first | refine qA ?_ | refine qB ?_ | refine qC ?_ | refine qD ?_ | refine qE ?_ | refine qF ?_ | refine qL ?_ | refine qM ?_ | refine qN ?_ | refine qO ?_ | refine qQ ?_) | refine qR rfl ?_ | (with_reducible refine AI ?_) | ((with_reducible refine qW (T := TT) (b := ?_) ?_ ?_); rotate_left; exact rfl) | (with_reducible first | refine qX ?_ | refine qY ?_ | refine qZ ?_) | (with_reducible first | refine qI ?_ | refine qIx ?_ | fail) | ((with_reducible refine yS ?_ ?_) <;> (intro h; try simp only [NM] at h)))
    refine AWP.loop (ι := {j : Nat // j ≤ tb.cols.length}) (fun j => ⟨110, [(1, .v (.one (.ptr 1 0))), (3, .v (oS (schB s))), (4, .v (.one (.ptr 4 0))), (19, .v (oI s.tables.length)), (20, .v (oI k)), (5, .v (oI k)), (34, .v (oI tb.cols.length)), (35, .v (oI j.1))], [(4, [.ref 16 0 s.tables.length, .ref 15 0 s.fks.length, .ref 12 0 s.cons.length]), (1, eSch s)], [(2000, ⟨3, (mix modC tb.cols j.1).map eCol, []⟩), (16, ⟨3, rowT (mix modT s.tables k) k ⟨⟨#[99, 104, 97, 110, 103, 101, 100]⟩, tb.cols, tb.pk⟩, [(k, 1, .ref 2000 0 tb.cols.length)]⟩), (15, ⟨3, s.fks.map eFKO, []⟩), (12, ⟨7, s.cons.map eCon, []⟩)]⟩) (fun j => tb.cols.length - j.1) ⟨0, Nat.zero_le _⟩ ?_ fun ⟨j, hjl⟩ => ?_
    · refine St.le_mk ?_ ?_ ?_ <;> simp only [LE, EN, Nat.reduceEqDiff, reduceIte, Nat.reduceSub, eSch, mix_zero]
    simp only at hjl ⊢
    rcases Nat.lt_or_ge j tb.cols.length with hcj | hcj
    · have ml := mix_len modC tb.cols j
      have mg := mixr_get eCol modC tb.cols j hcj
      have ms := mixr_set eCol modC tb.cols j hcj
      simp only [eCol, modC] at ms
      repeat' (first | ((first | with_reducible refine qV tyOk fun K hK => ?_ | (with_reducible first | refine qG ?_ | refine qH ?_ | refine qP ?_ | refine qGx ?_ | refine qHx ?_ | refine qPx ?_) | ((with_reducible first | refine qS ?_ ?_ | refine qT ?_ ?_ | refine qU ?_ ?_) <;> (intro h; try simp only [NM] at h))) <;> simp -dsimp (disch := (first | omega | (simp only [LN]; omega))) only [go_sem, ↓reduceIte, seval, rl, rg, eTblO, ml, mg]) | ((with_reducible refine hK _ ?_); clear hK K) | (with_reducible first | refine qA ?_ | refine qB ?_ | refine qC ?_ | refine qD ?_ | refine qE ?_ | refine qF ?_ | refine qL ?_ | refine qM ?_ | refine qN ?_ | refine qO ?_ | refine qQ ?_) | refine qR rfl ?_ | (with_reducible refine AI ?_) | ((with_reducible refine qW (T := TT) (b := ?_) ?_ ?_); rotate_left; exact rfl) | (with_reducible first | refine qX ?_ | refine qY ?_ | refine qZ ?_) | (with_reducible first | refine qI ?_ | refine qIx ?_ | fail) | ((with_reducible refine yS ?_ ?_) <;> (intro h; try simp only [NM] at h)))
      refine ⟨⟨j + 1, by omega⟩, by simp only; omega, ?_⟩
      refine St.le_mk ?_ ?_ ?_ <;> simp only [LE, EN, Nat.reduceEqDiff, reduceIte, Nat.reduceSub, eSch, ms]
    · have hj : j = tb.cols.length := by omega
      subst hj
      repeat' (first | ((first | ((fail_if_success (refine AWP.isRegion 14 ?_)); (with_reducible refine qV tyOk fun K hK => ?_)) | (with_reducible first | refine qG ?_ | refine qH ?_ | refine qP ?_ | refine qGx ?_ | refine qHx ?_ | refine qPx ?_) | ((with_reducible first | refine qS ?_ ?_ | refine qT ?_ ?_ | refine qU ?_ ?_) <;> (intro h; try simp only [NM] at h))) <;> simp -dsimp (disch := (first | omega | (simp only [LN]; omega))) only [go_sem, ↓reduceIte, seval, rl, rg, eTblO]) | ((with_reducible refine hK _ ?_); clear hK K) | (with_reducible first | refine qA ?_ | refine qB ?_ | refine qC ?_ | refine qD ?_ | refine qE ?_ | refine qF ?_ | refine qL ?_ | refine qM ?_ | refine qN ?_ | refine qO ?_ | refine qQ ?_) | refine qR rfl ?_ | (with_reducible refine AI ?_) | ((with_reducible refine qW (T := TT) (b := ?_) ?_ ?_); rotate_left; exact rfl) | (with_reducible first | refine qX ?_ | refine qY ?_ | refine qZ ?_) | (with_reducible first | refine qI ?_ | refine qIx ?_ | fail) | ((with_reducible refine yS ?_ ?_) <;> (intro h; try simp only [NM] at h)))
      refine AWP.close 16 k 1 2000 rfl rfl (by decide) (by simp [ovGet, mix_len]) (by rw [rl]; exact hc) (by show 1 < 3; decide) rfl ?_
      simp -dsimp (disch := (first | omega | (simp only [LN]; omega))) only [go_sem, ↓reduceIte, seval, closeR_mk, ovCut_cons, ovCut_nil]
      rw [rowT_cols _ hl]
      refine AWP.openC 16 k 2 2000 rfl (rowT_cell2 _ hl) rfl (by decide) (by decide) ?_
      simp -dsimp (disch := (first | omega | (simp only [LN]; omega))) only [go_sem, ↓reduceIte, seval, openR_mk]
      repeat' (first | ((first | with_reducible refine qV tyOk fun K hK => ?_ | (with_reducible first | refine qG ?_ | refine qH ?_ | refine qP ?_ | refine qGx ?_ | refine qHx ?_ | refine qPx ?_) | ((with_reducible first | refine qS ?_ ?_ | refine qT ?_ ?_ | refine qU ?_ ?_) <;> (intro h; try simp only [NM] at h))) <;> simp -dsimp (disch := (first | omega | (simp only [LN]; omega))) only [go_sem, ↓reduceIte, seval, rl, rg, eTblO]) | ((with_reducible refine hK _ ?_); clear hK K) | (with_reducible first | refine qA ?_ | refine qB ?_ | refine qC ?_ | refine qD ?_ | refine qE ?_ | refine qF ?_ | refine qL ?_ | refine qM ?_ | refine qN ?_ | refine qO ?_ | refine qQ ?_) | refine qR rfl ?_ | (with_reducible refine AI ?_) | ((with_reducible refine qW (T := TT) (b := ?_) ?_ ?_); rotate_left; exact rfl) | (with_reducible first | refine qX ?_ | refine qY ?_ | refine qZ ?_) | (with_reducible first | refine qI ?_ | refine qIx ?_ | fail) | ((with_reducible refine yS ?_ ?_) <;> (intro h; try simp only [NM] at h)))
      refine AWP.loop (ι := {j : Nat // j ≤ tb.pk.length}) (fun j => ⟨110, [(1, .v (.one (.ptr 1 0))), (3, .v (oS (schB s))), (4, .v (.one (.ptr 4 0))), (19, .v (oI s.tables.length)), (20, .v (oI k)), (5, .v (oI k)), (54, .v (oI tb.pk.length)), (55, .v (oI j.1))], [(4, [.ref 16 0 s.tables.length, .ref 15 0 s.fks.length, .ref 12 0 s.cons.length]), (1, eSch s)], [(2000, ⟨1, (mix nine tb.pk j.1).map eInt1, []⟩), (16, ⟨3, rowT (mix modT s.tables k) k ⟨⟨#[99, 104, 97, 110, 103, 101, 100]⟩, mix modC tb.cols tb.cols.length, tb.pk⟩, [(k, 2, .ref 2000 0 tb.pk.length)]⟩), (15, ⟨3, s.fks.map eFKO, []⟩), (12, ⟨7, s.cons.map eCon, []⟩)]⟩) (fun j => tb.pk.length - j.1) ⟨0, Nat.zero_le _⟩ ?_ fun ⟨j, hjl⟩ => ?_
      · refine St.le_mk ?_ ?_ ?_ <;> simp only [LE, EN, Nat.reduceEqDiff, reduceIte, Nat.reduceSub, eSch, mix_zero]
      simp only at hjl ⊢
      rcases Nat.lt_or_ge j tb.pk.length with hcj | hcj
      · have ml := mix_len nine tb.pk j
        have mg := mixr_get eInt1 nine tb.pk j hcj
        have ms := mixr_set eInt1 nine tb.pk j hcj
        simp only [eInt1, nine] at ms
        repeat' (first | ((first | with_reducible refine qV tyOk fun K hK => ?_ | (with_reducible first | refine qG ?_ | refine qH ?_ | refine qP ?_ | refine qGx ?_ | refine qHx ?_ | refine qPx ?_) | ((with_reducible first | refine qS ?_ ?_ | refine qT ?_ ?_ | refine qU ?_ ?_) <;> (intro h; try simp only [NM] at h))) <;> simp -dsimp (disch := (first | omega | (simp only [LN]; omega))) only [go_sem, ↓reduceIte, seval, rl, rg, eTblO, ml, mg]) | ((with_reducible refine hK _ ?_); clear hK K) | (with_reducible first | refine qA ?_ | refine qB ?_ | refine qC ?_ | refine qD ?_ | refine qE ?_ | refine qF ?_ | refine qL ?_ | refine qM ?_ | refine qN ?_ | refine qO ?_ | refine qQ ?_) | refine qR rfl ?_ | (with_reducible refine AI ?_) | ((with_reducible refine qW (T := TT) (b := ?_) ?_ ?_); rotate_left; exact rfl) | (with_reducible first | refine qX ?_ | refine qY ?_ | refine qZ ?_) | (with_reducible first | refine qI ?_ | refine qIx ?_ | fail) | ((with_reducible refine yS ?_ ?_) <;> (intro h; try simp only [NM] at h)))
        refine ⟨⟨j + 1, by omega⟩, by simp only; omega, ?_⟩
        refine St.le_mk ?_ ?_ ?_ <;> simp only [LE, EN, Nat.reduceEqDiff, reduceIte, Nat.reduceSub, eSch, ms]
      · have hj : j = tb.pk.length := by omega
        subst hj
        repeat' (first | ((first | ((fail_if_success (refine AWP.isRegion 19 ?_)); (with_reducible refine qV tyOk fun K hK => ?_)) | (with_reducible first | refine qG ?_ | refine qH ?_ | refine qP ?_ | refine qGx ?_ | refine qHx ?_ | refine qPx ?_) | ((with_reducible first | refine qS ?_ ?_ | refine qT ?_ ?_ | refine qU ?_ ?_) <;> (intro h; try simp only [NM] at h))) <;> simp -dsimp (disch := (first | omega | (simp only [LN]; omega))) only [go_sem, ↓reduceIte, seval, rl, rg, eTblO]) | ((with_reducible refine hK _ ?_); clear hK K) | (with_reducible first | refine qA ?_ | refine qB ?_ | refine qC ?_ | refine qD ?_ | refine qE ?_ | refine qF ?_ | refine qL ?_ | refine qM ?_ | refine qN ?_ | refine qO ?_ | refine qQ ?_) | refine qR rfl ?_ | (with_reducible refine AI ?_) | ((with_reducible refine qW (T := TT) (b := ?_) ?_ ?_); rotate_left; exact rfl) | (with_reducible first | refine qX ?_ | refine qY ?_ | refine qZ ?_) | (with_reducible first | refine qI ?_ | refine qIx ?_ | fail) | ((with_reducible refine yS ?_ ?_) <;> (intro h; try simp only [NM] at h)))
        refine AWP.close 16 k 2 2000 rfl rfl (by decide) (by simp [ovGet, mix_len]) (by rw [rl]; exact hc) (by show 2 < 3; decide) rfl ?_
        simp -dsimp (disch := (first | omega | (simp only [LN]; omega))) only [go_sem, ↓reduceIte, seval, closeR_mk, ovCut_cons, ovCut_nil]
        rw [rowT_pk _ hl]
        have e2 : (⟨⟨#[99, 104, 97, 110, 103, 101, 100]⟩, mix modC tb.cols tb.cols.length, mix nine tb.pk tb.pk.length⟩ : Tbl) = modT tb := by rw [mix_all, mix_all]; rfl
        rw [e2, done]
        repeat' (first | ((first | with_reducible refine qV tyOk fun K hK => ?_ | (with_reducible first | refine qG ?_ | refine qH ?_ | refine qP ?_ | refine qGx ?_ | refine qHx ?_ | refine qPx ?_) | ((with_reducible first | refine qS ?_ ?_ | refine qT ?_ ?_ | refine qU ?_ ?_) <;> (intro h; try simp only [NM] at h))) <;> simp -dsimp (disch := (first | omega | (simp only [LN]; omega))) only [go_sem, ↓reduceIte, seval]) | ((with_reducible refine hK _ ?_); clear hK K) | (with_reducible first | refine qA ?_ | refine qB ?_ | refine qC ?_ | refine qD ?_ | refine qE ?_ | refine qF ?_ | refine qL ?_ | refine qM ?_ | refine qN ?_ | refine qO ?_ | refine qQ ?_) | refine qR rfl ?_ | (with_reducible refine AI ?_) | ((with_reducible refine qW (T := TT) (b := ?_) ?_ ?_); rotate_left; exact rfl) | (with_reducible first | refine qX ?_ | refine qY ?_ | refine qZ ?_) | (with_reducible first | refine qI ?_ | refine qIx ?_ | fail) | ((with_reducible refine yS ?_ ?_) <;> (intro h; try simp only [NM] at h)))
        refine ⟨⟨k + 1, by omega⟩, by simp only; omega, ?_⟩
        refine St.le_mk ?_ ?_ ?_ <;> simp only [LE, EN, Nat.reduceEqDiff, reduceIte, Nat.reduceSub, eSch]
  have hk : k = s.tables.length := by omega
  subst hk
  repeat' (first | ((first | with_reducible refine qV tyOk fun K hK => ?_ | (with_reducible first | refine qG ?_ | refine qH ?_ | refine qP ?_ | refine qGx ?_ | refine qHx ?_ | refine qPx ?_) | ((with_reducible first | refine qS ?_ ?_ | refine qT ?_ ?_ | refine qU ?_ ?_) <;> (intro h; try simp only [NM] at h))) <;> simp -dsimp (disch := (first | omega | (simp only [LN]; omega))) only [go_sem, ↓reduceIte, seval]) | ((with_reducible refine hK _ ?_); clear hK K) | (with_reducible first | refine qA ?_ | refine qB ?_ | refine qC ?_ | refine qD ?_ | refine qE ?_ | refine qF ?_ | refine qL ?_ | refine qM ?_ | refine qN ?_ | refine qO ?_ | refine qQ ?_) | refine qR rfl ?_ | (with_reducible refine AI ?_) | ((with_reducible refine qW (T := TT) (b := ?_) ?_ ?_); rotate_left; exact rfl) | (with_reducible first | refine qX ?_ | refine qY ?_ | refine qZ ?_) | (with_reducible first | refine qI ?_ | refine qIx ?_ | fail) | ((with_reducible refine yS ?_ ?_) <;> (intro h; try simp only [NM] at h)))
  refine AWP.loop (ι := {k : Nat // k ≤ s.fks.length}) (fun k => ⟨110, [(1, .v (.one (.ptr 1 0))), (3, .v (oS (schB s))), (4, .v (.one (.ptr 4 0))), (70, .v (oI s.fks.length)), (71, .v (oI k.1))], [(4, [.ref 16 0 s.tables.length, .ref 15 0 s.fks.length, .ref 12 0 s.cons.length]), (1, eSch s)], [(15, ⟨3, (mix modF s.fks k.1).map eFKO, []⟩), (12, ⟨7, s.cons.map eCon, []⟩)]⟩) (fun k => s.fks.length - k.1) ⟨0, Nat.zero_le _⟩ ?_ fun ⟨k, hkl⟩ => ?_
  · refine St.le_mk ?_ ?_ ?_ <;> simp only [LE, EN, Nat.reduceEqDiff, reduceIte, Nat.reduceSub, eSch, mix_zero]
  simp only at hkl ⊢
  rcases Nat.lt_or_ge k s.fks.length with hc | hc
  · have hl : k < (mix modF s.fks k).length := by rw [mix_len]; exact hc
    have e0 : (mix modF s.fks k).map eFKO = rowF (mix modF s.fks k) k s.fks[k] := by unfold rowF; rw [mix_self modF s.fks k hc]
    have rl := rowF_len (mix modF s.fks k) k
    have rg := fun t => rowF_get (l := mix modF s.fks k) (k := k) t hl
    rw [mix_len] at rl
    have b1 := (hs.fks s.fks[k] (List.getElem_mem hc)).n
    rw [e0]
    obtain ⟨fb, hfb⟩ : ∃ fb, s.fks[k] = fb := ⟨_, rfl⟩
    have done := rowF_done hc
    rw [hfb] at b1 done ⊢
    refine AWP.openC 15 k 1 2000 rfl (rowF_cell1 _ hl) rfl (by decide) (by decide) ?_
    simp -dsimp (disch := (first | omega | (simp only [LN]; omega))) only [go_sem, ↓reduceIte, seval, openR_mk]
    repeat' (first | ((first | with_reducible refine qV tyOk fun K hK => ?_ | (with_reducible first | refine qG ?_ | refine qH ?_ | refine qP ?_ | refine qGx ?_ | refine qHx ?_ | refine qPx ?_) | ((with_reducible first | refine qS ?_ ?_ | refine qT ?_ ?_ | refine qU ?_ ?_) <;> (intro h; try simp only [NM] at h))) <;> simp -dsimp (disch := (first | omega | (simp only [LN]; omega))) only [go_sem, ↓reduceIte, seval, rl, rg, eFKO]) | ((with_reducible refine hK _ ?_); clear hK K) | (with_reducible first | refine qA ?_ | refine qB ?_ | refine qC ?_ | refine qD ?_ | refine qE ?_ | refine qF ?_ | refine qL ?_ | refine qM ?_ | refine qN ?_ | refine qO ?_ | refine qQ ?_) | refine qR rfl ?_ | (with_reducible refine AI ?_) | ((with_reducible refine qW (T := TT) (b := ?_) ?_ ?_); rotate_left; exact rfl) | (with_reducible first | refine qX ?_ | refine qY ?_ | refine qZ ?_) | (with_reducible first | refine qI ?_ | refine qIx ?_ | fail) | ((with_reducible refine yS ?_ ?_) <;> (intro h; try simp only [NM] at h)))
    refine AWP.loop (ι := {j : Nat // j ≤ fb.cols.length}) (fun j => ⟨110, [(1, .v (.one (.ptr 1 0))), (3, .v (oS (schB s))), (4, .v (.one (.ptr 4 0))), (70, .v (oI s.fks.length)), (71, .v (oI k)), (8, .v (oI k)), (80, .v (oI fb.cols.length)), (81, .v (oI j.1))], [(4, [.ref 16 0 s.tables.length, .ref 15 0 s.fks.length, .ref 12 0 s.cons.length]), (1, eSch s)], [(2000, ⟨1, (mix nine fb.cols j.1).map eInt1, []⟩), (15, ⟨3, rowF (mix modF s.fks k) k fb, [(k, 1, .ref 2000 0 fb.cols.length)]⟩), (12, ⟨7, s.cons.map eCon, []⟩)]⟩) (fun j => fb.cols.length - j.1) ⟨0, Nat.zero_le _⟩ ?_ fun ⟨j, hjl⟩ => ?_
    · refine St.le_mk ?_ ?_ ?_ <;> simp only [LE, EN, Nat.reduceEqDiff, reduceIte, Nat.reduceSub, eSch, mix_zero]
    simp only at hjl ⊢
    rcases Nat.lt_or_ge j fb.cols.length with hcj | hcj
    · have ml := mix_len nine fb.cols j
      have mg := mixr_get eInt1 nine fb.cols j hcj
      have ms := mixr_set eInt1 nine fb.cols j hcj
      simp only [eInt1, nine] at ms
      repeat' (first | ((first | with_reducible refine qV tyOk fun K hK => ?_ | (with_reducible first | refine qG ?_ | refine qH ?_ | refine qP ?_ | refine qGx ?_ | refine qHx ?_ | refine qPx ?_) | ((with_reducible first | refine qS ?_ ?_ | refine qT ?_ ?_ | refine qU ?_ ?_) <;> (intro h; try simp only [NM] at h))) <;> simp -dsimp (disch := (first | omega | (simp only [LN]; omega))) only [go_sem, ↓reduceIte, seval, rl, rg, eFKO, ml, mg]) | ((with_reducible refine hK _ ?_); clear hK K) | (with_reducible first | refine qA ?_ | refine qB ?_ | refine qC ?_ | refine qD ?_ | refine qE ?_ | refine qF ?_ | refine qL ?_ | refine qM ?_ | refine qN ?_ | refine qO ?_ | refine qQ ?_) | refine qR rfl ?_ | (with_reducible refine AI ?_) | ((with_reducible refine qW (T := TT) (b := ?_) ?_ ?_); rotate_left; exact rfl) | (with_reducible first | refine qX ?_ | refine qY ?_ | refine qZ ?_) | (with_reducible first | refine qI ?_ | refine qIx ?_ | fail) | ((with_reducible refine yS ?_ ?_) <;> (intro h; try simp only [NM] at h)))
      refine ⟨⟨j + 1, by omega⟩, by simp only; omega, ?_⟩
      refine St.le_mk ?_ ?_ ?_ <;> simp only [LE, EN, Nat.reduceEqDiff, reduceIte, Nat.reduceSub, eSch, ms]
    · have hj : j = fb.cols.length := by omega
      subst hj
      repeat' (first | ((first | ((fail_if_success (refine AWP.isRegion 28 ?_)); (with_reducible refine qV tyOk fun K hK => ?_)) | (with_reducible first | refine qG ?_ | refine qH ?_ | refine qP ?_ | refine qGx ?_ | refine qHx ?_ | refine qPx ?_) | ((with_reducible first | refine qS ?_ ?_ | refine qT ?_ ?_ | refine qU ?_ ?_) <;> (intro h; try simp only [NM] at h))) <;> simp -dsimp (disch := (first | omega | (simp only [LN]; omega))) only [go_sem, ↓reduceIte, seval, rl, rg, eFKO]) | ((with_reducible refine hK _ ?_); clear hK K) | (with_reducible first | refine qA ?_ | refine qB ?_ | refine qC ?_ | refine qD ?_ | refine qE ?_ | refine qF ?_ | refine qL ?_ | refine qM ?_ | refine qN ?_ | refine qO ?_ | refine qQ ?_) | refine qR rfl ?_ | (with_reducible refine AI ?_) | ((with_reducible refine qW (T := TT) (b := ?_) ?_ ?_); rotate_left; exact rfl) | (with_reducible first | refine qX ?_ | refine qY ?_ | refine qZ ?_) | (with_reducible first | refine qI ?_ | refine qIx ?_ | fail) | ((with_reducible refine yS ?_ ?_) <;> (intro h; try simp only [NM] at h)))
      refine AWP.close 15 k 1 2000 rfl rfl (by decide) (by simp [ovGet, mix_len]) (by rw [rl]; exact hc) (by show 1 < 3; decide) rfl ?_
      simp -dsimp (disch := (first | omega | (simp only [LN]; omega))) only [go_sem, ↓reduceIte, seval, closeR_mk, ovCut_cons, ovCut_nil]
      rw [rowF_cols _ hl]
      have e2 : ({ fb with cols := mix nine fb.cols fb.cols.length } : FK) = modF fb := by rw [mix_all]; rfl
      rw [e2, done]
      repeat' (first | ((first | with_reducible refine qV tyOk fun K hK => ?_ | (with_reducible first | refine qG ?_ | refine qH ?_ | refine qP ?_ | refine qGx ?_ | refine qHx ?_ | refine qPx ?_) | ((with_reducible first | refine qS ?_ ?_ | refine qT ?_ ?_ | refine qU ?_ ?_) <;> (intro h; try simp only [NM] at h))) <;> simp -dsimp (disch := (first | omega | (simp only [LN]; omega))) only [go_sem, ↓reduceIte, seval]) | ((with_reducible refine hK _ ?_); clear hK K) | (with_reducible first | refine qA ?_ | refine qB ?_ | refine qC ?_ | refine qD ?_ | refine qE ?_ | refine qF ?_ | refine qL ?_ | refine qM ?_ | refine qN ?_ | refine qO ?_ | refine qQ ?_) | refine qR rfl ?_ | (with_reducible refine AI ?_) | ((with_reducible refine qW (T := TT) (b := ?_) ?_ ?_); rotate_left; exact rfl) | (with_reducible first | refine qX ?_ | refine qY ?_ | refine qZ ?_) | (with_reducible first | refine qI ?_ | refine qIx ?_ | fail) | ((with_reducible refine yS ?_ ?_) <;> (intro h; try simp only [NM] at h)))
      refine ⟨⟨k + 1, by omega⟩, by simp only; omega, ?_⟩
      refine St.le_mk ?_ ?_ ?_ <;> simp only [LE, EN, Nat.reduceEqDiff, reduceIte, Nat.reduceSub, eSch]
  have hk : k = s.fks.length := by omega
  subst hk
  repeat' (first | ((first | with_reducible refine qV tyOk fun K hK => ?_ | (with_reducible first | refine qG ?_ | refine qH ?_ | refine qP ?_ | refine qGx ?_ | refine qHx ?_ | refine qPx ?_) | ((with_reducible first | refine qS ?_ ?_ | refine qT ?_ ?_ | refine qU ?_ ?_) <;> (intro h; try simp only [NM] at h))) <;> simp -dsimp (disch := (first | omega | (simp only [LN]; omega))) only [go_sem, ↓reduceIte, seval]) | ((with_reducible refine hK _ ?_); clear hK K) | (with_reducible first | refine qA ?_ | refine qB ?_ | refine qC ?_ | refine qD ?_ | refine qE ?_ | refine qF ?_ | refine qL ?_ | refine qM ?_ | refine qN ?_ | refine qO ?_ | refine qQ ?_) | refine qR rfl ?_ | (with_reducible refine AI ?_) | ((with_reducible refine qW (T := TT) (b := ?_) ?_ ?_); rotate_left; exact rfl) | (with_reducible first | refine qX ?_ | refine qY ?_ | refine qZ ?_) | (with_reducible first | refine qI ?_ | refine qIx ?_ | fail) | ((with_reducible refine yS ?_ ?_) <;> (intro h; try simp only [NM] at h)))
  refine AWP.loop (ι := {k : Nat // k ≤ s.cons.length}) (fun k => ⟨110, [(1, .v (.one (.ptr 1 0))), (3, .v (oS (schB s))), (4, .v (.one (.ptr 4 0))), (96, .v (oI s.cons.length)), (97, .v (oI k.1))], [(4, [.ref 16 0 s.tables.length, .ref 15 0 s.fks.length, .ref 12 0 s.cons.length]), (1, eSch s)], [(12, ⟨7, (mix modN s.cons k.1).map eCon, []⟩)]⟩) (fun k => s.cons.length - k.1) ⟨0, Nat.zero_le _⟩ ?_ fun ⟨k, hkl⟩ => ?_
  · refine St.le_mk ?_ ?_ ?_ <;> simp only [LE, EN, Nat.reduceEqDiff, reduceIte, Nat.reduceSub, eSch, mix_zero]
  simp only at hkl ⊢
  rcases Nat.lt_or_ge k s.cons.length with hc | hc
  · have ml := mix_len modN s.cons k
    have mg := mixr_get eCon modN s.cons k hc
    have ms := mixr_set eCon modN s.cons k hc
    simp only [eCon, modN] at ms
    repeat' (first | ((first | with_reducible refine qV tyOk fun K hK => ?_ | (with_reducible first | refine qG ?_ | refine qH ?_ | refine qP ?_ | refine qGx ?_ | refine qHx ?_ | refine qPx ?_) | ((with_reducible first | refine qS ?_ ?_ | refine qT ?_ ?_ | refine qU ?_ ?_) <;> (intro h; try simp only [NM] at h))) <;> simp -dsimp (disch := (first | omega | (simp only [LN]; omega))) only [go_sem, ↓reduceIte, seval, ml, mg]) | ((with_reducible refine hK _ ?_); clear hK K) | (with_reducible first | refine qA ?_ | refine qB ?_ | refine qC ?_ | refine qD ?_ | refine qE ?_ | refine qF ?_ | refine qL ?_ | refine qM ?_ | refine qN ?_ | refine qO ?_ | refine qQ ?_) | refine qR rfl ?_ | (with_reducible refine AI ?_) | ((with_reducible refine qW (T := TT) (b := ?_) ?_ ?_); rotate_left; exact rfl) | (with_reducible first | refine qX ?_ | refine qY ?_ | refine qZ ?_) | (with_reducible first | refine qI ?_ | refine qIx ?_ | fail) | ((with_reducible refine yS ?_ ?_) <;> (intro h; try simp only [NM] at h)))
    refine ⟨⟨k + 1, by omega⟩, by simp only; omega, ?_⟩
    refine St.le_mk ?_ ?_ ?_ <;> simp only [LE, EN, Nat.reduceEqDiff, reduceIte, Nat.reduceSub, eSch, ms]
  · repeat' (first | ((first | with_reducible refine qV tyOk fun K hK => ?_ | (with_reducible first | refine qG ?_ | refine qH ?_ | refine qP ?_ | refine qGx ?_ | refine qHx ?_ | refine qPx ?_) | ((with_reducible first | refine qS ?_ ?_ | refine qT ?_ ?_ | refine qU ?_ ?_) <;> (intro h; try simp only [NM] at h)) | ((with_reducible refine CallJ.is ?_); (first | refine CallJ.pure (id) ?_ | ((apply CallJ.lentI); (focus (simp -dsimp (disch := (first | omega | (simp only [LN]; omega))) only [go_sem, ↓reduceIte, seval, beq_self_eq_true]; rfl)); (focus (first | exact (id)))))) | ((with_reducible refine CallH.is ?_); (first | refine CallH.intro (id) ?_))) <;> simp -dsimp (disch := (first | omega | (simp only [LN]; omega))) only [go_sem, ↓reduceIte, seval, beq_self_eq_true]) | ((with_reducible refine hK _ ?_); clear hK K) | (with_reducible first | refine qA ?_ | refine qB ?_ | refine qC ?_ | refine qD ?_ | refine qE ?_ | refine qF ?_ | refine qL ?_ | refine qM ?_ | refine qN ?_ | refine qO ?_ | refine qQ ?_) | refine qR rfl ?_ | (with_reducible refine AI ?_) | ((with_reducible refine qW (T := TT) (b := ?_) ?_ ?_); rotate_left; exact rfl) | (with_reducible first | refine qX ?_ | refine qY ?_ | refine qZ ?_) | (with_reducible first | refine qI ?_ | refine qIx ?_ | fail) | ((with_reducible refine yS ?_ ?_) <;> (intro h; try simp only [NM] at h)))
    simp -dsimp (disch := (first | omega | (simp only [LN]; omega))) only [retQ, Tryd.results5, resVals, cellRV, resOf, St.rest, St.freeze, RT, go_sem, ↓reduceIte, seval]

section
open Go.RowKit Go.Proofs Go.Proofs.YtmmbghbkpjmifaaDoor
theorem bulk_one {H : Type} (d : DataW H) : 1 ≤ Rows.uptoBulk d := by
  cases d with
  | lit l => cases l <;> simp [Rows.uptoBulk]
  | nil => simp [Rows.uptoBulk]
  | ptr d => simp [Rows.uptoBulk]
  | slice elems spare => simp [Rows.uptoBulk]
  | agg parts => simp [Rows.uptoBulk]
  | iface t d => simp [Rows.uptoBulk]
  | map entries => simp [Rows.uptoBulk]
  | held h => simp [Rows.uptoBulk]
theorem bulk_part {H : Type} {d : DataW H} {l : List (DataW H)} (h : d ∈ l) : Rows.uptoBulk d ≤ Rows.uptoBulkAll l := by
  induction l with
  | nil => cases h
  | cons x r ih =>
    simp only [Rows.uptoBulkAll]
    rcases List.mem_cons.1 h with e | e
    · subst e; omega
    · have := ih e; omega
theorem bulk_length {H : Type} (l : List (DataW H)) : l.length ≤ Rows.uptoBulkAll l := by
  induction l with
  | nil => simp [Rows.uptoBulkAll]
  | cons x r ih => have := bulk_one x; simp only [Rows.uptoBulkAll, List.length_cons]; omega

structure RdB (P : Program) (w : World) (t : TypeId) {α : Type} (e : α → List L) (good : Nat → α → Prop) : Prop where
  get : ∀ {H : Type} {enc : TypeId × Value → H} {base : Nat} {spare : Nat → Bool} {held : Bool} {n : Nat} {cs : List Value} {x : DataW H × List MemPlace} {N : Nat}, DataW.trod enc P w base spare held n t cs = some x →
    Rows.uptoBulk x.1 ≤ N → ∃ y, good N y ∧ CRd w cs (e y)
section
variable {P : Program} {w : World} {t : TypeId}
theorem rdb_bool (ht : P.underlying t = some .bool) : RdB P w t (fun b => [.bool b]) fun _ _ => True := by
  constructor
  intro H enc base spare held n cs x N h _
  obtain ⟨b, rfl, rfl⟩ := DataW.trod_bool ht h
  exact ⟨b, trivial, .one (.bool b)⟩
theorem RdB.to {α β : Type} {e : α → List L} {e' : β → List L} {good : Nat → α → Prop} {good' : Nat → β → Prop} (h : RdB P w t e good) (f : α → β) (he : ∀ x, e' (f x) = e x) (hg : ∀ N x, good N x → good' N (f x)) : RdB P w t e' good' := by
  constructor
  intro H enc base spare held n cs x N h1 h2
  obtain ⟨y, h3, h4⟩ := h.get h1 h2
  exact ⟨f y, hg N y h3, by rw [he]; exact h4⟩

theorem rdb_slice {e : TypeId} {α : Type} {eβ : α → List L} {good : Nat → α → Prop} {sz : Nat} (ht : P.underlying t = some (.slice e)) (hsz : P.cellsOf e = sz) (hl : ∀ x, (eβ x).length = sz) (h : RdB P w e eβ good) :
    RdB P w t (fun l => [.sl sz (l.map eβ)]) fun N (l : List α) => l.length ≤ N ∧ ∀ x ∈ l, good N x := by
  constructor
  intro H enc base spare held n cs x N h1 h2
  rcases DataW.trod_slice ht h1 with ⟨rfl, rfl⟩ | ⟨a, len, cap, elems, rest, m, rfl, rfl, rfl, k1, k2, k3, k4, k5, k6, k7⟩
  · exact ⟨[], ⟨by simp, by simp⟩, .one (.slNil sz)⟩
  · rw [hsz] at k5
    simp only [Rows.uptoBulk] at h2
    have hw : ∀ d ∈ elems.map (·.1), Rows.uptoBulk d ≤ N := fun d hd => Nat.le_trans (bulk_part hd) (by omega)
    have hbw : len ≤ N := by
      have := bulk_length (elems.map (·.1))
      rw [List.length_map] at this
      omega
    obtain ⟨l, h3, h4⟩ := choose_list (R := fun i (x : α) => good N x ∧ ∃ cs, w.cells? base (a.add (i * sz)) sz = some cs ∧ CRd w cs (eβ x)) len fun i hi => by
      have k8 := k5 i hi
      have hi' : i < elems.length := by omega
      rw [List.getElem?_eq_getElem hi'] at k8
      obtain ⟨cs, h5, h6⟩ := Option.bind_eq_some_iff.1 k8
      obtain ⟨x, h7, h8⟩ := h.get h6 (hw _ (List.mem_map.2 ⟨_, List.getElem_mem hi', rfl⟩))
      exact ⟨x, h7, cs, h5, h8⟩
    refine ⟨l, ⟨by rw [h3]; exact hbw, fun x hx => ?_⟩, .one ?_⟩
    · obtain ⟨i, hi, rfl⟩ := List.mem_iff_getElem.1 hx
      exact (h4 i _ (List.getElem?_eq_getElem hi)).1
    · -- each cell
      have hcell : ∀ i j u, cellOf (l.map eβ) i j = some u → ∃ v, memOf w (a.add (i * sz + j)) = some v ∧ Rep (memOf w) v u := by
        intro i j u hu
        unfold cellOf at hu
        rw [List.getElem?_map] at hu
        cases hli : l[i]? with
        | none => rw [hli] at hu; simp at hu
        | some x =>
          rw [hli] at hu
          simp only [Option.map_some, Option.bind_some] at hu
          obtain ⟨_, cs, h5, h6, h7⟩ := h4 i x hli
          obtain ⟨v, h8, h9⟩ := h7 j u hu
          refine ⟨v, ?_, h9⟩
          have hj : j < sz := by
            have := (List.getElem?_eq_some_iff.1 hu).1
            rw [hl] at this
            exact this
          unfold World.cells? at h5
          split at h5
          · have := mapM_some_get h5 j j (by simp [hj])
            rw [h8, Addr.add_add] at this
            exact this
          · cases h5
      refine .sl a len cap sz (l.map eβ) (fun i j => (memOf w (a.add (i * sz + j))).getD default) (by simp [h3]) k2 (fun y hy => ?_) (fun i j u hu => ?_) (fun i j u hu => ?_)
      · obtain ⟨x, _, rfl⟩ := List.mem_map.1 hy
        exact hl x
      · obtain ⟨v, h5, _⟩ := hcell i j u hu
        rw [h5]; rfl
      · obtain ⟨v, h5, h6⟩ := hcell i j u hu
        rw [h5]; exact h6

structure RdFB (P : Program) (w : World) (fs : List Field) (off : Nat) {α : Type} (e : α → List L) (good : Nat → α → Prop) : Prop where
  get : ∀ {H : Type} {enc : TypeId × Value → H} {base : Nat} {spare : Nat → Bool} {held : Bool} {n : Nat} {cs : List Value} {xs : List (DataW H × List MemPlace)} {N : Nat}, xs.length = fs.length →
    (∀ (i : Nat) (f : Field), fs[i]? = some f → DataW.trod enc P w base spare held n f.type ((cs.drop f.offset).take (P.cellsOf f.type)) = xs[i]?) →
    Rows.uptoBulkAll (xs.map (·.1)) ≤ N → off + (fs.map fun f => P.cellsOf f.type).sum = cs.length → ∃ y, good N y ∧ CRd w (cs.drop off) (e y)

theorem rdFb_nil {off : Nat} : RdFB P w [] off (fun _ : Unit => []) fun _ _ => True := by
  constructor
  intro H enc base spare held n cs xs N _ _ _ hl
  refine ⟨(), trivial, ?_⟩
  have : cs.drop off = [] := List.drop_eq_nil_of_le (by simp at hl; omega)
  rw [this]
  exact ⟨rfl, fun j l hj => by simp at hj⟩
theorem rdFb_cons {f : Field} {fs : List Field} {off sz : Nat} {α β : Type} {e0 : α → List L} {e1 : β → List L} {g0 : Nat → α → Prop} {g1 : Nat → β → Prop} (hf : f.offset = off) (hsz : P.cellsOf f.type = sz) (h0 : RdB P w f.type e0 g0) (h1 : RdFB P w fs (off + sz) e1 g1) :
    RdFB P w (f :: fs) off (fun p : α × β => e0 p.1 ++ e1 p.2) fun N p => g0 N p.1 ∧ g1 N p.2 := by
  constructor
  intro H enc base spare held n cs xs N hx ht hw hl
  cases xs with
  | nil => simp at hx
  | cons x xs =>
    simp only [List.map_cons, Rows.uptoBulkAll] at hw
    have k0 := ht 0 f rfl
    simp only [List.getElem?_cons_zero] at k0
    obtain ⟨y, h2, h3⟩ := h0.get k0 (N := N) (by omega)
    obtain ⟨z, h4, h5⟩ := h1.get (cs := cs) (N := N) (by simpa using hx) (fun i f' hi => by have := ht (i + 1) f' (by simpa using hi); simpa using this) (by omega) (by simp only [List.map_cons, List.sum_cons, hsz] at hl; omega)
    refine ⟨(y, z), ⟨h2, h4⟩, ?_⟩
    have e : cs.drop off = (cs.drop f.offset).take (P.cellsOf f.type) ++ cs.drop (off + sz) := by
      rw [hf, hsz, ← List.drop_drop, List.take_append_drop]
    rw [e]
    exact h3.append h5
theorem rdb_struct {fs : Array Field} {α : Type} {e : α → List L} {good : Nat → α → Prop} (ht : P.underlying t = some (.struct fs)) (hc : P.cellsOf t = (fs.toList.map fun f => P.cellsOf f.type).sum) (h : RdFB P w fs.toList 0 e good) : RdB P w t e good := by
  constructor
  intro H enc base spare held n cs x N h1 h2
  obtain ⟨xs, m, rfl, rfl, k1, k2, k3⟩ := DataW.trod_struct ht h1
  obtain ⟨y, h3, h4⟩ := h.get (cs := cs) (by simpa using k2) (fun i f hi => k3 i f (by simpa using hi)) (N := N) (by simp only [Rows.uptoBulk] at h2; omega) (by rw [k1, hc]; simp)
  exact ⟨y, h3, by simpa using h4⟩

theorem rdb_struct3 {f0 f1 f2 : Field} {z0 z1 z2 : Nat} {α β γ : Type} {e0 : α → List L} {e1 : β → List L} {e2 : γ → List L} {g0 : Nat → α → Prop} {g1 : Nat → β → Prop} {g2 : Nat → γ → Prop} (ht : P.underlying t = some (.struct #[f0, f1, f2])) (ho : f0.offset = 0 ∧ f1.offset = 0 + z0 ∧ f2.offset = 0 + z0 + z1) (hz : P.cellsOf f0.type = z0 ∧ P.cellsOf f1.type = z1 ∧ P.cellsOf f2.type = z2) (hc : P.cellsOf t = 0 + z0 + z1 + z2) (h0 : RdB P w f0.type e0 g0) (h1 : RdB P w f1.type e1 g1) (h2 : RdB P w f2.type e2 g2) : RdB P w t (fun p : α × β × γ × Unit => e0 p.1 ++ (e1 p.2.1 ++ (e2 p.2.2.1 ++ []))) (fun N p => g0 N p.1 ∧ g1 N p.2.1 ∧ g2 N p.2.2.1 ∧ True) :=
  rdb_struct ht (by rw [hc]; simp [hz.1, hz.2.1, hz.2.2]; try omega) (rdFb_cons ho.1 hz.1 h0 (rdFb_cons ho.2.1 hz.2.1 h1 (rdFb_cons ho.2.2 hz.2.2 h2 (rdFb_nil))))
end
variable {w : World}
end

section
open Go.Proofs.YtmmbghbkpjmifaaDoor

variable {w : World}
theorem rdb_intF {P : Program} {t : TypeId} {k : IntKind} (ht : P.underlying t = some (.int k)) : RdB P w t (fun n => [.int k n]) fun _ n => (Lit.int k n).wf = true := by
  constructor
  intro H enc base spare held n cs x N h _
  obtain ⟨m, rfl, rfl, hw⟩ := DataW.trod_int ht h
  exact ⟨m, hw, .one (.int k m)⟩
theorem rdb_stringF {P : Program} {t : TypeId} (ht : P.underlying t = some .string) : RdB P w t (fun s => [.str s]) fun N s => s.size ≤ N := by
  constructor
  intro H enc base spare held n cs x N h hw
  obtain ⟨s, rfl, rfl, _⟩ := DataW.trod_string ht h
  refine ⟨s, ?_, .one (.str s)⟩
  simp only [Rows.uptoBulk] at hw
  have e : s.data.toList.length = s.size := Array.length_toList
  omega
theorem intOk_bounds {n : Int} (h : (Lit.int .i64 n).wf = true) : -9223372036854775808 ≤ n ∧ n ≤ 9223372036854775807 := by
  simpa [Lit.wf, IntKind.min, IntKind.max, IntKind.signed, IntKind.bits] using h
theorem rdb_valF : RdB Tryd.prog w 50 eVal fun N v => (Lit.int .i64 v.kind).wf = true ∧ (Lit.int .i64 v.int).wf = true ∧ v.text.size ≤ N :=
  (rdb_struct3 Tryd.underlying50 ⟨rfl, rfl, rfl⟩ ⟨cells_int, cells_int, cells_string⟩ cells_Value (rdb_intF Tryd.underlying3) (rdb_intF Tryd.underlying3) (rdb_stringF Tryd.underlying9)).to (fun p => ⟨p.1, p.2.1, p.2.2.1⟩) (fun _ => by simp [eVal]) fun _ _ h => ⟨h.1, h.2.1, h.2.2.1⟩
end

section
open Go.Proofs.YtmmbghbkpjmifaaDoor

section
variable {P : Program} {w : World} {t : TypeId}
theorem rdb_struct5 {f0 f1 f2 f3 f4 : Field} {z0 z1 z2 z3 z4 : Nat} {α β γ δ ε : Type} {e0 : α → List L} {e1 : β → List L} {e2 : γ → List L} {e3 : δ → List L} {e4 : ε → List L} {g0 : Nat → α → Prop} {g1 : Nat → β → Prop} {g2 : Nat → γ → Prop} {g3 : Nat → δ → Prop} {g4 : Nat → ε → Prop} (ht : P.underlying t = some (.struct #[f0, f1, f2, f3, f4]))
    (ho : f0.offset = 0 ∧ f1.offset = 0 + z0 ∧ f2.offset = 0 + z0 + z1 ∧ f3.offset = 0 + z0 + z1 + z2 ∧ f4.offset = 0 + z0 + z1 + z2 + z3) (hz : P.cellsOf f0.type = z0 ∧ P.cellsOf f1.type = z1 ∧ P.cellsOf f2.type = z2 ∧ P.cellsOf f3.type = z3 ∧ P.cellsOf f4.type = z4) (hc : P.cellsOf t = z0 + z1 + z2 + z3 + z4)
    (h0 : RdB P w f0.type e0 g0) (h1 : RdB P w f1.type e1 g1) (h2 : RdB P w f2.type e2 g2) (h3 : RdB P w f3.type e3 g3) (h4 : RdB P w f4.type e4 g4) :
    RdB P w t (fun p : α × β × γ × δ × ε × Unit => e0 p.1 ++ (e1 p.2.1 ++ (e2 p.2.2.1 ++ (e3 p.2.2.2.1 ++ (e4 p.2.2.2.2.1 ++ []))))) fun N p => g0 N p.1 ∧ g1 N p.2.1 ∧ g2 N p.2.2.1 ∧ g3 N p.2.2.2.1 ∧ g4 N p.2.2.2.2.1 ∧ True :=
  rdb_struct ht (by rw [hc]; simp [hz.1, hz.2.1, hz.2.2.1, hz.2.2.2.1, hz.2.2.2.2]; try omega) (rdFb_cons ho.1 hz.1 h0 (rdFb_cons ho.2.1 hz.2.1 h1 (rdFb_cons ho.2.2.1 hz.2.2.1 h2 (rdFb_cons ho.2.2.2.1 hz.2.2.2.1 h3 (rdFb_cons ho.2.2.2.2 hz.2.2.2.2 h4 (rdFb_nil))))))
end
variable {w : World}
abbrev WF (n : Int) : Prop := (Lit.int .i64 n).wf = true
abbrev ValW (N : Nat) (v : Val) : Prop := WF v.kind ∧ WF v.int ∧ v.text.size ≤ N
abbrev ColW (N : Nat) (c : Col) : Prop := c.name.size ≤ N ∧ WF c.kind
abbrev TblW (N : Nat) (t : Tbl) : Prop := t.name.size ≤ N ∧ (t.cols.length ≤ N ∧ ∀ c ∈ t.cols, ColW N c) ∧ (t.pk.length ≤ N ∧ ∀ c ∈ t.pk, WF c)
abbrev FkW (N : Nat) (f : FK) : Prop := f.table.size ≤ N ∧ (f.cols.length ≤ N ∧ ∀ c ∈ f.cols, WF c) ∧ f.ref.size ≤ N
abbrev ConW (N : Nat) (c : Con) : Prop := c.table.size ≤ N ∧ WF c.left ∧ c.op.size ≤ N ∧ WF c.right ∧ ValW N c.value
abbrev SchW (N : Nat) (s : Sch) : Prop := (s.tables.length ≤ N ∧ ∀ t ∈ s.tables, TblW N t) ∧ (s.fks.length ≤ N ∧ ∀ f ∈ s.fks, FkW N f) ∧ (s.cons.length ≤ N ∧ ∀ c ∈ s.cons, ConW N c)
theorem rdb_IF : RdB Tryd.prog w 3 (fun n => [.int .i64 n]) fun _ n => WF n := rdb_intF Tryd.underlying3
theorem rdb_SF : RdB Tryd.prog w 9 (fun s => [.str s]) fun N s => s.size ≤ N := rdb_stringF Tryd.underlying9
theorem rdb_intsF : RdB Tryd.prog w 23 (fun l => [eInts l]) fun N l => l.length ≤ N ∧ ∀ c ∈ l, WF c :=
  rdb_slice Tryd.underlying23 cells_int (fun _ => rfl) (eβ := eInt1) rdb_IF
theorem rdb_colF : RdB Tryd.prog w 46 eCol ColW :=
  (rdb_struct3 Tryd.underlying46 ⟨rfl, rfl, rfl⟩ ⟨cells_string, cells_int, cells_bool⟩ cells_Column rdb_SF rdb_IF (rdb_bool Tryd.underlying4)).to (fun p => ⟨p.1, p.2.1, p.2.2.1⟩) (fun _ => by simp [eCol]) fun _ _ h => ⟨h.1, h.2.1⟩
theorem rdb_colsF : RdB Tryd.prog w 22 (fun l => [eCols l]) fun N l => l.length ≤ N ∧ ∀ c ∈ l, ColW N c :=
  rdb_slice Tryd.underlying22 cells_Column (fun _ => rfl) rdb_colF
theorem rdb_tblF : RdB Tryd.prog w 25 eTbl TblW :=
  (rdb_struct3 Tryd.underlying25 ⟨rfl, rfl, rfl⟩ ⟨cells_string, cells_s_Column, cells_s_int⟩ cells_Table rdb_SF rdb_colsF rdb_intsF).to (fun p => ⟨p.1, p.2.1, p.2.2.1⟩) (fun _ => by simp [eTbl]) fun _ _ h => ⟨h.1, h.2.1, h.2.2.1⟩
theorem rdb_tblsF : RdB Tryd.prog w 38 (fun l => [eTbls l]) fun N l => l.length ≤ N ∧ ∀ c ∈ l, TblW N c :=
  rdb_slice Tryd.underlying38 cells_Table (fun _ => rfl) rdb_tblF
theorem rdb_fkF : RdB Tryd.prog w 48 eFK FkW :=
  (rdb_struct3 Tryd.underlying48 ⟨rfl, rfl, rfl⟩ ⟨cells_string, cells_s_int, cells_string⟩ cells_ForeignKey rdb_SF rdb_intsF rdb_SF).to (fun p => ⟨p.1, p.2.1, p.2.2.1⟩) (fun _ => by simp [eFK]) fun _ _ h => ⟨h.1, h.2.1, h.2.2.1⟩
theorem rdb_fksF : RdB Tryd.prog w 39 (fun l => [eFKs l]) fun N l => l.length ≤ N ∧ ∀ c ∈ l, FkW N c :=
  rdb_slice Tryd.underlying39 cells_ForeignKey (fun _ => rfl) rdb_fkF
theorem rdb_conF : RdB Tryd.prog w 52 eCon ConW :=
  (rdb_struct5 Tryd.underlying52 ⟨rfl, rfl, rfl, rfl, rfl⟩ ⟨cells_string, cells_int, cells_string, cells_int, cells_Value⟩ cells_Constraint rdb_SF rdb_IF rdb_SF rdb_IF rdb_valF).to (fun p => ⟨p.1, p.2.1, p.2.2.1, p.2.2.2.1, p.2.2.2.2.1⟩) (fun _ => by simp [eCon, eVal]) fun _ _ h => ⟨h.1, h.2.1, h.2.2.1, h.2.2.2.1, h.2.2.2.2.1⟩
theorem rdb_consF : RdB Tryd.prog w 40 (fun l => [eCons l]) fun N l => l.length ≤ N ∧ ∀ c ∈ l, ConW N c :=
  rdb_slice Tryd.underlying40 cells_Constraint (fun _ => rfl) rdb_conF
theorem rdb_schF : RdB Tryd.prog w 42 eSch SchW :=
  (rdb_struct3 Tryd.underlying42 ⟨rfl, rfl, rfl⟩ ⟨cells_s_Table, cells_s_ForeignKey, cells_s_Constraint⟩ cells_Schema rdb_tblsF rdb_fksF rdb_consF).to (fun p => ⟨p.1, p.2.1, p.2.2.1⟩) (fun _ => by simp [eSch]) fun _ _ h => ⟨h.1, h.2.1, h.2.2.1⟩
theorem valFitsW {v : Val} (h : ValW 1048576 v) : ValFits v := ⟨(intOk_bounds h.1).1, (intOk_bounds h.1).2, (intOk_bounds h.2.1).1, (intOk_bounds h.2.1).2, h.2.2⟩
theorem schFW {s : Sch} (h : SchW 1048576 s) : SchF s :=
  ⟨h.1.1, fun t ht => have q := h.1.2 t ht; ⟨q.1, q.2.1.1, fun c hc => ⟨(q.2.1.2 c hc).1, intOk_bounds (q.2.1.2 c hc).2⟩, q.2.2.1, fun c hc => intOk_bounds (q.2.2.2 c hc)⟩,
    h.2.1.1, fun f hf => have q := h.2.1.2 f hf; ⟨q.1, q.2.2, q.2.1.1, fun c hc => intOk_bounds (q.2.1.2 c hc)⟩,
    h.2.2.1, fun c hc => have q := h.2.2.2 c hc; ⟨q.1, q.2.2.1, intOk_bounds q.2.1, intOk_bounds q.2.2.2.1, valFitsW q.2.2.2.2⟩⟩
end

section
open Go.ChangeShapes Go.RowKit Go.Proofs.YtmmbghbkpjmifaaDoor Go.Proofs

theorem gPow : Tryd.prog.globalNamed "internal/strconv.uint64pow10" = some 1 := by kernel_rfl
theorem tPow : (Tryd.prog.globals[1]?).map (·.type) = some 165 := by kernel_rfl
theorem gSyn : Tryd.prog.globalNamed "strconv.ErrSyntax" = none := by kernel_rfl
theorem gRng : Tryd.prog.globalNamed "strconv.ErrRange" = none := by kernel_rfl
theorem laidW_rel {W : World} (h : laidMet Tryd.prog Rows.relationUpsertFindUptoRow.laid W) : LaidW Tryd.prog W where
  pow := fun _ => Lib.tabIs_of_head (k := .u64) (zs := (List.range 20).map fun i => ((10 ^ i : Nat) : Int)) gPow tPow Tryd.underlying165 Tryd.underlying155 (by kernel_rfl) (by kernel_rfl) h.tail.tail
  rng := fun q => by rw [gRng] at q; cases q
  syn := fun q => by rw [gSyn] at q; cases q
end
end Go.Bw
