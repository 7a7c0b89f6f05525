/-
  WHAT IS PROVED HERE, of this translation: partCells_congr, fillL_congr, capsOf_congr, argsOf_congr, boundN_congr, callOf_congr, loadK_congr, idxK_congr, VVal_congr, loadK_pick, idxK_pick, VVal_pick, putO_n, putO_box, putO_row, puts_n, puts_box, puts_row, VHead_chain, look_puts, clo_listed, CI.ext, evalO_congr, guardOf_congr, operand_looks, StepOK_sound, ApartP.apart, mem_sel, sel_apart, mem_ready, .., VHead.congr, VOp.congr, VVal.congr, pk.congr, assignK.congr, storeK.congr, appK.congr, appStd.congr, copyK.congr, clearK.congr, loadK.congr, idxK.congr, sliceK.congr, indexK.congr, binK.congr, convKk.congr, LN, NM, LE, RT, AI, qG, qGx, qH, qHx, qP, qPx, qI, qIx.
  A theorem that ends in sat says what the function it names returns, whatever the state it is called in; the bounds on its arguments stand ahead of it.
-/
import Derived.IntWalk
import Derived.Test.YtjjnchbfjbjemaaGreatDoorN21b
set_option linter.unusedSimpArgs false
set_option linter.unusedVariables false

namespace Go.Bw
open Go.RowKit
section
variable {P : Program} {w0 : World} {m0 : Mem} {s s' : St} {a : Act} {w : World} {m : Mem} {ω : Wh} {F0 : Home} {T : TypeId → Option TI}

theorem partCells_congr {ty : TypeId} {x : Operand} (h : ∀ ty, evalO T s ty x = evalO T s' ty x) : partCells T s ty x = partCells T s' ty x := by
  unfold partCells; rw [h]
theorem fillL_congr {ty : TypeId} {place : Nat → Option (Nat × Nat)} : ∀ (ps : List (Nat × Operand)) (ls : List L), (∀ p ∈ ps, ∀ ty, evalO T s ty p.2 = evalO T s' ty p.2) → fillL T s ty place ls ps = fillL T s' ty place ls ps
  | [], _, _ => rfl
  | (i, x) :: ps, ls, h => by
    simp only [fillL]
    have e : partCells T s ty x = partCells T s' ty x := partCells_congr fun ty => h (i, x) (by simp) ty
    have e2 : ∀ q, fillL T s ty place q ps = fillL T s' ty place q ps := fun q => fillL_congr ps q fun p hp => h p (by simp [hp])
    simp only [e, e2]
theorem capsOf_congr {ty : TypeId} : ∀ (l : List Operand), (∀ x ∈ l, ∀ ty, evalO T s ty x = evalO T s' ty x) → capsOf s T ty l = capsOf s' T ty l
  | [], _ => rfl
  | x :: l, h => by
    simp only [capsOf]
    rw [h x (by simp), capsOf_congr l fun y hy => h y (by simp [hy])]
theorem argsOf_congr : ∀ (l : List Operand) (tys : List TypeId), (∀ x ∈ l, ∀ ty, evalO T s ty x = evalO T s' ty x) → argsOf T s l tys = argsOf T s' l tys
  | [], _, _ => rfl
  | x :: l, tys, h => by
    simp only [argsOf]
    rw [h x (by simp), argsOf_congr l tys.tail fun y hy => h y (by simp [hy])]
theorem boundN_congr {ty : TypeId} {n : Nat} (x : Option Operand) (h : ∀ y, x = some y → ∀ ty, evalO T s ty y = evalO T s' ty y) : boundN T s ty n x = boundN T s' ty n x := by
  cases x with
  | none => rfl
  | some y => simp only [boundN]; rw [h y rfl]
theorem callOf_congr (c : Call) (h : ∀ x ∈ c.operands.toList, ∀ ty, evalO T s ty x = evalO T s' ty x) : callOf T s c = callOf T s' c := by
  unfold callOf
  cases hc : c.callee with
  | value g =>
    simp only
    rw [h g (by simp [Call.operands, hc]), argsOf_congr _ _ fun x hx => h x (by simp only [Call.operands, hc, Array.toList_append, List.mem_append]; exact .inr hx)]
  | _ => rfl

theorem loadK_congr {i : TI} {K : A → Prop} (hb : ∀ id ls, look s.box id = some ls → look s'.box id = some ls) (hr : s'.row = s.row) {l : L} (h : loadK s i K l) : loadK s' i K l := by
  cases l <;> simp only [loadK, hr] at h ⊢
  case ptr id off =>
    obtain ⟨ls, h1, h2⟩ := mO_elim h
    rw [hb _ _ h1]
    exact h2
  all_goals exact h
theorem idxK_congr {j : TI} {n : Int} {K : A → Prop} (hr : s'.row = s.row) {l : L} (h : idxK s j n K l) : idxK s' j n K l := by
  cases l <;> simp only [idxK, hr] at h ⊢ <;> exact h

theorem VVal_congr {o : Oper} {K : A → Prop} (hb : ∀ id ls, look s.box id = some ls → look s'.box id = some ls) (hr : s'.row = s.row) (E : ∀ x ∈ o.op.operands.toList, ∀ ty, evalO T s ty x = evalO T s' ty x) (h : VVal P T o s K) : VVal P T o s' K := by
  unfold VVal at h ⊢
  split at h
  case h_1 x ho => simp only [ho] at E ⊢; rw [← E x (by simp [Op.operands])]; exact h
  case h_2 x ho => simp only [ho] at E ⊢; rw [← E x (by simp [Op.operands])]; exact h
  case h_3 c x y ho =>
    simp only [ho] at E ⊢
    rw [← E c (by simp [Op.operands])]
    obtain ⟨b, hb', h⟩ := mO_elim h
    rw [hb', mO_some, ← E _ (by cases b <;> simp [Op.operands])]
    exact h
  case h_4 t x ho => simp only [ho] at E ⊢; rw [← E x (by simp [Op.operands])]; exact h
  case h_5 t x ho =>
    simp only [ho] at E ⊢
    rw [← E x (by simp [Op.operands])]
    obtain ⟨i, hi, h⟩ := mO_elim h
    obtain ⟨l, hl, h⟩ := mO_elim h
    rw [hi, hl]
    exact loadK_congr hb hr h
  case h_6 t x f ho => simp only [ho] at E ⊢; rw [← E x (by simp [Op.operands])]; exact h
  case h_7 t x f ho => simp only [ho] at E ⊢; rw [← E x (by simp [Op.operands])]; exact h
  case h_8 t x y ho =>
    simp only [ho] at E ⊢
    rw [← E x (by simp [Op.operands]), ← E y (by simp [Op.operands])]
    obtain ⟨i, hi, h⟩ := mO_elim h
    obtain ⟨n, hn, h⟩ := mO_elim h
    obtain ⟨l, hl, h⟩ := mO_elim h
    rw [hi, hn, hl]
    exact idxK_congr hr h
  case h_9 t x y ho =>
    simp only [ho] at E ⊢
    rw [← E x (by simp [Op.operands])]
    obtain ⟨i, hi, h⟩ := mO_elim h
    obtain ⟨l, hl, h⟩ := mO_elim h
    rw [hi, hl]
    show indexK T s' i y K l
    cases l <;> simp only [indexK] at h ⊢
    rw [← E y (by simp [Op.operands])]
    exact h
  case h_10 x k ho => simp only [ho] at E ⊢; rw [← E x (by simp [Op.operands])]; exact h
  case h_11 op t x y t' ho => simp only [ho] at E ⊢; rw [← E x (by simp [Op.operands]), ← E y (by simp [Op.operands])]; exact h
  case h_12 t parts ho =>
    simp only [ho] at E ⊢
    have hf : ∀ pl z, fillL T s' 0 pl z parts.toList = fillL T s 0 pl z parts.toList := fun pl z => (fillL_congr _ _ fun p hp => E p.2 (by simp only [Op.operands, List.mem_map]; exact ⟨p, hp, rfl⟩)).symm
    simp only [hf]
    exact h
  case h_13 t len parts ho =>
    simp only [ho] at E ⊢
    have hf : ∀ pl z, fillL T s' 0 pl z parts.toList = fillL T s 0 pl z parts.toList := fun pl z => (fillL_congr _ _ fun p hp => E p.2 (by simp only [Op.operands, List.mem_map]; exact ⟨p, hp, rfl⟩)).symm
    simp only [hf]
    exact h
  case h_14 f first caps ho =>
    simp only [ho] at E ⊢
    rw [← capsOf_congr (s := s) (s' := s') caps.toList fun x hx => E x (by simp only [Op.operands, Array.toList_append, List.mem_append]; exact .inr hx)]
    exact h
  case h_15 t x lo hi ho =>
    simp only [ho] at E ⊢
    have e1 : ∀ n, boundN T s' t n lo = boundN T s t n lo := fun n => (boundN_congr lo fun y hy => E y (by simp [Op.operands, hy])).symm
    have e2 : ∀ n, boundN T s' t n hi = boundN T s t n hi := fun n => (boundN_congr hi fun y hy => E y (by simp [Op.operands, hy])).symm
    rw [← E x (by simp [Op.operands])]
    obtain ⟨l, hl, h⟩ := mO_elim h
    rw [hl]
    show sliceK T s' t lo hi K l
    cases l <;> simp only [sliceK, e1, e2, hr] at h ⊢ <;> exact h
  case h_16 t x lo hi z ho =>
    simp only [ho] at E ⊢
    have e1 : ∀ n, boundN T s' t n lo = boundN T s t n lo := fun n => (boundN_congr lo fun y hy => E y (by simp [Op.operands, hy])).symm
    have e2 : ∀ n, boundN T s' t n hi = boundN T s t n hi := fun n => (boundN_congr hi fun y hy => E y (by simp [Op.operands, hy])).symm
    have e3 : ∀ n, boundN T s' t n (some z) = boundN T s t n (some z) := fun n => (boundN_congr (some z) fun y hy => E y (by simp [Op.operands, ← Option.some.inj hy])).symm
    rw [← E x (by simp [Op.operands])]
    simp only [e1, e2, e3]
    exact h
  case h_17 x ho => simp only [ho] at E ⊢; rw [← E x (by simp [Op.operands])]; exact h
  case h_18 t t' x ho => simp only [ho] at E ⊢; rw [← E x (by simp [Op.operands])]; exact h
  case h_19 c ho =>
    simp only [ho] at E ⊢
    split at h
    · rename_i hcal
      split at h
      · rename_i x t hargs htys
        rw [← E x (by simp [Op.operands, Call.operands, hcal, hargs])]
        exact h
      · cases h
    · rename_i hcal
      split at h
      · rename_i x y hargs
        rw [← E x (by simp [Op.operands, Call.operands, hcal, hargs]), ← E y (by simp [Op.operands, Call.operands, hcal, hargs])]
        exact h
      · cases h
    · rename_i hcal
      split at h
      · rename_i x y hargs
        rw [← E x (by simp [Op.operands, Call.operands, hcal, hargs]), ← E y (by simp [Op.operands, Call.operands, hcal, hargs])]
        exact h
      · cases h
    · rw [← callOf_congr (s := s) (s' := s') c fun x hx => E x (by simpa [Op.operands] using hx)]
      simpa only [CallK, hr] using h
    · cases h
  case h_20 t x ho => simp only [ho] at E ⊢; rw [← E x (by simp [Op.operands])]; exact h
  case h_21 => cases h

theorem loadK_pick {i : TI} {K : A → Prop} {l : L} (h : loadK s i K l) : ∃ z, K z ∧ loadK s i (fun q => q = z) l := by
  cases l <;> simp only [loadK] at h ⊢
  · obtain ⟨z, hz, h⟩ := mO_elim h
    exact ⟨_, h, by simp only [hz, mO_some]⟩
  · obtain ⟨ls, hls, h⟩ := mO_elim h
    obtain ⟨z, hz, h⟩ := mO_elim h
    exact ⟨_, h, by simp only [hls, hz, mO_some]⟩
  · obtain ⟨r, hr, h1, h⟩ := mO_elim h
    obtain ⟨z, hz, h⟩ := mO_elim h
    exact ⟨_, h, by simp only [hr, hz, mO_some]; exact ⟨h1, trivial⟩⟩
theorem idxK_pick {j : TI} {n : Int} {K : A → Prop} {l : L} (h : idxK s j n K l) : ∃ z, K z ∧ idxK s j n (fun q => q = z) l := by
  cases l <;> simp only [idxK] at h ⊢
  · exact ⟨_, h.2.2, h.1, h.2.1, rfl⟩
  · obtain ⟨r, hr, h1, h2, h3⟩ := mO_elim h
    exact ⟨_, h3, by rw [hr]; exact ⟨h1, h2, rfl⟩⟩

theorem VVal_pick {o : Oper} {K : A → Prop} (h : VVal P T o s K) : ∃ x, K x ∧ VVal P T o s (fun y => y = x) := by
  unfold VVal at h ⊢
  split at h
  case h_1 x ho => obtain ⟨y, hy, h⟩ := mO_elim h; exact ⟨_, h, by simp only [hy, mO_some]⟩
  case h_2 x ho => obtain ⟨y, hy, h⟩ := mO_elim h; exact ⟨_, h, by simp only [hy, mO_some]⟩
  case h_3 c x y ho =>
    obtain ⟨b, hb, h⟩ := mO_elim h
    obtain ⟨z, hz, h⟩ := mO_elim h
    exact ⟨_, h, by simp only [hb, hz, mO_some]⟩
  case h_4 t x ho => obtain ⟨b, hb, h⟩ := mO_elim h; exact ⟨_, h, by simp only [hb, mO_some]⟩
  case h_5 t x ho =>
    obtain ⟨i, hi, h⟩ := mO_elim h
    obtain ⟨y, hy, h⟩ := mO_elim h
    obtain ⟨z, h1, h2⟩ := loadK_pick h
    exact ⟨z, h1, by rw [hi, hy]; exact h2⟩
  case h_6 t x f ho =>
    obtain ⟨i, hi, h⟩ := mO_elim h
    obtain ⟨y, hy, h⟩ := mO_elim h
    obtain ⟨off, ho', h⟩ := mO_elim h
    obtain ⟨z, hz, h⟩ := mO_elim h
    exact ⟨_, h, by simp only [hi, hy, ho', hz, mO_some]⟩
  case h_7 t x f ho =>
    obtain ⟨i, hi, h⟩ := mO_elim h
    obtain ⟨l, hl, h⟩ := mO_elim h
    obtain ⟨p, hp, h⟩ := mO_elim h
    obtain ⟨j, hj, h⟩ := mO_elim h
    obtain ⟨ls, hls, hf, h⟩ := mO_elim h
    obtain ⟨z, hz, h⟩ := mO_elim h
    exact ⟨_, h, by simp only [hi, hl, hp, hj, hls, mO_some]; exact ⟨hf, by simp only [hz, mO_some]⟩⟩
  case h_8 t x y ho =>
    obtain ⟨j, hj, h⟩ := mO_elim h
    obtain ⟨n, hn, h⟩ := mO_elim h
    obtain ⟨l, hl, h⟩ := mO_elim h
    obtain ⟨z, h1, h2⟩ := idxK_pick h
    exact ⟨z, h1, by rw [hj, hn, hl]; exact h2⟩
  case h_9 t x y ho =>
    obtain ⟨i, hi, h⟩ := mO_elim h
    obtain ⟨l, hl, h⟩ := mO_elim h
    rw [hi, hl]
    show ∃ x, K x ∧ indexK T s i y (fun y => y = x) l
    cases l <;> simp only [indexK] at h ⊢
    obtain ⟨n, hn, h1, h2, h⟩ := mO_elim h
    exact ⟨_, h, by simp only [hn, mO_some]; exact ⟨h1, h2, trivial⟩⟩
  case h_10 x k ho =>
    obtain ⟨xs, hx, h⟩ := mO_elim h
    obtain ⟨y, hy, h⟩ := mO_elim h
    exact ⟨_, h, by simp only [hx, hy, mO_some]⟩
  case h_11 op t x y t' ho =>
    obtain ⟨v1, h1, h⟩ := mO_elim h
    obtain ⟨v2, h2, h⟩ := mO_elim h
    rw [h1, h2]
    show ∃ x, K x ∧ binK P op t (fun y => y = x) v1 v2
    unfold binK at h ⊢
    split at h
    · obtain ⟨p, h3, h4, h⟩ := mO_elim h
      exact ⟨_, h, by simp only [h3, mO_some]; exact ⟨h4, trivial⟩⟩
    · obtain ⟨ks, hk, h3, h⟩ := mO_elim h
      obtain ⟨b, hb, h⟩ := mO_elim h
      obtain ⟨b', hb', h⟩ := mO_elim h
      exact ⟨_, h, by simp only [hk, hb, hb', mO_some]; exact ⟨h3, trivial⟩⟩
    · cases h
  case h_12 t parts ho =>
    obtain ⟨i, hi, h⟩ := mO_elim h
    obtain ⟨l, hl, h⟩ := mO_elim h
    obtain ⟨z, hz, h⟩ := mO_elim h
    obtain ⟨pl, hp, h⟩ := mO_elim h
    obtain ⟨ls, hls, h⟩ := mO_elim h
    exact ⟨_, h, by simp only [hi, hl, hz, hp, hls, mO_some]⟩
  case h_13 t len parts ho =>
    obtain ⟨j, hj, h⟩ := mO_elim h
    obtain ⟨z, hz, hc, h⟩ := mO_elim h
    obtain ⟨ls, hls, hfz, h⟩ := mO_elim h
    exact ⟨_, h, by simp only [hj, hz, hls, mO_some]; exact ⟨hc, hfz, trivial⟩⟩
  case h_14 f first caps ho =>
    obtain ⟨h1, h⟩ := h
    obtain ⟨cs, hcs, h⟩ := mO_elim h
    exact ⟨_, h, h1, by simp only [hcs, mO_some]⟩
  case h_15 t x lo hi ho =>
    obtain ⟨l, hl, h⟩ := mO_elim h
    rw [hl]
    show ∃ x, K x ∧ sliceK T s t lo hi (fun y => y = x) l
    cases l <;> simp only [sliceK] at h ⊢
    · obtain ⟨i, hi', h⟩ := mO_elim h
      obtain ⟨l, hl, h⟩ := mO_elim h
      obtain ⟨hh, hhi, h1, h2, h⟩ := mO_elim h
      exact ⟨_, h, by simp only [hi', hl, hhi, mO_some]; exact ⟨h1, h2, trivial⟩⟩
    · obtain ⟨i, hi', h⟩ := mO_elim h
      obtain ⟨l, hl, h⟩ := mO_elim h
      obtain ⟨hh, hhi, h1, h2, h⟩ := mO_elim h
      exact ⟨_, h, by simp only [hi', hl, hhi, mO_some]; exact ⟨h1, h2, trivial⟩⟩
    · obtain ⟨i, hi', h⟩ := mO_elim h
      obtain ⟨l, hl, h⟩ := mO_elim h
      obtain ⟨hh, hhi, h1, h2, h⟩ := mO_elim h
      exact ⟨_, h, by simp only [hi', hl, hhi, mO_some]; exact ⟨h1, h2, trivial⟩⟩
    · obtain ⟨i, hi', h⟩ := mO_elim h
      obtain ⟨r, hr, h⟩ := mO_elim h
      obtain ⟨l, hl, h⟩ := mO_elim h
      obtain ⟨hh, hhi, h1, h2, h⟩ := mO_elim h
      exact ⟨_, h, by simp only [hi', hr, hl, hhi, mO_some]; exact ⟨h1, h2, trivial⟩⟩
  case h_16 t x lo hi z ho =>
    obtain ⟨j, hj, h⟩ := mO_elim h
    obtain ⟨v1, hx, h⟩ := mO_elim h
    obtain ⟨n, hn, h⟩ := mO_elim h
    obtain ⟨l, hl, h⟩ := mO_elim h
    obtain ⟨hh, hhi, h⟩ := mO_elim h
    obtain ⟨mx, hmx, h1, h2, h⟩ := mO_elim h
    exact ⟨_, h, by simp only [hj, hx, hn, hl, hhi, hmx, mO_some]; exact ⟨h1, h2, trivial⟩⟩
  case h_17 x ho =>
    obtain ⟨y, hy, h1, h⟩ := mO_elim h
    exact ⟨_, h, by simp only [hy, mO_some]; exact ⟨h1, trivial⟩⟩
  case h_18 t t' x ho =>
    obtain ⟨l, hl, h⟩ := mO_elim h
    rw [hl]
    show ∃ x, K x ∧ convKk P T t t' (fun y => y = x) l
    cases l <;> simp only [convKk] at h ⊢
    · obtain ⟨h1, h⟩ := h
      obtain ⟨k, hk, h⟩ := mO_elim h
      exact ⟨_, h, h1, by simp only [hk, mO_some]⟩
    · obtain ⟨i, hi, h⟩ := mO_elim h
      obtain ⟨i', hi', h⟩ := mO_elim h
      obtain ⟨e, he, h1, h⟩ := mO_elim h
      exact ⟨_, h, by simp only [hi, hi', he, mO_some]; exact ⟨h1, trivial⟩⟩
  case h_19 c ho =>
    split at h
    · split at h
      · obtain ⟨i, hi, h⟩ := mO_elim h
        obtain ⟨l, hl, h⟩ := mO_elim h
        obtain ⟨n, hn, h1, h⟩ := mO_elim h
        exact ⟨_, h, by simp only [hi, hl, hn, mO_some]; exact ⟨h1, trivial⟩⟩
      · cases h
    · split at h
      · obtain ⟨l1, h1, h⟩ := mO_elim h
        obtain ⟨l2, h2, h⟩ := mO_elim h
        obtain ⟨l, hl, h⟩ := mO_elim h
        exact ⟨_, h, by simp only [h1, h2, hl, mO_some]⟩
      · cases h
    · split at h
      · obtain ⟨l1, h1, h⟩ := mO_elim h
        obtain ⟨l2, h2, h⟩ := mO_elim h
        obtain ⟨l, hl, h⟩ := mO_elim h
        exact ⟨_, h, by simp only [h1, h2, hl, mO_some]⟩
      · cases h
    · obtain ⟨p, hp, r, h⟩ := mO_elim h
      rcases h with ⟨h1, h⟩ | ⟨h1, h⟩
      · exact ⟨_, h, by simp only [hp, mO_some]; exact ⟨r, .inl ⟨h1, rfl⟩⟩⟩
      · exact ⟨_, h, by simp only [hp, mO_some]; exact ⟨r, .inr ⟨h1, rfl⟩⟩⟩
    · cases h
  case h_20 t x ho =>
    obtain ⟨l, hl, h⟩ := mO_elim h
    cases l with
    | int k n => exact ⟨_, h, by simp only [hl, mO_some, negK]⟩
    | _ => cases h
  case h_21 => cases h

def VHead (P : Program) (T : TypeId → Option TI) (ops : Array Oper) : List Oper → St → (St → Prop) → Prop
  | [], s, K => K s
  | o :: l, s, K => match guardOf ops s o with
    | some true => VVal P T o s (pk s o.dst fun s' => VHead P T ops l s' K)
    | some false => pk s o.dst (fun s' => VHead P T ops l s' K) (.tup [])
    | none => False

def puts (s : St) : List (Option Tmp × A) → St
  | [] => s
  | p :: ps => puts (s.putO p.1 p.2) ps

def StepOK (P : Program) (T : TypeId → Option TI) (ops : Array Oper) (s : St) (o : Oper) (x : A) : Prop :=
  s.okD o.dst ∧ ((guardOf ops s o = some true ∧ VVal P T o s (fun y => y = x)) ∨ (guardOf ops s o = some false ∧ x = .tup []))

theorem putO_n (s : St) (d : Option Tmp) (x : A) : (s.putO d x).n = s.n := by cases d <;> rfl
theorem putO_box (s : St) (d : Option Tmp) (x : A) : (s.putO d x).box = s.box := by cases d <;> rfl
theorem putO_row (s : St) (d : Option Tmp) (x : A) : (s.putO d x).row = s.row := by cases d <;> rfl
theorem puts_n : ∀ (ps : List (Option Tmp × A)) (s : St), (puts s ps).n = s.n
  | [], _ => rfl
  | p :: ps, s => by rw [puts, puts_n ps, putO_n]
theorem puts_box : ∀ (ps : List (Option Tmp × A)) (s : St), (puts s ps).box = s.box
  | [], _ => rfl
  | p :: ps, s => by rw [puts, puts_box ps, putO_box]
theorem puts_row : ∀ (ps : List (Option Tmp × A)) (s : St), (puts s ps).row = s.row
  | [], _ => rfl
  | p :: ps, s => by rw [puts, puts_row ps, putO_row]

theorem VHead_chain {ops : Array Oper} {K : St → Prop} : ∀ (l : List Oper) (s : St), VHead P T ops l s K → ∃ ps : List (Option Tmp × A), ps.length = l.length ∧ K (puts s ps) ∧
    ∀ (i : Nat) (o : Oper), l[i]? = some o → ∃ x, ps[i]? = some (o.dst, x) ∧ StepOK P T ops (puts s (ps.take i)) o x
  | [], s, h => ⟨[], rfl, h, fun i o hi => by simp at hi⟩
  | o :: l, s, h => by
    simp only [VHead] at h
    have fin : ∀ x, StepOK P T ops s o x → VHead P T ops l (s.putO o.dst x) K → ∃ ps : List (Option Tmp × A), ps.length = (o :: l).length ∧ K (puts s ps) ∧
        ∀ (i : Nat) (o' : Oper), (o :: l)[i]? = some o' → ∃ x, ps[i]? = some (o'.dst, x) ∧ StepOK P T ops (puts s (ps.take i)) o' x := by
      intro x hx h
      obtain ⟨ps, h1, h2, h3⟩ := VHead_chain l _ h
      refine ⟨(o.dst, x) :: ps, by simp [h1], h2, fun i o' hi => ?_⟩
      cases i with
      | zero => simp only [List.getElem?_cons_zero, Option.some.injEq] at hi; subst hi; exact ⟨x, rfl, hx⟩
      | succ i =>
        obtain ⟨y, h4, h5⟩ := h3 i o' (by simpa using hi)
        exact ⟨y, by simpa using h4, h5⟩
    split at h
    · rename_i hg
      obtain ⟨x, hx, hv⟩ := VVal_pick h
      obtain ⟨h1, h2⟩ := pk_elim hx
      exact fin x ⟨h1, .inl ⟨hg, hv⟩⟩ h2
    · rename_i hg
      obtain ⟨h1, h2⟩ := pk_elim h
      exact fin _ ⟨h1, .inr ⟨hg, rfl⟩⟩ h2
    · cases h

def Apart (ps : List (Option Tmp × A)) : Prop := ∀ (i j : Nat) (p q : Option Tmp × A) (t : Tmp), ps[i]? = some p → ps[j]? = some q → p.1 = some t → q.1 = some t → i = j

theorem look_puts : ∀ (ps : List (Option Tmp × A)) (s : St), Apart ps → ∀ (t : Tmp) (x : A), look (puts s ps).env t = some x ↔ (some t, x) ∈ ps ∨ ((∀ p ∈ ps, p.1 ≠ some t) ∧ look s.env t = some x)
  | [], s, _, t, x => by simp [puts]
  | p :: ps, s, hA, t, x => by
    have hA' : Apart ps := fun i j q r u h1 h2 h3 h4 => by
      have := hA (i + 1) (j + 1) q r u (by simpa using h1) (by simpa using h2) h3 h4
      omega
    rw [puts, look_puts ps _ hA' t x]
    have hput : look (s.putO p.1 p.2).env t = if p.1 = some t then some p.2 else look s.env t := by
      unfold St.putO
      cases hp : p.1 with
      | none => simp
      | some d =>
        simp only [St.put, look, Option.some.injEq]
    rw [hput]
    by_cases hp : p.1 = some t
    · have hno : ∀ q ∈ ps, q.1 ≠ some t := by
        intro q hq he
        obtain ⟨j, hj, rfl⟩ := List.mem_iff_getElem.1 hq
        have := hA 0 (j + 1) p ps[j] t rfl (by simp [List.getElem?_eq_getElem hj]) hp he
        omega
      rw [if_pos hp]
      constructor
      · rintro (h | ⟨_, h⟩)
        · exact .inl (by simp [h])
        · injection h with h
          exact .inl (by rw [← h, ← hp]; simp)
      · rintro (h | ⟨h, _⟩)
        · rcases List.mem_cons.1 h with h | h
          · refine .inr ⟨hno, ?_⟩
            rw [← h]
          · exact .inl h
        · exact absurd hp (h p (by simp))
    · rw [if_neg hp]
      constructor
      · rintro (h | ⟨h1, h2⟩)
        · exact .inl (by simp [h])
        · refine .inr ⟨fun q hq => ?_, h2⟩
          rcases List.mem_cons.1 hq with rfl | hq
          · exact hp
          · exact h1 q hq
      · rintro (h | ⟨h1, h2⟩)
        · rcases List.mem_cons.1 h with h | h
          · exact absurd (by rw [← h]) hp
          · exact .inl h
        · exact .inr ⟨fun q hq => h1 q (by simp [hq]), h2⟩

def direct (ops : Array Oper) (i : Nat) : List Nat := match ops[i]? with | some o => (o.after.toList.filter (Region.binds .any)).map (·.on) | none => []
def clo (ops : Array Oper) : Nat → Nat → List Nat
  | 0, i => direct ops i
  | f + 1, i => direct ops i ++ (direct ops i).flatMap (clo ops f)
def dstAt (ops : Array Oper) (i : Nat) : Option Tmp := (ops[i]?).bind (·.dst)
def looksAt (ops : Array Oper) (i : Nat) : List Tmp := match ops[i]? with | some o => o.looksAt ops | none => []
def drawOk (ops : Array Oper) (na dep : Nat) : Bool :=
  decide (na ≤ ops.size) && (List.range ops.size).all fun i =>
    (direct ops i).all (fun j => decide (j < i)) &&
    (if i < na then (List.range na).all fun j => i == j || ((dstAt ops j).isNone || (dstAt ops i != dstAt ops j)) &&
        (match dstAt ops j with | none => true | some t => !(looksAt ops i).elem t || (if j < i then (clo ops dep i).elem j else (clo ops dep j).elem i))
      else (List.range i).all fun j => (clo ops dep i).elem j)

theorem clo_listed {ops : Array Oper} {listed : Nat → Prop} (hcl : ∀ i, listed i → ∀ j ∈ direct ops i, listed j) : ∀ (f i : Nat), (∀ j ∈ direct ops i, listed j) → ∀ j ∈ clo ops f i, listed j
  | 0, i, h, j, hj => h j hj
  | f + 1, i, h, j, hj => by
    simp only [clo, List.mem_append, List.mem_flatMap] at hj
    rcases hj with hj | ⟨k, hk, hj⟩
    · exact h j hj
    · exact clo_listed hcl f k (hcl k (h k hk)) j hj

theorem CI.ext (h : CI P w0 m0 F0 s a w m ω) (hn : s'.n = s.n) (he : ∀ t, look s'.env t = look s.env t) (hb : s'.box = s.box) (hr : s'.row = s.row) : CI P w0 m0 F0 s' a w m ω :=
  h.weaken hn (fun t x hx => by rw [← he]; exact hx) (fun i ls hi => by rw [← hb]; exact hi) (fun i ls hi => by rw [← hr]; exact hi)

theorem evalO_congr {x : Operand} (h : ∀ t, x = .tmp t → look s.env t = look s'.env t) (ty : TypeId) : evalO T s ty x = evalO T s' ty x := by
  cases x with
  | tmp t => exact h t rfl
  | _ => rfl
theorem guardOf_congr {ops : Array Oper} {o : Oper} (h : ∀ t ∈ o.looksAt ops, look s.env t = look s'.env t) : guardOf ops s o = guardOf ops s' o := by
  unfold guardOf
  split
  · rfl
  · rename_i j want hg
    split
    · rename_i t ht
      rw [h t (by simp [Oper.looksAt, hg, ht])]
    · rfl
theorem operand_looks {ops : Array Oper} {o : Oper} {t : Tmp} (h : Operand.tmp t ∈ o.op.operands.toList) : t ∈ o.looksAt ops := by
  unfold Oper.looksAt
  refine List.mem_append_left _ (List.mem_filterMap.2 ⟨_, h, rfl⟩)

theorem StepOK_sound (hT : TabOk P T) {ops : Array Oper} {o : Oper} {x : A} (h : StepOK P T ops s' o x) (hbox : ∀ id ls, look s'.box id = some ls → look s.box id = some ls) (hrow : s'.row = s.row) (hn : s'.n = s.n) (hl : ∀ t ∈ o.looksAt ops, look s'.env t = look s.env t) (hC : CI P w0 m0 F0 s a w m ω)
    {K : Act → World → Prop} {Q : Exit → Act → World → Prop} (hK : ∀ v w' m', CI P w0 m0 F0 (s.putO o.dst x) (a.put o.dst v) w' m' ω → K (a.put o.dst v) w') :
    if Region.wanted o (yielded ops a.tmps) then o.wp P a w K Q ∨ (o.asks P a w ∧ LetsOut Q) else K (a.put o.dst undef) w := by
  obtain ⟨hd, h⟩ := h
  have hd' : s.okD o.dst := by
    unfold St.okD at hd ⊢
    split at hd
    · rw [← hn]; exact hd
    · trivial
  rcases h with ⟨hg, hv⟩ | ⟨hg, rfl⟩
  · rw [guardOf_congr (s' := s) hl] at hg
    rw [if_pos (guardOf_sound hC hg)]
    have hv' := VVal_congr (s' := s) hbox hrow.symm (fun y hy ty => evalO_congr (fun t ht => hl t (operand_looks (ht ▸ hy))) ty) hv
    obtain ⟨y, rfl, hG⟩ := VVal_sound hT hv' hC
    exact .inl (hG.1 _ _ fun v w' ⟨m', h1, h2⟩ => hK v w' m' (h1.putO hd' h2))
  · rw [guardOf_congr (s' := s) hl] at hg
    rw [if_neg (by rw [guardOf_sound hC hg]; simp)]
    exact hK undef w m (hC.putO hd' arep_undef)

def ApartP (ps : List (Option Tmp × A)) : Prop := ps.Pairwise fun p q => ∀ t, p.1 = some t → q.1 ≠ some t
theorem ApartP.apart {ps : List (Option Tmp × A)} (h : ApartP ps) : Apart ps := by
  intro i j p q t hi hj hp hq
  have hi' := (List.getElem?_eq_some_iff.1 hi)
  have hj' := (List.getElem?_eq_some_iff.1 hj)
  obtain ⟨li, rfl⟩ := hi'
  obtain ⟨lj, rfl⟩ := hj'
  rcases Nat.lt_trichotomy i j with hlt | heq | hgt
  · exact absurd hq (List.pairwise_iff_getElem.1 h i j li lj hlt t hp)
  · exact heq
  · exact absurd hp (List.pairwise_iff_getElem.1 h j i lj li hgt t hq)

def sel (L : Nat → Bool) (ps : List (Option Tmp × A)) : List (Option Tmp × A) := (ps.zipIdx.filter fun p => L p.2).map (·.1)
theorem mem_sel {L : Nat → Bool} {ps : List (Option Tmp × A)} {p : Option Tmp × A} : p ∈ sel L ps ↔ ∃ i, L i = true ∧ ps[i]? = some p := by
  unfold sel
  simp only [List.mem_map, List.mem_filter]
  constructor
  · rintro ⟨⟨q, i⟩, ⟨h1, h2⟩, rfl⟩
    exact ⟨i, h2, by simpa using List.mem_zipIdx_iff_getElem?.1 h1⟩
  · rintro ⟨i, h1, h2⟩
    exact ⟨(p, i), ⟨List.mem_zipIdx_iff_getElem?.2 (by simpa using h2), h1⟩, rfl⟩
theorem sel_apart {L : Nat → Bool} {ps : List (Option Tmp × A)} (h : ApartP ps) : ApartP (sel L ps) := by
  refine List.Pairwise.sublist ?_ h
  have h1 : (ps.zipIdx.filter fun p => L p.2).Sublist ps.zipIdx := List.filter_sublist
  have h2 := h1.map (fun p : (Option Tmp × A) × Nat => p.1)
  have h3 : ps.zipIdx.map (fun p : (Option Tmp × A) × Nat => p.1) = ps := by simp
  rw [h3] at h2
  exact h2

theorem mem_ready {ops : Array Oper} {listed : Array Bool} (hsz : listed.size = ops.size) {i : Nat} : i ∈ Region.ready .any ops listed ↔ i < ops.size ∧ listed.getD i false = false ∧ ∀ j ∈ direct ops i, listed.getD j false = true := by
  unfold Region.ready
  simp only [List.mem_filter, List.mem_range, Bool.and_eq_true, Bool.not_eq_true']
  constructor
  · rintro ⟨h1, h2, h3⟩
    have hs : ops[i]? = some ops[i] := Array.getElem?_eq_getElem h1
    rw [hs] at h3
    simp only [Option.map_some, Option.getD_some, Array.all_eq_true, Bool.or_eq_true, Bool.not_eq_true'] at h3
    refine ⟨h1, ?_, fun j hj => ?_⟩
    · simp only [Array.getD_eq_getD_getElem?] at h2 ⊢
      have : i < listed.size := by omega
      rw [Array.getElem?_eq_getElem this] at h2 ⊢
      simpa using h2
    · simp only [direct, hs, List.mem_map, List.mem_filter] at hj
      obtain ⟨e, ⟨h4, h5⟩, rfl⟩ := hj
      obtain ⟨k, hk, rfl⟩ := List.mem_iff_getElem.1 h4
      have := h3 k (by simpa using hk)
      simp only [Array.getElem_toList] at h5
      rw [h5] at this
      simpa using this
  · rintro ⟨h1, h2, h3⟩
    have hs : ops[i]? = some ops[i] := Array.getElem?_eq_getElem h1
    refine ⟨h1, ?_, ?_⟩
    · simp only [Array.getD_eq_getD_getElem?] at h2 ⊢
      have : i < listed.size := by omega
      rw [Array.getElem?_eq_getElem this] at h2 ⊢
      simpa using h2
    · rw [hs]
      simp only [Option.map_some, Option.getD_some, Array.all_eq_true, Bool.or_eq_true, Bool.not_eq_true']
      intro k hk
      cases hb : Region.binds .any ops[i].after[k] with
      | false => exact .inl rfl
      | true =>
        refine .inr (h3 _ ?_)
        simp only [direct, hs, List.mem_map, List.mem_filter]
        exact ⟨_, ⟨by simp, hb⟩, rfl⟩

theorem getD_setB (listed : Array Bool) {i : Nat} (hi : i < listed.size) (j : Nat) : (listed.setIfInBounds i true).getD j false = if j = i then true else listed.getD j false := by
  simp only [Array.getD_eq_getD_getElem?]
  by_cases h : j = i
  · subst h
    simp [hi]
  · rw [if_neg h, Array.getElem?_setIfInBounds_ne (fun e => h e.symm)]

structure DrawFacts (ops : Array Oper) (na dep : Nat) : Prop where
  le : na ≤ ops.size
  back : ∀ i, i < ops.size → ∀ j ∈ direct ops i, j < i
  apart : ∀ i j, i < na → j < na → i ≠ j → ∀ t, dstAt ops i = some t → dstAt ops j ≠ some t
  reads : ∀ i j t, i < na → j < na → i ≠ j → dstAt ops j = some t → t ∈ looksAt ops i → (j < i → j ∈ clo ops dep i) ∧ (i < j → i ∈ clo ops dep j)
  tail : ∀ i j, na ≤ i → i < ops.size → j < i → j ∈ clo ops dep i

theorem drawFacts {ops : Array Oper} {na dep : Nat} (h : drawOk ops na dep = true) : DrawFacts ops na dep := by
  unfold drawOk at h
  simp only [Bool.and_eq_true, decide_eq_true_eq, List.all_eq_true, List.mem_range] at h
  obtain ⟨h0, h⟩ := h
  refine ⟨h0, fun i hi j hj => (h i hi).1 j hj, fun i j hi hj hne t hti htj => ?_, fun i j t hi hj hne ht hl => ?_, fun i j hi hin hj => ?_⟩
  · have h1 := (h i (by omega)).2
    rw [if_pos hi] at h1
    simp only [List.all_eq_true, List.mem_range] at h1
    have h2 := h1 j hj
    simp only [Bool.or_eq_true, beq_iff_eq, Bool.and_eq_true] at h2
    rcases h2 with h2 | ⟨h2, _⟩
    · exact hne h2
    · rw [hti, htj] at h2
      simp at h2
  · have h1 := (h i (by omega)).2
    rw [if_pos hi] at h1
    simp only [List.all_eq_true, List.mem_range] at h1
    have h2 := h1 j hj
    simp only [Bool.or_eq_true, beq_iff_eq, Bool.and_eq_true] at h2
    rcases h2 with h2 | ⟨_, h2⟩
    · exact absurd h2 hne
    · rw [ht] at h2
      have hl' : (looksAt ops i).elem t = true := by simpa using hl
      simp only [hl', Bool.not_true, Bool.false_or] at h2
      constructor
      · intro hlt
        rw [if_pos hlt] at h2
        simpa using h2
      · intro hlt
        rw [if_neg (by omega)] at h2
        simpa using h2
  · have h1 := (h i hin).2
    rw [if_neg (by omega)] at h1
    simp only [List.all_eq_true, List.mem_range] at h1
    simpa using h1 j hj

theorem draw_tail (hT : TabOk P T) {ops : Array Oper} {na dep : Nat} (F : DrawFacts ops na dep) {K : St → Prop} {Q : Exit → Act → World → Prop} (hQ : ∀ s a w, K s → Conc P w0 m0 F0 s a w → Q .normal a w) :
    ∀ (fuel k : Nat) (listed : Array Bool) (s : St) (a : Act) (w : World), na ≤ k → k + fuel = ops.size → listed.size = ops.size → (∀ i, i < ops.size → (listed.getD i false = true ↔ i < k)) →
      VOps P T ops (ops.toList.drop k) s K → Conc P w0 m0 F0 s a w → wpAny P .any ops Q fuel listed a w
  | 0, k, listed, s, a, w, hk, hf, hsz, hl, hV, hC => by
    have hd : ops.toList.drop k = [] := by apply List.drop_eq_nil_of_le; simp; omega
    rw [hd] at hV
    refine ⟨?_, hQ s a w hV hC⟩
    apply List.eq_nil_iff_forall_not_mem.2
    intro i hi
    obtain ⟨h1, h2, _⟩ := (mem_ready hsz).1 hi
    rw [(hl i h1).2 (by omega)] at h2
    cases h2
  | fuel + 1, k, listed, s, a, w, hk, hf, hsz, hl, hV, hC => by
    have hkn : k < ops.size := by omega
    have hready : ∀ i, i ∈ Region.ready .any ops listed ↔ i = k := by
      intro i
      rw [mem_ready hsz]
      constructor
      · rintro ⟨h1, h2, h3⟩
        have hge : ¬ i < k := fun hlt => by rw [(hl i h1).2 hlt] at h2; cases h2
        rcases Nat.lt_or_ge k i with hgt | hle
        · have hcl := clo_listed (ops := ops) (listed := fun j => listed.getD j false = true) (fun j hj j' hj' => by
            have hjn : j < ops.size := by
              rcases Nat.lt_or_ge j ops.size with h | h
              · exact h
              · rw [Array.getD_eq_getD_getElem?, Array.getElem?_eq_none (by omega)] at hj; cases hj
            have hb := F.back j hjn j' hj'
            exact (hl j' (by omega)).2 (by have := (hl j hjn).1 hj; omega)) dep i h3 k (F.tail i k (by omega) h1 hgt)
          have := (hl k hkn).1 hcl
          omega
        · omega
      · rintro rfl
        refine ⟨hkn, ?_, fun j hj => (hl j (by have := F.back i hkn j hj; omega)).2 (F.back i hkn j hj)⟩
        cases hb : listed.getD i false with
        | false => rfl
        | true => have := (hl i hkn).1 hb; omega
    refine ⟨fun hn => ?_, fun i hi => ?_⟩
    · have := (hready k).2 rfl
      rw [hn] at this
      cases this
    · have hik := (hready i).1 hi
      subst hik
      have ho : ops[i]? = some ops[i] := Array.getElem?_eq_getElem hkn
      have hdrop : ops.toList.drop i = ops[i] :: ops.toList.drop (i + 1) := by
        rw [List.drop_eq_getElem_cons (by simpa using hkn)]
        simp
      rw [hdrop] at hV
      have next : ∀ s' a' w', VOps P T ops (ops.toList.drop (i + 1)) s' K → Conc P w0 m0 F0 s' a' w' → wpAny P .any ops Q fuel (listed.setIfInBounds i true) a' w' := fun s' a' w' h1 h2 =>
        draw_tail hT F hQ fuel (i + 1) _ s' a' w' (by omega) (by omega) (by simpa using hsz) (fun j hj => by
          rw [getD_setB listed (by omega)]
          by_cases hji : j = i
          · simp [hji]
          · rw [if_neg hji, hl j hj]
            omega) h1 h2
      obtain ⟨m, ω, h⟩ := hC
      simp only [wpOp, ho]
      simp only [VOps] at hV
      split at hV
      · rename_i hg
        rw [if_pos (guardOf_sound h hg)]
        exact .inl (VOp_sound hT hV h _ _ fun s' a' w' hK hc => next s' a' w' hK hc)
      · rename_i hg
        rw [if_neg (by rw [guardOf_sound h hg]; simp)]
        obtain ⟨h1, h2⟩ := pk_elim hV
        exact next _ _ w h2 ⟨m, ω, h.putO h1 arep_undef⟩
      · cases hV

theorem draw_head (hT : TabOk P T) {ops : Array Oper} {na dep : Nat} (F : DrawFacts ops na dep) {K : St → Prop} {Q : Exit → Act → World → Prop} (hQ : ∀ s a w, K s → Conc P w0 m0 F0 s a w → Q .normal a w) {s : St} {ps : List (Option Tmp × A)}
    (hlen : ps.length = na) (hstep : ∀ i, i < na → ∃ o x, ops[i]? = some o ∧ ps[i]? = some (o.dst, x) ∧ StepOK P T ops (puts s (ps.take i)) o x) (hV : VOps P T ops (ops.toList.drop na) (puts s ps) K) :
    ∀ (fuel : Nat) (listed : Array Bool) (a : Act) (w : World) (c : Nat), c + fuel = ops.size → listed.size = ops.size → ((List.range ops.size).filter fun i => listed.getD i false).length = c →
      (∀ i, i < ops.size → listed.getD i false = true → ∀ j ∈ direct ops i, listed.getD j false = true) → (∀ i, na ≤ i → i < ops.size → listed.getD i false = false) →
      (∃ m ω, CI P w0 m0 F0 (puts s (sel (fun i => listed.getD i false) ps)) a w m ω) → wpAny P .any ops Q fuel listed a w := by
  have hapart : ApartP ps := by
    refine List.pairwise_iff_getElem.2 fun i j hi hj hij t hp => ?_
    obtain ⟨o, x, h1, h2, _⟩ := hstep i (by omega)
    obtain ⟨o', x', h1', h2', _⟩ := hstep j (by omega)
    rw [List.getElem?_eq_getElem hi] at h2
    rw [List.getElem?_eq_getElem hj] at h2'
    injection h2 with h2
    injection h2' with h2'
    rw [h2] at hp
    rw [h2']
    have hp' : o.dst = some t := hp
    have h4 := F.apart i j (by omega) (by omega) (by omega) t (by simp [dstAt, h1, hp'])
    simpa [dstAt, h1'] using h4
  have hdst : ∀ j p, ps[j]? = some p → j < na ∧ dstAt ops j = p.1 := by
    intro j p hp
    have hj : j < na := by rw [← hlen]; exact (List.getElem?_eq_some_iff.1 hp).1
    obtain ⟨o, x, h1, h2, _⟩ := hstep j hj
    rw [hp] at h2
    injection h2 with h2
    exact ⟨hj, by simp [dstAt, h1, h2]⟩
  intro fuel
  induction fuel with
  | zero =>
    intro listed a w c hc hsz hcnt hcl htl hC
    -- all are listed, the head too: then na = size
    have hall : ∀ i, i < ops.size → listed.getD i false = true := by
      intro i hi
      have h1 : ((List.range ops.size).filter fun i => listed.getD i false).length = (List.range ops.size).length := by rw [hcnt, List.length_range]; omega
      have h2 := List.length_filter_eq_length_iff.1 h1
      exact h2 i (by simpa using hi)
    have hna : na = ops.size := by
      rcases Nat.lt_or_ge na ops.size with h | h
      · have := htl na (Nat.le_refl _) h
        rw [hall na h] at this
        cases this
      · have := F.le; omega
    obtain ⟨m, ω, h⟩ := hC
    have hA : CI P w0 m0 F0 (puts s ps) a w m ω := by
      refine h.ext (by rw [puts_n, puts_n]) (fun t => ?_) (by rw [puts_box, puts_box]) (by rw [puts_row, puts_row])
      apply Option.ext
      intro x
      rw [look_puts _ _ hapart.apart, look_puts _ _ (sel_apart hapart).apart]
      have hmem : ∀ p, p ∈ ps ↔ p ∈ sel (fun i => listed.getD i false) ps := by
        intro p
        rw [mem_sel]
        constructor
        · intro hp
          obtain ⟨i, hi, rfl⟩ := List.mem_iff_getElem.1 hp
          exact ⟨i, hall i (by omega), List.getElem?_eq_getElem hi⟩
        · rintro ⟨i, _, hi⟩
          exact List.mem_of_getElem? hi
      simp only [hmem]
    exact draw_tail hT F hQ 0 na listed (puts s ps) a w (Nat.le_refl _) (by omega) hsz (fun i hi => ⟨fun _ => by omega, fun _ => hall i hi⟩) hV ⟨m, ω, hA⟩
  | succ fuel ih =>
    intro listed a w c hc hsz hcnt hcl htl hC
    by_cases hdone : ∀ i, i < na → listed.getD i false = true
    · -- the head is through
      obtain ⟨m, ω, h⟩ := hC
      have hA : CI P w0 m0 F0 (puts s ps) a w m ω := by
        refine h.ext (by rw [puts_n, puts_n]) (fun t => ?_) (by rw [puts_box, puts_box]) (by rw [puts_row, puts_row])
        apply Option.ext
        intro x
        rw [look_puts _ _ hapart.apart, look_puts _ _ (sel_apart hapart).apart]
        have hmem : ∀ p, p ∈ ps ↔ p ∈ sel (fun i => listed.getD i false) ps := by
          intro p
          rw [mem_sel]
          constructor
          · intro hp
            obtain ⟨i, hi, rfl⟩ := List.mem_iff_getElem.1 hp
            exact ⟨i, hdone i (by omega), List.getElem?_eq_getElem hi⟩
          · rintro ⟨i, _, hi⟩
            exact List.mem_of_getElem? hi
        simp only [hmem]
      have hcna : c = na := by
        rw [← hcnt]
        have h1 : ((List.range ops.size).filter fun i => listed.getD i false) = (List.range ops.size).filter fun i => decide (i < na) := by
          apply List.filter_congr
          intro i hi
          have hi : i < ops.size := by simpa using hi
          by_cases hlt : i < na
          · rw [hdone i hlt]; simp [hlt]
          · rw [htl i (by omega) hi]; simp [hlt]
        rw [h1]
        have h2 : ∀ n, na ≤ n → ((List.range n).filter fun i => decide (i < na)).length = na := by
          intro n hn
          induction n with
          | zero => simp; omega
          | succ n ihn =>
            rw [List.range_succ, List.filter_append, List.length_append]
            rcases Nat.lt_or_ge n na with h | h
            · have hna : na = n + 1 := by omega
              have : ((List.range n).filter fun i => decide (i < na)) = List.range n := by
                apply List.filter_eq_self.2
                intro i hi
                have : i < n := by simpa using hi
                simp; omega
              rw [this]
              simp [h]
              omega
            · rw [ihn h]
              simp [show ¬ n < na from by omega]
        exact h2 _ F.le
      exact draw_tail hT F hQ (fuel + 1) na listed (puts s ps) a w (Nat.le_refl _) (by omega) hsz (fun i hi => ⟨(fun hl => by
        rcases Nat.lt_or_ge i na with h | h
        · exact h
        · rw [htl i h hi] at hl
          cases hl), fun hlt => hdone i hlt⟩) hV ⟨m, ω, hA⟩
    · -- something of the head is not listed
      have hex : ∃ i, i < na ∧ listed.getD i false = false := by
        apply Classical.byContradiction
        intro hn
        apply hdone
        intro i hi
        cases hb : listed.getD i false with
        | true => rfl
        | false => exact absurd ⟨i, hi, hb⟩ hn
      refine ⟨fun hn => ?_, fun i hi => ?_⟩
      · exfalso
        -- the least one is ready
        obtain ⟨i, h1, h2⟩ := hex
        have key : ∀ n i, i ≤ n → i < na → listed.getD i false = false → ∃ k, k ∈ Region.ready .any ops listed := by
          intro n
          induction n with
          | zero =>
            intro i hi hina hb
            have : i = 0 := by omega
            subst this
            refine ⟨0, (mem_ready hsz).2 ⟨by have := F.le; omega, hb, fun j hj => ?_⟩⟩
            have := F.back 0 (by have := F.le; omega) j hj
            omega
          | succ n ihn =>
            intro i hi hina hb
            by_cases hall : ∀ j ∈ direct ops i, listed.getD j false = true
            · exact ⟨i, (mem_ready hsz).2 ⟨by have := F.le; omega, hb, hall⟩⟩
            · have : ∃ j, j ∈ direct ops i ∧ listed.getD j false = false := by
                apply Classical.byContradiction
                intro hn
                apply hall
                intro j hj
                cases hb : listed.getD j false with
                | true => rfl
                | false => exact absurd ⟨j, hj, hb⟩ hn
              obtain ⟨j, hj, hjb⟩ := this
              have := F.back i (by have := F.le; omega) j hj
              exact ihn j (by omega) (by omega) hjb
        obtain ⟨k, hk⟩ := key i i (Nat.le_refl _) h1 h2
        rw [hn] at hk
        cases hk
      · obtain ⟨h1, h2, h3⟩ := (mem_ready hsz).1 hi
        have hcl' : ∀ j ∈ clo ops dep i, listed.getD j false = true := clo_listed (ops := ops) (listed := fun j => listed.getD j false = true) (fun j hj j' hj' => by
          have hjn : j < ops.size := by
            rcases Nat.lt_or_ge j ops.size with h | h
            · exact h
            · rw [Array.getD_eq_getD_getElem?, Array.getElem?_eq_none (by omega)] at hj; cases hj
          exact hcl j hjn hj j' hj') dep i h3
        have hina : i < na := by
          rcases Nat.lt_or_ge i na with h | h
          · exact h
          · obtain ⟨j, hj, hjb⟩ := hex
            have := hcl' j (F.tail i j h h1 (by omega))
            rw [hjb] at this
            cases this
        obtain ⟨o, x, ho, hp, hS⟩ := hstep i hina
        obtain ⟨m, ω, h⟩ := hC
        simp only [wpOp, ho]
        refine StepOK_sound hT hS (s := puts s (sel (fun i => listed.getD i false) ps)) (fun i x hx => by rw [puts_box] at hx ⊢; exact hx) (by rw [puts_row, puts_row]) (by rw [puts_n, puts_n]) (fun t ht => ?_) h (fun v w' m' hC' => ?_)
        · -- the same operands
          have htl' : t ∈ looksAt ops i := by simpa [looksAt, ho] using ht
          have happ : Apart (ps.take i) := by
            refine ApartP.apart ?_
            exact List.Pairwise.sublist (List.take_sublist i ps) hapart
          apply Option.ext
          intro y
          rw [look_puts _ _ happ, look_puts _ _ (sel_apart hapart).apart]
          have hmem : ∀ y, (some t, y) ∈ ps.take i ↔ (some t, y) ∈ sel (fun i => listed.getD i false) ps := by
            intro y
            rw [mem_sel]
            constructor
            · intro hm
              obtain ⟨j, hj, he⟩ := List.mem_iff_getElem.1 hm
              have hjl : j < i := by simp at hj; omega
              have hpj : ps[j]? = some (some t, y) := by
                have := List.getElem?_eq_getElem hj
                rw [he, List.getElem?_take, if_pos hjl] at this
                exact this
              obtain ⟨hjna, hjd⟩ := hdst j _ hpj
              exact ⟨j, hcl' j ((F.reads i j t hina hjna (by omega) hjd htl').1 hjl), hpj⟩
            · rintro ⟨j, hjb, hpj⟩
              obtain ⟨hjna, hjd⟩ := hdst j _ hpj
              have hji : j ≠ i := fun e => by rw [e, h2] at hjb; cases hjb
              rcases Nat.lt_or_ge j i with hlt | hge
              · refine List.mem_of_getElem? (i := j) ?_
                rw [List.getElem?_take, if_pos hlt]
                exact hpj
              · have hm := (F.reads i j t hina hjna (fun e => hji e.symm) hjd htl').2 (by omega)
                have hb := clo_listed (ops := ops) (listed := fun j => listed.getD j false = true) (fun j hj j' hj' => by
                  have hjn : j < ops.size := by
                    rcases Nat.lt_or_ge j ops.size with h | h
                    · exact h
                    · rw [Array.getD_eq_getD_getElem?, Array.getElem?_eq_none (by omega)] at hj; cases hj
                  exact hcl j hjn hj j' hj') dep j (fun j' hj' => hcl j (by have := F.le; omega) hjb j' hj') i hm
                rw [h2] at hb
                cases hb
          have hall : (∀ p ∈ ps.take i, p.1 ≠ some t) ↔ (∀ p ∈ sel (fun i => listed.getD i false) ps, p.1 ≠ some t) := by
            constructor
            · intro hh p hp' he
              obtain ⟨p1, p2⟩ := p
              simp only at he
              subst he
              exact hh _ ((hmem p2).2 hp') rfl
            · intro hh p hp' he
              obtain ⟨p1, p2⟩ := p
              simp only at he
              subst he
              exact hh _ ((hmem p2).1 hp') rfl
          rw [hmem y, hall]
        · refine ih (listed.setIfInBounds i true) _ w' (c + 1) (by omega) (by simpa using hsz) ?_ ?_ ?_ ?_
          · rw [← hcnt]
            have h4 : ∀ n, i < n → ((List.range n).filter fun j => (listed.setIfInBounds i true).getD j false).length = ((List.range n).filter fun j => listed.getD j false).length + 1 := by
              intro n hn
              induction n with
              | zero => omega
              | succ n ihn =>
                rw [List.range_succ, List.filter_append, List.filter_append, List.length_append, List.length_append]
                rcases Nat.lt_or_ge i n with hlt | hge
                · rw [ihn hlt]
                  have : ([n].filter fun j => (listed.setIfInBounds i true).getD j false) = [n].filter fun j => listed.getD j false := by
                    apply List.filter_congr
                    intro j hj
                    have : j = n := by simpa using hj
                    rw [getD_setB listed (by omega), if_neg (by omega)]
                  rw [this]
                  omega
                · have hin : i = n := by omega
                  subst hin
                  have e1 : ((List.range i).filter fun j => (listed.setIfInBounds i true).getD j false) = (List.range i).filter fun j => listed.getD j false := by
                    apply List.filter_congr
                    intro j hj
                    have : j < i := by simpa using hj
                    rw [getD_setB listed (by omega), if_neg (by omega)]
                  have e2 : ([i].filter fun j => (listed.setIfInBounds i true).getD j false).length = 1 := by
                    have : (listed.setIfInBounds i true).getD i false = true := by rw [getD_setB listed (by omega), if_pos rfl]
                    simp only [List.filter_cons, this, if_true, List.filter_nil, List.length_cons, List.length_nil]
                  have e3 : ([i].filter fun j => listed.getD j false).length = 0 := by
                    simp only [List.filter_cons, h2, Bool.false_eq_true, if_false, List.filter_nil, List.length_nil]
                  rw [e1, e2, e3]
            exact h4 _ h1
          · intro j hj hb k hk
            rw [getD_setB listed (by omega)] at hb ⊢
            by_cases hki : k = i
            · rw [if_pos hki]
            · rw [if_neg hki]
              by_cases hji : j = i
              · subst hji; exact h3 k hk
              · rw [if_neg hji] at hb; exact hcl j hj hb k hk
          · intro j hj hjn
            rw [getD_setB listed (by omega), if_neg (by omega)]
            exact htl j hj hjn
          · refine ⟨m', ω, hC'.ext (by rw [puts_n, putO_n, puts_n]) (fun t => ?_) (by rw [puts_box, putO_box, puts_box]) (by rw [puts_row, putO_row, puts_row])⟩
            apply Option.ext
            intro y
            rw [look_puts _ _ (sel_apart hapart).apart]
            have hput : look ((puts s (sel (fun i => listed.getD i false) ps)).putO o.dst x).env t = if o.dst = some t then some x else look (puts s (sel (fun i => listed.getD i false) ps)).env t := by
              unfold St.putO
              cases hd : o.dst with
              | none => simp
              | some d => simp only [St.put, look, Option.some.injEq]
            rw [hput]
            have hmem : ∀ p, p ∈ sel (fun j => (listed.setIfInBounds i true).getD j false) ps ↔ p = (o.dst, x) ∨ p ∈ sel (fun j => listed.getD j false) ps := by
              intro p
              simp only [mem_sel]
              constructor
              · rintro ⟨j, hb, hj⟩
                rw [getD_setB listed (by omega)] at hb
                by_cases hji : j = i
                · subst hji
                  rw [hp] at hj
                  injection hj with hj
                  exact .inl hj.symm
                · rw [if_neg hji] at hb
                  exact .inr ⟨j, hb, hj⟩
              · rintro (rfl | ⟨j, hb, hj⟩)
                · exact ⟨i, by rw [getD_setB listed (by omega), if_pos rfl], hp⟩
                · refine ⟨j, ?_, hj⟩
                  rw [getD_setB listed (by omega)]
                  split
                  · rfl
                  · exact hb
            by_cases hd : o.dst = some t
            · rw [if_pos hd]
              have hno : ∀ p ∈ sel (fun j => listed.getD j false) ps, p.1 ≠ some t := by
                intro p hp' he
                obtain ⟨j, hb, hj⟩ := mem_sel.1 hp'
                have := hapart.apart i j _ _ t hp hj hd he
                subst this
                rw [h2] at hb
                cases hb
              simp only [hmem]
              constructor
              · rintro (h5 | ⟨h5, _⟩)
                · rcases h5 with h5 | h5
                  · injection h5 with _ h5; rw [h5]
                  · exact absurd rfl (hno _ h5)
                · exact absurd hd (h5 _ (.inl rfl))
              · intro h5
                injection h5 with h5
                exact .inl (.inl (by rw [hd, h5]))
            · rw [if_neg hd, look_puts _ _ (sel_apart hapart).apart]
              simp only [hmem]
              constructor
              · rintro (h5 | ⟨h5, h6⟩)
                · rcases h5 with h5 | h5
                  · injection h5 with h5 _; exact absurd h5.symm hd
                  · exact .inl h5
                · exact .inr ⟨fun p hp' => h5 p (.inr hp'), h6⟩
              · rintro (h5 | ⟨h5, h6⟩)
                · exact .inl (.inr h5)
                · refine .inr ⟨fun p hp' => ?_, h6⟩
                  rcases hp' with rfl | hp'
                  · exact hd
                  · exact h5 p hp'

theorem AWP.draw0 (hT : TabOk P T) (hm : P.follows .mixedOrders = true) {Q : Exit → St → Prop} {id : Nat} {ops : Array Oper} {l : List Oper} (na dep : Nat) (hl : ops.toList = l) (hchk : drawOk ops na dep = true)
    (h : VHead P T ops (l.take na) s fun s' => VOps P T ops (l.drop na) s' (Q .normal)) : AWP P w0 m0 F0 (.region id ops true) Q s := by
  intro a w hc
  have F := drawFacts hchk
  obtain ⟨ps, h1, h2, h3⟩ := VHead_chain _ _ h
  have hlen : ps.length = na := by
    rw [h1, ← hl, List.length_take, Array.length_toList]
    have := F.le
    omega
  obtain ⟨m, ω, hC⟩ := hc
  refine wp_region_any hm ?_
  have hg0 : ∀ i, (Array.replicate ops.size false).getD i false = false := fun i => by
    rw [Array.getD_eq_getD_getElem?, Array.getElem?_replicate]
    split <;> rfl
  refine draw_head hT F (K := Q .normal) (Q := PostQ P w0 m0 F0 Q) (s := s) (ps := ps) (fun s a w h1 h2 => ⟨s, h1, h2⟩) hlen (fun i hi => ?_) (by rw [hl]; exact h2) ops.size _ a _ 0 (by omega) (by simp) ?_ ?_ ?_ ?_
  · have hin : i < ops.size := by have := F.le; omega
    have ho : ops[i]? = some ops[i] := Array.getElem?_eq_getElem hin
    obtain ⟨x, h4, h5⟩ := h3 i ops[i] (by rw [← hl, List.getElem?_take, if_pos hi, Array.getElem?_toList]; exact ho)
    exact ⟨ops[i], x, ho, h4, h5⟩
  · rw [List.filter_eq_nil_iff.2 (fun i _ => by rw [hg0]; simp)]
    rfl
  · intro i _ hb
    rw [hg0] at hb
    cases hb
  · intro i _ _
    exact hg0 i
  · have : sel (fun i => (Array.replicate ops.size false).getD i false) ps = [] := by
      unfold sel
      simp only [hg0]
      simp
    rw [this]
    exact ⟨m, ω, hC.draw⟩
theorem AWP.draw (hT : TabOk P T) (hm : P.follows .mixedOrders = true) {Q : Exit → St → Prop} {id : Nat} {ops : Array Oper} {l l1 l2 : List Oper} (na dep : Nat) (hl : ops.toList = l) (hchk : drawOk ops na dep = true) (h1 : l.take na = l1) (h2 : l.drop na = l2)
    (h : ∀ K : St → Prop, (∀ s', Q .normal s' → K s') → VHead P T ops l1 s fun s' => VOps P T ops l2 s' K) : AWP P w0 m0 F0 (.region id ops true) Q s :=
  AWP.draw0 hT hm na dep hl hchk (by rw [h1, h2]; exact h _ fun _ h => h)
end
end Go.Bw

namespace Go.Bw
open Go.RowKit
section
variable {P : Program} {w0 : World} {m0 : Mem} {s s' : St} {a : Act} {w : World} {m : Mem} {ω : Wh} {F0 : Home} {T : TypeId → Option TI}

def resOf : List V → A
  | [y] => .v y
  | ys => .tup ys
def cellRV (s : St) (i : TI) : L → Option V
  | .fz ls => loadV i ls
  | .ptr id off => match look s.box id with | some ls => loadV i ((ls.drop off).map L.peek) | none => none
  | .eptr id k off => match look s.row id with | some r => if k < r.xs.length then loadV i ((overlay r.ov k 0 (r.xs.getD k [])).drop off) else none | none => none
  | _ => none
def resVals (T : TypeId → Option TI) (s : St) : List ResultVar → Option (List V)
  | [] => some []
  | .tmp t :: r => match vOf (look s.env t), resVals T s r with | some y, some q => some (y :: q) | _, _ => none
  | .cell x t :: r => match oneOf (look s.env x), T t, resVals T s r with
    | some l, some i, some q => (match cellRV s i l with | some y => some (y :: q) | none => none)
    | _, _, _ => none

theorem run_loadAt_cells {t : TypeId} {i : TI} (hT : tiOk P t i = true) {ad : Addr} {cs : List Value} {ls : List L} {y : V} (hl : cs.length = ls.length)
    (hc : ∀ (j : Nat) (v : Value), cs[j]? = some v → w.cell? (ad.add j) = some v) (hr : ∀ (j : Nat) (l : L), ls[j]? = some l → ∃ v, cs[j]? = some v ∧ ERep m ω v l) (hy : loadV i ls = some y) : ∃ v, (Instr.loadAt t (.pointer (some ad))).run P w = .ok v w ∧ VRep m ω v y := by
  obtain ⟨hsz, hv⟩ := loadV_some hy
  exact run_loadAt (P := P) (w := w) (m := m) (ω := ω) hT (ad := ad) (cs := cs.take i.size) (ls := ls.take i.size) (by simp [hl]) (by rw [List.length_take]; omega)
    (fun j v hv => hc j v (by rw [List.getElem?_take] at hv; split at hv; exact hv; cases hv))
    (fun j l hl => by
      rw [List.getElem?_take] at hl
      split at hl
      · rename_i hj
        obtain ⟨v, h6, h7⟩ := hr j l hl
        exact ⟨v, by rw [List.getElem?_take, if_pos hj]; exact h6, h7⟩
      · cases hl) hv
theorem cellRV_run {t : TypeId} {i : TI} {l : L} {v : Value} {y : V} (hT : tiOk P t i = true) (h : CI P w0 m0 F0 s a w m ω) (hv : ERep m ω v l) (hy : cellRV s i l = some y) : ∃ ad u, v = .pointer (some ad) ∧ (Instr.loadAt t (.pointer (some ad))).run P w = .ok u w ∧ VRep m ω u y := by
  cases l with
  | fz ls =>
    obtain ⟨ad, had, hf⟩ := Rep.frep hv
    obtain ⟨cs, h1, h2, h3⟩ := cells_of_frep h.ok hf
    obtain ⟨u, h4, h5⟩ := run_loadAt_cells (ω := ω) hT h1 h2 (fun j l hj => let ⟨v, h4, h5⟩ := h3 j l hj; ⟨v, h4, h5.erep⟩) hy
    exact ⟨ad, u, had, h4, h5⟩
  | ptr id off =>
    simp only [cellRV] at hy
    split at hy
    · rename_i ls hb
      obtain ⟨cs, h1, h2, h3⟩ := box_cells h hb off
      obtain ⟨u, h4, h5⟩ := run_loadAt_cells hT h1 h2 h3 hy
      exact ⟨_, u, hv, h4, h5⟩
    · cases hy
  | eptr id k off =>
    simp only [cellRV] at hy
    split at hy
    · rename_i r hb
      split at hy
      · rename_i hk
        obtain ⟨b, hblk, had⟩ := hv
        obtain ⟨b', hblk', hsz, cs, h1, h2, h3⟩ := row_cells h hb hk off
        rw [hblk] at hblk'
        injection hblk' with hbb
        subst hbb
        rw [hsz] at had
        obtain ⟨u, h4, h5⟩ := run_loadAt_cells hT h1 h2 h3 hy
        exact ⟨_, u, had, h4, h5⟩
      · cases hy
    · cases hy
  | _ => cases hy

theorem resVals_run (hT : TabOk P T) (hC : CI P w0 m0 F0 s a w m ω) : ∀ (l : List ResultVar) (ys : List V), resVals T s l = some ys →
    ∃ vs : List Value, (l.mapM fun (x : ResultVar) => (match x with
      | .tmp t => pure (a.tmps.getD t undef)
      | .cell x t => do loadVar t (← asAddr (a.tmps.getD x undef)) : Sem Value)).run P w = .ok vs w ∧ vs.length = ys.length ∧ ∀ (j : Nat) (y : V), ys[j]? = some y → ∃ v, vs[j]? = some v ∧ VRep m ω v y
  | [], ys, h => by simp only [resVals, Option.some.injEq] at h; subst h; exact ⟨[], by simp, rfl, fun j y hj => by simp at hj⟩
  | .tmp t :: r, ys, h => by
    simp only [resVals] at h
    split at h
    · rename_i y q hy hq
      simp only [Option.some.injEq] at h
      subst h
      obtain ⟨vs, h1, h2, h3⟩ := resVals_run hT hC r q hq
      have hv : VRep m ω (a.tmps.getD t undef) y := hC.env t _ (vOf_some hy)
      refine ⟨a.tmps.getD t undef :: vs, ?_, by simp [h2], fun j y' hj => ?_⟩
      · simp only [List.mapM_cons, Sem.run_bind, Sem.run_pure, Result.andThen_ok, h1]
      · cases j with
        | zero => simp only [List.getElem?_cons_zero, Option.some.injEq] at hj; subst hj; exact ⟨_, rfl, hv⟩
        | succ j => exact h3 j y' (by simpa using hj)
    · cases h
  | .cell x t :: r, ys, h => by
    simp only [resVals] at h
    split at h
    · rename_i l i q hx hi hq
      split at h
      · rename_i y hy
        simp only [Option.some.injEq] at h
        subst h
        have hv : ERep m ω (a.tmps.getD x undef) l := hC.env x _ (oneOf_some hx)
        obtain ⟨ad, u, had, hld, hvu⟩ := cellRV_run (hT _ _ hi) hC hv hy
        obtain ⟨vs, h1, h2, h3⟩ := resVals_run hT hC r q hq
        have hld' : (loadVar t ad).run P w = .ok u w := by
          simpa only [Instr.loadAt, Instr.sureAddr, Sem.run_bind, Sem.run_pure, Result.andThen_ok] using hld
        refine ⟨u :: vs, ?_, by simp [h2], fun j y' hj => ?_⟩
        · have has : (asAddr (a.tmps.getD x undef)).run P w = .ok ad w := by rw [had]; rfl
          simp only [List.mapM_cons, Sem.run_bind, has, Sem.run_pure, Result.andThen_ok, hld', h1]
        · cases j with
          | zero => simp only [List.getElem?_cons_zero, Option.some.injEq] at hj; subst hj; exact ⟨_, rfl, hvu⟩
          | succ j => exact h3 j y' (by simpa using hj)
      · cases h
    · cases h

theorem results_run (hT : TabOk P T) (hC : CI P w0 m0 F0 s a w m ω) {fn : Func} {ys : List V} (hr : resVals T s fn.results.toList = some ys) :
    ∃ v, (results fn a.tmps).run P w = .ok v w ∧ ARep m ω v (resOf ys) := by
  obtain ⟨vs, h1, h2, h3⟩ := resVals_run hT hC fn.results.toList ys hr
  have hrun : (results fn a.tmps).run P w = .ok (if h : vs.toArray.size = 1 then vs.toArray[0] else .tuple vs.toArray) w := by
    unfold results
    rw [Array.mapM_eq_mapM_toList]
    simp only [Sem.run_bind, Sem.run_map]
    erw [h1]
    simp only [Result.andThen_ok, Sem.run_pure]
  refine ⟨_, hrun, ?_⟩
  match ys, vs, h2, h3 with
  | [], [], _, _ => exact ⟨#[], rfl, rfl, fun j x hj => by simp at hj⟩
  | [y], [v], _, h3 =>
    obtain ⟨u, hu, hv⟩ := h3 0 y rfl
    simp only [List.getElem?_cons_zero, Option.some.injEq] at hu
    subst hu
    exact hv
  | y :: y2 :: rest, v :: v2 :: vs, h2, h3 =>
    have hne : ¬ ((v :: v2 :: vs).toArray.size = 1) := by simp
    rw [dif_neg hne]
    exact ⟨_, rfl, by simpa using h2, fun j x hj => let ⟨u, h4, h5⟩ := h3 j x hj; ⟨u, by simpa using h4, h5⟩⟩
  | [], _ :: _, h2, _ => simp at h2
  | _ :: _, [], h2, _ => simp at h2
  | [_], _ :: _ :: _, h2, _ => simp at h2
  | _ :: _ :: _, [_], h2, _ => simp at h2

def envOf : Nat → List V → List (Nat × A)
  | _, [] => []
  | k, x :: xs => (k, .v x) :: envOf (k + 1) xs
theorem look_envOf : ∀ (xs : List V) (k t : Nat) (x : A), look (envOf k xs) t = some x → k ≤ t ∧ ∃ y, xs[t - k]? = some y ∧ x = .v y
  | [], k, t, x, h => by simp [envOf, look] at h
  | y :: xs, k, t, x, h => by
    simp only [envOf, look] at h
    split at h
    · rename_i hk
      injection h with h
      subst hk
      exact ⟨Nat.le_refl _, y, by simp, h.symm⟩
    · rename_i hk
      obtain ⟨h1, z, h2, h3⟩ := look_envOf xs (k + 1) t x h
      refine ⟨by omega, z, ?_, h3⟩
      have : t - k = (t - (k + 1)) + 1 := by omega
      rw [this, List.getElem?_cons_succ]
      exact h2

def allIn {α : Type} (e : List (Nat × α)) : List (Nat × α) → Prop
  | [] => True
  | (t, x) :: r => look e t = some x ∧ allIn e r
theorem allIn_look {α : Type} {e : List (Nat × α)} : ∀ {r : List (Nat × α)}, allIn e r → ∀ t x, look r t = some x → look e t = some x
  | [], _, t, x, h => by cases h
  | (t', y) :: r, ⟨h1, h2⟩, t, x, h => by
    simp only [look] at h
    split at h
    · rename_i ht; injection h with h; subst h; subst ht; exact h1
    · exact allIn_look h2 t x h
theorem St.le_mk {n : Nat} {e e' : List (Nat × A)} {b b' : List (Nat × List L)} {k k' : List (Nat × RowC)} (he : allIn e e') (hb : allIn b b') (hk : allIn k k') : St.le ⟨n, e', b', k'⟩ ⟨n, e, b, k⟩ :=
  ⟨rfl, allIn_look he, allIn_look hb, allIn_look hk⟩
theorem allIn_nil {α : Type} (e : List (Nat × α)) : allIn e [] = True := rfl
theorem allIn_cons {α : Type} (e : List (Nat × α)) (t : Nat) (x : α) (r : List (Nat × α)) : allIn e ((t, x) :: r) = (look e t = some x ∧ allIn e r) := rfl

def retQ (T : TypeId → Option TI) (fn : Func) (kb kr : List Nat) (r : A) (bx' : Boxes) (rw' : Rows) : Exit → St → Prop
  | .normal, s | .ret, s => mO (resVals T s fn.results.toList) fun ys => (resOf (ys.map fun y => (y.map (topL kb kr (s.rest kb kr))).map L.norm) = r) ∧ allIn (s.freeze kb kr).box bx' ∧ allIn (s.freeze kb kr).row rw'
  | _, _ => False

theorem resOf_map (g : V → V) (ys : List V) : resOf (ys.map g) = (match resOf ys with | .v y => .v (g y) | .tup q => .tup (q.map g)) := by
  match ys with
  | [] => rfl
  | [y] => rfl
  | y :: z :: r => rfl

theorem satM_of_body (hT : TabOk P T) {f : FuncId} {fn : Func} {c : Code} {xs : List V} {bx bx' : Boxes} {rw rw' : Rows} {r : A} (kb kr : List Nat) (hf : P.funcs[f]? = some fn) (hb : fn.body = some c) (hn : (fn.name == "runtime.NumGoroutine") = false) (hx : xs.length ≤ fn.ntmps ∧ fn.ntmps ≤ 1000)
    (h : ∀ w0 m0 F0, AWP P w0 m0 F0 c (retQ T fn kb kr r bx' rw') { n := fn.ntmps, env := envOf 0 xs, box := bx, row := rw }) : SatM P f xs bx rw r bx' rw' := by
  refine ⟨fun m w vs ω hC hA => ?_⟩
  refine .inr ⟨?_, ?_⟩
  · simp only [callFunc, Sem.run_bind, program, Sem.run, Result.andThen_ok, hf]
    rw [hn, hb]
    simp
  · refine calls_of_wp hf hb ?_
    have hCC : Conc P w m (handed bx rw ω) { n := fn.ntmps, env := envOf 0 xs, box := bx, row := rw } { tmps := vs.toArray ++ Array.replicate (fn.ntmps - vs.toArray.size) undef, defers := [] } w := by
      refine ⟨m, ω, { size := ?_, defers := rfl, keeps := hC.keeps, mle := hC.mle, mold := hC.mold, ok := hC.ok, env := fun t x ht => ?_, box := hC.box, row := hC.row, fresh := fun κ id hl => hC.fresh κ id (by cases κ <;> exact hl), apart := fun κ id κ' id' hl hl' => hC.apart κ id κ' id' (by cases κ <;> exact hl) (by cases κ' <;> exact hl'), home := ⟨fun id hid => ?_, hC.home.box, hC.home.row⟩, good := hC.good }⟩
      · simp [hA.1]
        omega
      · obtain ⟨_, y, h2, rfl⟩ := look_envOf xs 0 t x ht
        simp only [Nat.sub_zero] at h2
        obtain ⟨v, h3, h4⟩ := hA.2 t y h2
        have : (vs.toArray ++ Array.replicate (fn.ntmps - vs.toArray.size) undef).getD t undef = v := by
          rw [Array.getD_eq_getD_getElem?, Array.getElem?_append_left (by simpa using (List.getElem?_eq_some_iff.1 h3).1)]
          simp [h3]
        rw [this]
        exact h4
      · have := hC.home.big id hid
        exact ⟨by show fn.ntmps ≤ id; omega, this.2⟩
    refine wp_mono (h w m _ _ _ hCC) fun e a' w' he => ?_
    obtain ⟨s', hq, m', ω', hC'⟩ := he
    have fin : (mO (resVals T s' fn.results.toList) fun ys => (resOf (ys.map fun y => (y.map (topL kb kr (s'.rest kb kr))).map L.norm) = r) ∧ allIn (s'.freeze kb kr).box bx' ∧ allIn (s'.freeze kb kr).row rw') → a'.defers = [] ∧ ∃ v, (results fn a'.tmps).run P w' = .ok v w' ∧ ∃ v', Ending.returned v = .returned v' ∧ Post P w m ω bx rw r bx' rw' v' w' := by
      intro hq
      obtain ⟨ys, h1, h2, h3, h4⟩ := mO_elim hq
      obtain ⟨v, h5, h6⟩ := results_run hT hC' h1
      obtain ⟨m'', hF, hle, hg⟩ := hC'.freeze kb kr
      have h7 : ARep m'' ω' v r := by
        rw [← h2]
        have := (h6.map hg).map (g := L.norm) (fun v l hl => norm_e (m := m'') (ω := ω') hl)
        have e : ((resOf ys).map (topL kb kr (s'.rest kb kr))).map L.norm = resOf (ys.map fun y => (y.map (topL kb kr (s'.rest kb kr))).map L.norm) := by
          rw [resOf_map]
          cases resOf ys with
          | v y => rfl
          | tup q => simp [A.map]
        rw [e] at this
        exact this
      have h8 : CI P w m (handed bx rw ω) (roots bx' rw') a0 w' m'' ω' := by
        have hw := hF.weaken (s' := { s'.freeze kb kr with env := [], box := bx', row := rw' }) rfl (fun t x hx => by cases hx) (allIn_look h3) (allIn_look h4)
        exact { size := rfl, defers := rfl, keeps := hw.keeps, mle := hw.mle, mold := hw.mold, ok := hw.ok, env := (fun t x hx => by cases hx), box := hw.box, row := hw.row, fresh := fun κ id hl => hw.fresh κ id (by cases κ <;> exact hl), apart := fun κ id κ' id' hl hl' => hw.apart κ id κ' id' (by cases κ <;> exact hl) (by cases κ' <;> exact hl'), home := ⟨fun id hid => ⟨Nat.zero_le _, (hw.home.big id hid).2⟩, hw.home.box, hw.home.row⟩, good := hw.good }
      exact ⟨hC'.defers, v, h5, v, rfl, m'', ω', h8, h7⟩
    cases e with
    | normal => exact fin hq
    | ret => exact fin hq
    | _ => cases hq
theorem sat_of_body (hT : TabOk P T) {f : FuncId} {fn : Func} {c : Code} {xs : List V} {r : A} (hf : P.funcs[f]? = some fn) (hb : fn.body = some c) (hn : (fn.name == "runtime.NumGoroutine") = false) (hx : xs.length ≤ fn.ntmps ∧ fn.ntmps ≤ 1000)
    (h : ∀ w0 m0 F0, AWP P w0 m0 F0 c (retQ T fn [] [] r [] []) { n := fn.ntmps, env := envOf 0 xs, box := [], row := [] }) : Sat P f xs r :=
  satM_of_body hT [] [] hf hb hn hx h
end
theorem SatM.frz {P : Program} {f : FuncId} {xs : List V} {r r' : A} {bx' : Boxes} {rw' : Rows} (h : SatM P f xs [] [] r bx' rw') (e : r.map (topL [] [] ((roots bx' rw').rest [] [])) = r') : Sat P f xs r' := by
  refine ⟨fun m w vs ω hC hA => ?_⟩
  refine (h.call m w vs ω hC hA).mono fun v w' hp => ?_
  obtain ⟨m', ω', hC', hv⟩ := hp
  obtain ⟨m'', hF, hle, hg⟩ := hC'.freeze [] []
  refine ⟨m'', ω', ?_, e ▸ hv.map hg⟩
  have hw := hF.weaken (s' := roots [] []) rfl (fun t x hx => by cases hx) (fun t x hx => by cases hx) (fun t x hx => by cases hx)
  exact hw
end Go.Bw

namespace Go.Bw
theorem look_nil {α : Type} (i : Nat) : look ([] : List (Nat × α)) i = none := rfl
theorem look_cons {α : Type} (t : Nat) (x : α) (e : List (Nat × α)) (i : Nat) : look ((t, x) :: e) i = if t = i then some x else look e i := rfl
theorem del_nil {α : Type} (i : Nat) : Bw.del i ([] : List (Nat × α)) = [] := rfl
theorem del_cons {α : Type} (i t : Nat) (x : α) (e : List (Nat × α)) : Bw.del i ((t, x) :: e) = if t = i then Bw.del i e else (t, x) :: Bw.del i e := rfl
theorem put_mk (n : Nat) (e : List (Nat × A)) (b : Boxes) (k : Rows) (d : Nat) (x : A) : St.put ⟨n, e, b, k⟩ d x = ⟨n, (d, x) :: e, b, k⟩ := rfl
theorem putO_some (s : St) (d : Nat) (x : A) : s.putO (some d) x = s.put d x := rfl
theorem putO_none (s : St) (x : A) : s.putO none x = s := rfl
theorem okD_some (s : St) (d : Nat) : s.okD (some d) = (d < s.n) := rfl
theorem okD_none (s : St) : s.okD none = True := rfl
theorem pk_some (s : St) (d : Nat) (K : St → Prop) (y : A) : pk s (some d) K y = (d < s.n ∧ K (s.put d y)) := rfl
theorem pk_none (s : St) (K : St → Prop) (y : A) : pk s none K y = K s := rfl
theorem noBox_mk (n : Nat) (e : List (Nat × A)) (b : Boxes) (k : Rows) (id : Nat) : St.noBox ⟨n, e, b, k⟩ id = ⟨n, e.map fun p => (p.1, p.2.map (L.noPtr id)), (Bw.del id b).map fun p => (p.1, p.2.map (L.noPtr id)), k.map fun p => (p.1, p.2.map (L.noPtr id))⟩ := rfl
theorem noRow_mk (n : Nat) (e : List (Nat × A)) (b : Boxes) (k : Rows) (id : Nat) : St.noRow ⟨n, e, b, k⟩ id = ⟨n, e.map fun p => (p.1, p.2.map (L.noRow id)), b.map fun p => (p.1, p.2.map (L.noRow id)), (Bw.del id k).map fun p => (p.1, p.2.map (L.noRow id))⟩ := rfl
theorem newBox_eq (s : St) (d : Nat) (ls : List L) : s.newBox d ls = ({ s.noBox d with box := (d, ls.map (L.noPtr d)) :: (s.noBox d).box }).put d (.v (.one (.ptr d 0))) := rfl
theorem newRow0_eq (s : St) (src : Option Nat) (d : Nat) (r : RowC) : s.newRow0 src d r = { (s.killRow src).noRow d with row := (d, (r.kill src).map (L.noRow d)) :: ((s.killRow src).noRow d).row } := rfl
theorem rowMap_mk (g : L → L) (sz : Nat) (xs : List (List L)) (ov : List (Nat × Nat × L)) : RowC.map g ⟨sz, xs, ov⟩ = ⟨sz, xs, ov.map fun p => (p.1, p.2.1, g p.2.2)⟩ := rfl
theorem topL_int (kb kr : List Nat) (s : St) (k : IntKind) (n : Int) : topL kb kr s (.int k n) = .int k n := rfl
theorem topL_bool (kb kr : List Nat) (s : St) (b : Bool) : topL kb kr s (.bool b) = .bool b := rfl
theorem topL_str (kb kr : List Nat) (s : St) (b : ByteArray) : topL kb kr s (.str b) = .str b := rfl
theorem topL_sl (kb kr : List Nat) (s : St) (sz : Nat) (xs : List (List L)) : topL kb kr s (.sl sz xs) = .sl sz xs := rfl
theorem topL_nil (kb kr : List Nat) (s : St) (sz : Nat) : topL kb kr s (.nil sz) = .nil sz := rfl
theorem topL_own (kb kr : List Nat) (s : St) (sz : Nat) (xs : List (List L)) : topL kb kr s (.own sz xs) = .own sz xs := rfl
theorem topL_fz (kb kr : List Nat) (s : St) (ls : List L) : topL kb kr s (.fz ls) = .fz ls := rfl
theorem topL_any (kb kr : List Nat) (s : St) : topL kb kr s .any = .any := rfl
theorem topL_ref (kb kr : List Nat) (s : St) (id lo n : Nat) : topL kb kr s (.ref id lo n) = if kr.elem id then .ref id lo n else frzV 4 s (.ref id lo n) := rfl
theorem topL_ptr (kb kr : List Nat) (s : St) (id o : Nat) : topL kb kr s (.ptr id o) = if kb.elem id then .ptr id o else frzV 4 s (.ptr id o) := rfl
theorem topL_eptr (kb kr : List Nat) (s : St) (id i o : Nat) : topL kb kr s (.eptr id i o) = if kr.elem id then .eptr id i o else frzV 4 s (.eptr id i o) := rfl
theorem frzV_int (n : Nat) (s : St) (k : IntKind) (q : Int) : frzV (n + 1) s (.int k q) = .int k q := rfl
theorem frzV_bool (n : Nat) (s : St) (b : Bool) : frzV (n + 1) s (.bool b) = .bool b := rfl
theorem frzV_str (n : Nat) (s : St) (b : ByteArray) : frzV (n + 1) s (.str b) = .str b := rfl
theorem frzV_sl (n : Nat) (s : St) (sz : Nat) (xs : List (List L)) : frzV (n + 1) s (.sl sz xs) = .sl sz xs := rfl
theorem frzV_nil (n : Nat) (s : St) (sz : Nat) : frzV (n + 1) s (.nil sz) = .nil sz := rfl
theorem frzV_fz (n : Nat) (s : St) (ls : List L) : frzV (n + 1) s (.fz ls) = .fz ls := rfl
theorem frzV_any (n : Nat) (s : St) : frzV (n + 1) s .any = .any := rfl
theorem frzV_own (n : Nat) (s : St) (sz : Nat) (xs : List (List L)) : frzV (n + 1) s (.own sz xs) = .sl sz (xs.map fun x => x.map (L.frzN 3)) := rfl
theorem frzV_clo (n : Nat) (s : St) (f : FuncId) (caps : List L) : frzV (n + 1) s (.clo f caps) = .clo f (caps.map (frzV n s)) := rfl
theorem frzV_ref (n : Nat) (s : St) (id lo k : Nat) : frzV (n + 1) s (.ref id lo k) = match look s.row id with
    | some r => if lo + k ≤ r.xs.length then .sl r.sz (((frzRow (frzV n s) r).drop lo).take k) else .any
    | none => .any := rfl
theorem frzV_eptr (n : Nat) (s : St) (id i o : Nat) : frzV (n + 1) s (.eptr id i o) = match look s.row id with
    | some r => if i < r.xs.length then .fz (((frzRow (frzV n s) r).getD i []).drop o) else .any
    | none => .any := rfl
theorem frzV_ptr (n : Nat) (s : St) (id o : Nat) : frzV (n + 1) s (.ptr id o) = match look s.box id with
    | some ls => .fz ((ls.map (frzV n s)).drop o)
    | none => .any := rfl
theorem frzRow_nil (fr : L → L) (sz : Nat) (xs : List (List L)) : frzRow fr ⟨sz, xs, []⟩ = xs.map fun x => x.map (L.frzN 4) := rfl
def frzO (fr : L → L) (l : L) : Option L → L
  | some l' => fr l'
  | none => l.frzN 4
theorem frzO_some (fr : L → L) (l l' : L) : frzO fr l (some l') = fr l' := rfl
theorem frzO_none (fr : L → L) (l : L) : frzO fr l none = l.frzN 4 := rfl
def frzCs (fr : L → L) (ov : List (Nat × Nat × L)) (i : Nat) : Nat → List L → List L
  | _, [] => []
  | j, l :: r => frzO fr l (ovGet ov i j) :: frzCs fr ov i (j + 1) r
def frzRs (fr : L → L) (ov : List (Nat × Nat × L)) : Nat → List (List L) → List (List L)
  | _, [] => []
  | i, x :: r => frzCs fr ov i 0 x :: frzRs fr ov (i + 1) r
theorem frzCs_nil (fr : L → L) (ov : List (Nat × Nat × L)) (i j : Nat) : frzCs fr ov i j [] = [] := rfl
theorem frzCs_cons (fr : L → L) (ov : List (Nat × Nat × L)) (i j : Nat) (l : L) (r : List L) : frzCs fr ov i j (l :: r) = frzO fr l (ovGet ov i j) :: frzCs fr ov i (j + 1) r := rfl
theorem frzRs_nil (fr : L → L) (ov : List (Nat × Nat × L)) (i : Nat) : frzRs fr ov i [] = [] := rfl
theorem frzRs_cons (fr : L → L) (ov : List (Nat × Nat × L)) (i : Nat) (x : List L) (r : List (List L)) : frzRs fr ov i (x :: r) = frzCs fr ov i 0 x :: frzRs fr ov (i + 1) r := rfl
theorem frzCs_eq (fr : L → L) (ov : List (Nat × Nat × L)) (i : Nat) : ∀ (x : List L) (j : Nat), ((x.zipIdx j).map fun q => match ovGet ov i q.2 with | some l => fr l | none => q.1.frzN 4) = frzCs fr ov i j x
  | [], _ => rfl
  | l :: r, j => by
    simp only [List.zipIdx_cons, List.map_cons, frzCs]
    rw [frzCs_eq fr ov i r (j + 1)]
    congr 1
theorem frzRs_eq (fr : L → L) (ov : List (Nat × Nat × L)) : ∀ (xs : List (List L)) (i : Nat), ((xs.zipIdx i).map fun p => p.1.zipIdx.map fun q => match ovGet ov p.2 q.2 with | some l => fr l | none => q.1.frzN 4) = frzRs fr ov i xs
  | [], _ => rfl
  | x :: r, i => by
    simp only [List.zipIdx_cons, List.map_cons, frzRs]
    rw [frzRs_eq fr ov r (i + 1), frzCs_eq]
theorem frzRow_ov (fr : L → L) (sz : Nat) (xs : List (List L)) (p : Nat × Nat × L) (ov : List (Nat × Nat × L)) : frzRow fr ⟨sz, xs, p :: ov⟩ = frzRs fr (p :: ov) 0 xs := frzRs_eq fr (p :: ov) xs 0
theorem frzN_int (n : Nat) (k : IntKind) (q : Int) : L.frzN (n + 1) (.int k q) = .int k q := rfl
theorem frzN_bool (n : Nat) (b : Bool) : L.frzN (n + 1) (.bool b) = .bool b := rfl
theorem frzN_str (n : Nat) (b : ByteArray) : L.frzN (n + 1) (.str b) = .str b := rfl
theorem frzN_sl (n : Nat) (sz : Nat) (xs : List (List L)) : L.frzN (n + 1) (.sl sz xs) = .sl sz xs := rfl
theorem frzN_nil (n : Nat) (sz : Nat) : L.frzN (n + 1) (.nil sz) = .nil sz := rfl
theorem frzN_any (n : Nat) : L.frzN (n + 1) .any = .any := rfl
theorem frzN_own (n : Nat) (sz : Nat) (xs : List (List L)) : L.frzN (n + 1) (.own sz xs) = .sl sz (xs.map fun x => x.map (L.frzN n)) := rfl
theorem keepL_nil {α : Type} (e : List (Nat × α)) : keepL [] e = [] := by unfold keepL; simp
theorem keepL_nil' {α : Type} (k : List Nat) : keepL k ([] : List (Nat × α)) = [] := rfl
theorem keepL_cons {α : Type} (k : List Nat) (t : Nat) (x : α) (e : List (Nat × α)) : keepL k ((t, x) :: e) = if k.elem t then (t, x) :: keepL k e else keepL k e := by
  simp only [keepL, List.filter_cons]
theorem dropL_nil {α : Type} (e : List (Nat × α)) : dropL [] e = e := by unfold dropL; simp
theorem dropL_nil' {α : Type} (k : List Nat) : dropL k ([] : List (Nat × α)) = [] := rfl
theorem dropL_cons {α : Type} (k : List Nat) (t : Nat) (x : α) (e : List (Nat × α)) : dropL k ((t, x) :: e) = if k.elem t then dropL k e else (t, x) :: dropL k e := by
  simp only [dropL, List.filter_cons]
  cases k.elem t <;> rfl
theorem overlay_nil (i k : Nat) (l : L) (r : List L) : overlay [] i k (l :: r) = l.peek :: overlay [] i (k + 1) r := rfl
theorem overlay_nil' (ov : List (Nat × Nat × L)) (i k : Nat) : overlay ov i k [] = [] := rfl
theorem clos_int (k : IntKind) (q : Int) : L.clos (.int k q) = .int k q := rfl
theorem clos_bool (b : Bool) : L.clos (.bool b) = .bool b := rfl
theorem clos_str (b : ByteArray) : L.clos (.str b) = .str b := rfl
theorem clos_sl (sz : Nat) (xs : List (List L)) : L.clos (.sl sz xs) = .sl sz xs := rfl
theorem clos_nil (sz : Nat) : L.clos (.nil sz) = .sl sz [] := rfl
theorem clos_any : L.clos .any = .any := rfl
theorem clos_fz (ls : List L) : L.clos (.fz ls) = .fz ls := rfl

theorem noOwn_nil : noOwn [] = True := by simp [noOwn]
theorem noOwn_cons (x : List L) (r : List (List L)) : noOwn (x :: r) = ((x.all fun l => !l.isOwn) = true ∧ noOwn r) := by
  simp [noOwn]
theorem noOwn_append (x y : List (List L)) : noOwn (x ++ y) = (noOwn x ∧ noOwn y) := by
  simp only [noOwn, List.mem_append, eq_iff_iff]
  exact ⟨fun h => ⟨fun z hz => h z (.inl hz), fun z hz => h z (.inr hz)⟩, fun h z hz => hz.elim (h.1 z) (h.2 z)⟩
theorem noOwn_map {α : Type} {e : α → List L} (h : ∀ x, (e x).all (fun l => !l.isOwn) = true) (l : List α) : noOwn (l.map e) = True := by
  simp only [noOwn, eq_iff_iff, iff_true]
  intro x hx y hy
  obtain ⟨z, _, rfl⟩ := List.mem_map.1 hx
  simpa using List.all_eq_true.1 (h z) y hy
theorem qB {R : St → Prop} {Q : Exit → St → Prop} {s : St} (h : R s) : thenQ R Q .normal s := h
theorem qF {R : St → Prop} {Q : Exit → St → Prop} {s : St} (h : Q .ret s) : thenQ R Q .ret s := h
theorem qN {R : St → Prop} {Q : Exit → St → Prop} {s : St} {id : Nat} (h : Q (.exit id) s) : thenQ R Q (.exit id) s := h
theorem qO {id : Nat} {Q : Exit → St → Prop} {s : St} (h : Q .normal s) : blockQ id Q .normal s := h
theorem qL {id : Nat} {Q : Exit → St → Prop} {s : St} (h : Q .ret s) : blockQ id Q .ret s := h
theorem qQ {id : Nat} {Q : Exit → St → Prop} {s : St} (h : Q .normal s) : blockQ id Q (.exit id) s := by simpa [blockQ] using h
theorem qR {id id' : Nat} {Q : Exit → St → Prop} {s : St} (hne : (id' == id) = false) (h : Q (.exit id') s) : blockQ id Q (.exit id') s := by
  have : id' ≠ id := by simpa using hne
  simpa [blockQ, this] using h
theorem AWP.cut {P : Program} {w0 : World} {m0 : Mem} {F0 : Home} {x z : Code} {Q Q3 : Exit → St → Prop} {s : St} (s1 : St) (h1 : AWP P w0 m0 F0 x (thenQ (fun s' => St.le s1 s') Q) s) (h2 : AWP P w0 m0 F0 z Q3 s1) : AWP P w0 m0 F0 x (thenQ (AWP P w0 m0 F0 z Q3) Q) s :=
  h1.mono fun e s' he => by
    cases e with
    | normal => exact AWP.weak he h2
    | _ => exact he
theorem getD_map_lt {α : Type} (f : α → List L) (xs : List α) (k : Nat) (h : k < xs.length) : (xs.map f).getD k [] = f xs[k] := by
  simp [List.getD, h]
theorem wrap_nat (k : Nat) (h : k < 9223372036854775807) : IntKind.i64.wrap ((k : Int) + 1) = ((k + 1 : Nat) : Int) := by
  rw [IntWalk.i64_in _ ⟨by omega, by omega⟩]; rfl
theorem wrap_in (n : Int) (h : -9223372036854775808 ≤ n ∧ n ≤ 9223372036854775807) : IntKind.i64.wrap n = n := IntWalk.i64_in n h
class MTag {α : Type} (k : α → Prop) : Type where
instance {α : Type} (k : α → Prop) : MTag k := ⟨⟩
def mT {α : Type} (x : Option α) (k : α → Prop) [MTag k] : Prop := mO x k
theorem mT_some {α : Type} {k : α → Prop} [MTag k] (y : α) : mT (some y) k = k y := rfl

section
variable (P : Program) (T : TypeId → Option TI) (ops : Array Oper) (l : List Oper) (s : St) (K : St → Prop) (KA : A → Prop) (d : Option Tmp) (n : Tmp) (ty t t' : TypeId) (pos : String) (af : Array Edge) (x y z c : Operand) (op : Op) (g : Option (Nat × Bool))

theorem VOps_nil : VOps P T ops [] s K = K s := rfl
theorem VOps_cons : VOps P T ops (⟨d, op, ty, pos, af, none⟩ :: l) s K = VOp P T ⟨d, op, ty, pos, af, none⟩ s (fun s' => VOps P T ops l s' K) := rfl
theorem VHead_nil : VHead P T ops [] s K = K s := rfl
theorem VHead_cons : VHead P T ops (⟨d, op, ty, pos, af, none⟩ :: l) s K = VVal P T ⟨d, op, ty, pos, af, none⟩ s (pk s d fun s' => VHead P T ops l s' K) := rfl

def gSlot (ops : Array Oper) (j : Nat) : Option Tmp := (ops[j]?).bind (·.dst)
def gOf : Option A → Option (Option Bool) | some (.v (.one (.bool b))) => some (some b) | some (.tup []) => some none | _ => none
def guardB (ops : Array Oper) (s : St) (j : Nat) : Option (Option Bool) := match gSlot ops j with | some t => gOf (look s.env t) | none => none
theorem int_bne (x y : Int) : (x != y) = !(x == y) := rfl
def GOn (P : Program) (T : TypeId → Option TI) (ops : Array Oper) (want : Bool) (d : Option Tmp) (op : Op) (ty : TypeId) (pos : String) (af : Array Edge) (l : List Oper) (s : St) (K : St → Prop) (b : Option Bool) : Prop :=
  match (match b with | some b => b == want | none => false) with
  | true => VOps P T ops (⟨d, op, ty, pos, af, none⟩ :: l) s K
  | false => pk s d (fun s' => VOps P T ops l s' K) (.tup [])
theorem GOn_tt : GOn P T ops true d op ty pos af l s K (some true) = VOps P T ops (⟨d, op, ty, pos, af, none⟩ :: l) s K := rfl
theorem GOn_ff : GOn P T ops false d op ty pos af l s K (some false) = VOps P T ops (⟨d, op, ty, pos, af, none⟩ :: l) s K := rfl
theorem GOn_tf : GOn P T ops true d op ty pos af l s K (some false) = pk s d (fun s' => VOps P T ops l s' K) (.tup []) := rfl
theorem GOn_ft : GOn P T ops false d op ty pos af l s K (some true) = pk s d (fun s' => VOps P T ops l s' K) (.tup []) := rfl
theorem GOn_none (want : Bool) : GOn P T ops want d op ty pos af l s K none = pk s d (fun s' => VOps P T ops l s' K) (.tup []) := rfl
theorem GOn_not (want b : Bool) : GOn P T ops want d op ty pos af l s K (some (!b)) = GOn P T ops (!want) d op ty pos af l s K (some b) := by cases b <;> cases want <;> rfl
theorem qS {P : Program} {T : TypeId → Option TI} {ops : Array Oper} {want : Bool} {d : Option Tmp} {op : Op} {ty : TypeId} {pos : String} {af : Array Edge} {l : List Oper} {s : St} {K : St → Prop} {b : Bool} (h1 : b = true → GOn P T ops want d op ty pos af l s K (some true)) (h2 : b = false → GOn P T ops want d op ty pos af l s K (some false)) : GOn P T ops want d op ty pos af l s K (some b) := by cases b; exact h2 rfl; exact h1 rfl
theorem VOps_guard (j : Nat) (want : Bool) : VOps P T ops (⟨d, op, ty, pos, af, some (j, want)⟩ :: l) s K =
    mT (guardB ops s j) (GOn P T ops want d op ty pos af l s K) := by
  have : guardOf ops s ⟨d, op, ty, pos, af, some (j, want)⟩ = (guardB ops s j).map (fun b => match b with | some b => b == want | none => false) := by
    simp only [guardOf, guardB, gSlot]
    cases hb : (ops[j]?).bind (·.dst) with
    | none => rfl
    | some t =>
      simp only
      cases look s.env t with
      | none => rfl
      | some a => cases a with
        | v y => cases y with
          | one l => cases l <;> rfl
          | _ => rfl
        | tup xs => cases xs <;> rfl
  show (match guardOf ops s ⟨d, op, ty, pos, af, some (j, want)⟩ with
    | some true => VOp P T ⟨d, op, ty, pos, af, some (j, want)⟩ s fun s' => VOps P T ops l s' K | some false => pk s d (fun s' => VOps P T ops l s' K) (.tup []) | none => False) = _
  rw [this]
  cases guardB ops s j with
  | none => rfl
  | some b => simp only [Option.map_some, mT_some, GOn]; cases (match b with | some b => b == want | none => false) <;> rfl
def HOn (P : Program) (T : TypeId → Option TI) (ops : Array Oper) (want : Bool) (d : Option Tmp) (op : Op) (ty : TypeId) (pos : String) (af : Array Edge) (l : List Oper) (s : St) (K : St → Prop) (b : Option Bool) : Prop :=
  match (match b with | some b => b == want | none => false) with
  | true => VHead P T ops (⟨d, op, ty, pos, af, none⟩ :: l) s K
  | false => pk s d (fun s' => VHead P T ops l s' K) (.tup [])
theorem HOn_tt : HOn P T ops true d op ty pos af l s K (some true) = VHead P T ops (⟨d, op, ty, pos, af, none⟩ :: l) s K := rfl
theorem HOn_ff : HOn P T ops false d op ty pos af l s K (some false) = VHead P T ops (⟨d, op, ty, pos, af, none⟩ :: l) s K := rfl
theorem HOn_tf : HOn P T ops true d op ty pos af l s K (some false) = pk s d (fun s' => VHead P T ops l s' K) (.tup []) := rfl
theorem HOn_ft : HOn P T ops false d op ty pos af l s K (some true) = pk s d (fun s' => VHead P T ops l s' K) (.tup []) := rfl
theorem HOn_none (want : Bool) : HOn P T ops want d op ty pos af l s K none = pk s d (fun s' => VHead P T ops l s' K) (.tup []) := rfl
theorem HOn_not (want b : Bool) : HOn P T ops want d op ty pos af l s K (some (!b)) = HOn P T ops (!want) d op ty pos af l s K (some b) := by cases b <;> cases want <;> rfl
theorem qT {P : Program} {T : TypeId → Option TI} {ops : Array Oper} {want : Bool} {d : Option Tmp} {op : Op} {ty : TypeId} {pos : String} {af : Array Edge} {l : List Oper} {s : St} {K : St → Prop} {b : Bool} (h1 : b = true → HOn P T ops want d op ty pos af l s K (some true)) (h2 : b = false → HOn P T ops want d op ty pos af l s K (some false)) : HOn P T ops want d op ty pos af l s K (some b) := by cases b; exact h2 rfl; exact h1 rfl
theorem VHead_guard (j : Nat) (want : Bool) : VHead P T ops (⟨d, op, ty, pos, af, some (j, want)⟩ :: l) s K =
    mT (guardB ops s j) (HOn P T ops want d op ty pos af l s K) := by
  have : guardOf ops s ⟨d, op, ty, pos, af, some (j, want)⟩ = (guardB ops s j).map (fun b => match b with | some b => b == want | none => false) := by
    simp only [guardOf, guardB, gSlot]
    cases hb : (ops[j]?).bind (·.dst) with
    | none => rfl
    | some t =>
      simp only
      cases look s.env t with
      | none => rfl
      | some a => cases a with
        | v y => cases y with
          | one l => cases l <;> rfl
          | _ => rfl
        | tup xs => cases xs <;> rfl
  show (match guardOf ops s ⟨d, op, ty, pos, af, some (j, want)⟩ with
    | some true => VVal P T ⟨d, op, ty, pos, af, some (j, want)⟩ s (pk s d fun s' => VHead P T ops l s' K) | some false => pk s d (fun s' => VHead P T ops l s' K) (.tup []) | none => False) = _
  rw [this]
  cases guardB ops s j with
  | none => rfl
  | some b => simp only [Option.map_some, mT_some, HOn]; cases (match b with | some b => b == want | none => false) <;> rfl

def CallJ (P : Program) (T : TypeId → Option TI) (ops : Array Oper) (d : Option Tmp) (l : List Oper) (s : St) (K : St → Prop) (p : FuncId × List V) : Prop := CallG P p.1 p.2 s d fun s' => VOps P T ops l s' K
def CallH (P : Program) (T : TypeId → Option TI) (ops : Array Oper) (d : Option Tmp) (l : List Oper) (s : St) (K : St → Prop) (p : FuncId × List V) : Prop := CallK P s p.1 p.2 (pk s d fun s' => VHead P T ops l s' K)
theorem VOp_callJ (f : Operand) (args : Array Operand) (tys : Array TypeId) : VOp P T ⟨d, .call ⟨.value f, args, tys⟩, ty, pos, af, none⟩ s (fun s' => VOps P T ops l s' K) = mT (callOf T s ⟨.value f, args, tys⟩) (CallJ P T ops d l s K) := rfl
theorem VVal_callH (f : Operand) (args : Array Operand) (tys : Array TypeId) : VVal P T ⟨d, .call ⟨.value f, args, tys⟩, ty, pos, af, none⟩ s (pk s d fun s' => VHead P T ops l s' K) = mT (callOf T s ⟨.value f, args, tys⟩) (CallH P T ops d l s K) := rfl
theorem CallJ.pure {P : Program} {T : TypeId → Option TI} {ops : Array Oper} {d : Option Tmp} {l : List Oper} {s : St} {K : St → Prop} {f : FuncId} {xs : List V} {r : A} (h : Sat P f xs r) (hk : s.okD d ∧ VOps P T ops l (s.putO d (r.map L.clos)) K) : CallJ P T ops d l s K (f, xs) := CallG.pure h hk
theorem CallJ.lent {P : Program} {T : TypeId → Option TI} {ops : Array Oper} {d : Option Tmp} {l : List Oper} {s : St} {K : St → Prop} {f : FuncId} {xs ys : List V} {r : A} (h : Sat P f ys r) (hy : (xs.map fun x => x.map (frzV 4 s)) = ys) (hk : s.okD d ∧ VOps P T ops l (s.putO d (r.map L.flat)) K) : CallJ P T ops d l s K (f, xs) := CallG.lent h hy hk
theorem CallJ.lentI {P : Program} {T : TypeId → Option TI} {ops : Array Oper} {d : Option Tmp} {l : List Oper} {s : St} {K : St → Prop} {f : FuncId} {xs ys : List V} {r : A} (hy : (xs.map fun x => x.map (frzV 4 s)) = ys) (h : Sat P f ys r) (hk : s.okD d ∧ VOps P T ops l (s.putO d (r.map L.flat)) K) : CallJ P T ops d l s K (f, xs) := CallG.lent h hy hk
theorem CallJ.is {P : Program} {T : TypeId → Option TI} {ops : Array Oper} {d : Option Tmp} {l : List Oper} {s : St} {K : St → Prop} {p : FuncId × List V} (h : CallJ P T ops d l s K p) : CallJ P T ops d l s K p := h
theorem CallH.is {P : Program} {T : TypeId → Option TI} {ops : Array Oper} {d : Option Tmp} {l : List Oper} {s : St} {K : St → Prop} {p : FuncId × List V} (h : CallH P T ops d l s K p) : CallH P T ops d l s K p := h
theorem CallH.intro {P : Program} {T : TypeId → Option TI} {ops : Array Oper} {d : Option Tmp} {l : List Oper} {s : St} {K : St → Prop} {f : FuncId} {xs : List V} {r : A} (h : Sat P f xs r) (hk : pk s d (fun s' => VHead P T ops l s' K) (r.map L.clos)) : CallH P T ops d l s K (f, xs) := ⟨r, .inl ⟨h, hk⟩⟩
theorem CallH.lent {P : Program} {T : TypeId → Option TI} {ops : Array Oper} {d : Option Tmp} {l : List Oper} {s : St} {K : St → Prop} {f : FuncId} {xs ys : List V} {r : A} (h : Sat P f ys r) (hy : (xs.map fun x => x.map (frzV 4 ⟨0, [], [], s.row⟩)) = ys) (hk : pk s d (fun s' => VHead P T ops l s' K) (r.map L.flat)) : CallH P T ops d l s K (f, xs) := ⟨r, .inr ⟨hy ▸ h, hk⟩⟩

theorem VVal_move : VVal P T ⟨d, .move x, ty, pos, af, g⟩ s KA = mT (evalO T s ty x) KA := rfl
theorem VVal_assign : VVal P T ⟨d, .assign x, ty, pos, af, g⟩ s KA = mT (evalO T s ty x) KA := rfl
def pickK (T : TypeId → Option TI) (s : St) (ty : TypeId) (x y : Operand) (KA : A → Prop) [MTag KA] (b : Bool) : Prop := mO (evalO T s ty (if b then x else y)) KA
theorem pickK_true : pickK T s ty x y KA true = mT (evalO T s ty x) KA := rfl
theorem pickK_false : pickK T s ty x y KA false = mT (evalO T s ty y) KA := rfl
theorem qU {T : TypeId → Option TI} {s : St} {ty : TypeId} {x y : Operand} {KA : A → Prop} {b : Bool} (h1 : b = true → pickK T s ty x y KA true) (h2 : b = false → pickK T s ty x y KA false) : pickK T s ty x y KA b := by cases b; exact h2 rfl; exact h1 rfl
theorem VVal_pickE : VVal P T ⟨d, .pick c x y, ty, pos, af, g⟩ s KA = mT (boolOf (evalO T s 0 c)) (pickK T s ty x y KA) := rfl
theorem negK_int (KA : A → Prop) (k : IntKind) (n : Int) : negK KA (.int k n) = KA (.v (.one (.int k (k.wrap (0 - n))))) := rfl
theorem VVal_neg : VVal P T ⟨d, .unOp .neg t x, ty, pos, af, g⟩ s KA = mT (oneOf (evalO T s 0 x)) (negK KA) := rfl
theorem VVal_not : VVal P T ⟨d, .unOp .not t x, ty, pos, af, g⟩ s KA = mT (boolOf (evalO T s 0 x)) fun b => KA (.v (.one (.bool !b))) := rfl
theorem VVal_load : VVal P T ⟨d, .load t x, ty, pos, af, g⟩ s KA = mT (T t) fun i => mT (oneOf (evalO T s 0 x)) (loadK s i KA) := rfl
theorem loadK_fz (i : TI) (ls : List L) : loadK s i KA (.fz ls) = mT (loadV i ls) fun z => KA (.v z) := rfl
theorem loadK_ptr (i : TI) (id o : Nat) : loadK s i KA (.ptr id o) = mT (look s.box id) fun ls => mT (loadV i ((ls.drop o).map L.peek)) fun z => KA (.v z) := rfl
theorem loadK_eptr (i : TI) (id k o : Nat) : loadK s i KA (.eptr id k o) = mT (look s.row id) fun r => k < r.xs.length ∧ mT (loadV i ((overlay r.ov k 0 (r.xs.getD k [])).drop o)) fun z => KA (.v z) := rfl
theorem VVal_fieldAddr (f : Nat) : VVal P T ⟨d, .fieldAddr t x f, ty, pos, af, g⟩ s KA = mT (T t) fun i => mT (oneOf (evalO T s 0 x)) fun y => mT (fieldOff i f) fun off => mT (moveL off y) fun z => KA (.v (.one z)) := rfl
theorem VVal_field (f : Nat) : VVal P T ⟨d, .field t x f, ty, pos, af, g⟩ s KA = mT (T t) fun i => mT i.fields fun l => mT l[f]? fun p => mT (T p.2) fun j => mT (aggOf (evalO T s 0 x)) fun ls => p.1 + j.size ≤ ls.length ∧ mT (asV j.agg ((ls.drop p.1).take j.size)) fun z => KA (.v z) := rfl
theorem VVal_indexAddr : VVal P T ⟨d, .indexAddr t x y, ty, pos, af, g⟩ s KA = mT (elemTI T t) fun j => mT (intOfA (evalO T s 0 y)) fun n => mT (oneOf (evalO T s 0 x)) (idxK s j n KA) := rfl
theorem idxK_sl (j : TI) (n : Int) (sz : Nat) (xs : List (List L)) : idxK s j n KA (.sl sz xs) = ((0 ≤ n ∧ n < xs.length) ∧ j.size = sz ∧ KA (.v (.one (.fz (xs.getD n.toNat []))))) := rfl
theorem idxK_ref (j : TI) (n : Int) (id lo q : Nat) : idxK s j n KA (.ref id lo q) = mT (look s.row id) fun r => (0 ≤ n ∧ n < q) ∧ j.size = r.sz ∧ KA (.v (.one (.eptr id (lo + n.toNat) 0))) := rfl
theorem VVal_index : VVal P T ⟨d, .index t x y, ty, pos, af, g⟩ s KA = mT (T t) fun i => mT (oneOf (evalO T s 0 x)) (indexK T s i y KA) := rfl
theorem indexK_str (i : TI) (q : ByteArray) : indexK T s i y KA (.str q) = mT (intOfA (evalO T s 0 y)) fun n => (0 ≤ n ∧ n < q.size) ∧ i.isStr = true ∧ KA (.v (.one (.int .u8 ((q.data.toList.getD n.toNat 0).toNat : Nat)))) := rfl
theorem VVal_extract (k : Nat) : VVal P T ⟨d, .extract x k, ty, pos, af, g⟩ s KA = mT (tupOf (evalO T s 0 x)) fun xs => mT xs[k]? fun y => KA (.v y) := rfl
theorem VVal_binOp (bo : BinOp) : VVal P T ⟨d, .binOp bo t x y t', ty, pos, af, g⟩ s KA = mT (vOf (evalO T s t x)) fun v1 => mT (vOf (evalO T s t y)) (binK P bo t KA v1) := rfl
theorem binK_one (bo : BinOp) (l1 l2 : L) : binK P bo t KA (.one l1) (.one l2) = mT (binL P t bo l1 l2) fun p => p.1 ∧ KA (.v (.one p.2)) := rfl
theorem binK_agg (bo : BinOp) (xs ys : List L) : binK P bo t KA (.agg xs) (.agg ys) = mT (eqK P t) fun ks => (xs.map L.kd = ks ∧ ys.map L.kd = ks) ∧ mT (eqCells xs ys) fun b => mT (eqOp bo b) fun b' => KA (.v (.one (.bool b'))) := rfl
theorem VVal_build (parts : Array (Nat × Operand)) : VVal P T ⟨d, .build t parts, ty, pos, af, g⟩ s KA = mT (T t) fun i => mT i.fields fun l => mT i.zero fun z => mT (placesOf T l) fun pl => mT (fillL T s 0 (fun k => pl[k]?) z parts.toList) fun ls => KA (.v (.agg ls)) := rfl
theorem VVal_buildSlice (len : Nat) (parts : Array (Nat × Operand)) : VVal P T ⟨d, .buildSlice t len parts, ty, pos, af, g⟩ s KA = mT (elemTI T t) fun j => mT j.zero fun z => (z.length = j.size ∧ 0 < j.size ∧ len * j.size ≤ 16777216) ∧
      mT (fillL T s 0 (fun k => some (k * j.size, j.size)) (repL z len) parts.toList) fun ls => ls.all L.isFz = true ∧ KA (.v (.one (.sl j.size (chunks j.size len (ls.map L.clos))))) := rfl
theorem VVal_makeFunc (f : FuncId) (caps : Array Operand) : VVal P T ⟨d, .makeFunc (.func f) #[] caps, ty, pos, af, g⟩ s KA = mT (capsOf s T 0 caps.toList) fun cs => KA (.v (.one (.clo f cs))) := by
  show (#[] = #[] ∧ _) = _
  simp only [true_and]
  rfl
theorem VVal_slice (lo hi : Option Operand) : VVal P T ⟨d, .slice t x lo hi none, ty, pos, af, g⟩ s KA = mT (oneOf (evalO T s t x)) (sliceK T s t lo hi KA) := rfl
theorem sliceK_str (lo hi : Option Operand) (q : ByteArray) : sliceK T s t lo hi KA (.str q) = mT (T t) fun i => mT (boundN T s t 0 lo) fun l => mT (boundN T s t q.size hi) fun h => (0 ≤ l ∧ l ≤ h ∧ h ≤ q.size) ∧ i.isStr = true ∧ KA (.v (.one (.str (q.extract l.toNat h.toNat)))) := rfl
theorem sliceK_sl (lo hi : Option Operand) (sz : Nat) (xs : List (List L)) : sliceK T s t lo hi KA (.sl sz xs) = mT (elemTI T t) fun j => mT (boundN T s t 0 lo) fun l => mT (boundN T s t xs.length hi) fun h => (0 ≤ l ∧ l ≤ h ∧ h ≤ xs.length) ∧ j.size = sz ∧ KA (.v (.one (.sl sz ((xs.take h.toNat).drop l.toNat)))) := rfl
theorem sliceK_nil (lo hi : Option Operand) (sz : Nat) : sliceK T s t lo hi KA (.nil sz) = mT (elemTI T t) fun j => mT (boundN T s t 0 lo) fun l => mT (boundN T s t 0 hi) fun h => (0 ≤ l ∧ l ≤ h ∧ h ≤ 0) ∧ j.size = sz ∧ KA (.v (.one (.nil sz))) := rfl
theorem sliceK_ref (lo hi : Option Operand) (id b q : Nat) : sliceK T s t lo hi KA (.ref id b q) = mT (elemTI T t) fun j => mT (look s.row id) fun r => mT (boundN T s t 0 lo) fun l => mT (boundN T s t q hi) fun h => (0 ≤ l ∧ l ≤ h ∧ (h ≤ q ∨ (h ≤ r.xs.length - b ∧ b ≤ r.xs.length))) ∧ j.size = r.sz ∧ KA (.v (.one (.ref id (b + l.toNat) (h.toNat - l.toNat)))) := rfl
theorem VVal_slice3 (lo hi : Option Operand) (z : Operand) : VVal P T ⟨d, .slice t x lo hi (some z), ty, pos, af, g⟩ s KA = mT (elemTI T t) fun _ => mT (oneOf (evalO T s t x)) fun v1 => mT (nL v1) fun n => mT (boundN T s t 0 lo) fun l => mT (boundN T s t n hi) fun h => mT (boundN T s t 0 (some z)) fun mx => (0 ≤ l ∧ l ≤ h ∧ h ≤ mx ∧ mx ≤ n) ∧ hi.isSome = true ∧ KA (.v (.one .any)) := rfl
theorem VVal_nilCheck : VVal P T ⟨d, .nilCheck x, ty, pos, af, g⟩ s KA = mT (oneOf (evalO T s 0 x)) fun y => isPtrLike y = true ∧ KA (.v (.one y)) := rfl
theorem VVal_convert : VVal P T ⟨d, .convert t t' x, ty, pos, af, g⟩ s KA = mT (oneOf (evalO T s 0 x)) (convKk P T t t' KA) := rfl
theorem convKk_int (k : IntKind) (q : Int) : convKk P T t t' KA (.int k q) = ((P.underlying t).isSome = true ∧ mT (convK P t') fun k' => KA (.v (.one (.int k' (k'.wrap q))))) := rfl
theorem convKk_str (q : ByteArray) : convKk P T t t' KA (.str q) = mT (T t) fun i => mT (T t') fun i' => mT i'.elem fun e => (i.isStr = true ∧ convK P e = some .u8) ∧ KA (.v (.one (.sl 1 (chunks 1 q.size (q.data.toList.map fun b => L.int .u8 b.toNat))))) := rfl
theorem VVal_len : VVal P T ⟨d, .call ⟨.builtin .len, #[x], #[t]⟩, ty, pos, af, g⟩ s KA = mT (T t) fun i => mT (oneOf (evalO T s t x)) fun l => mT (lenL l) fun n => lenKind i l = true ∧ KA (.v (.one (.int .i64 n))) := rfl
theorem VVal_max (tys : Array TypeId) : VVal P T ⟨d, .call ⟨.builtin .max, #[x, y], tys⟩, ty, pos, af, g⟩ s KA = mT (oneOf (evalO T s 0 x)) fun l1 => mT (oneOf (evalO T s 0 y)) fun l2 => mT (maxL l1 l2) fun l => KA (.v (.one l)) := rfl
theorem VVal_min (tys : Array TypeId) : VVal P T ⟨d, .call ⟨.builtin .min, #[x, y], tys⟩, ty, pos, af, g⟩ s KA = mT (oneOf (evalO T s 0 x)) fun l1 => mT (oneOf (evalO T s 0 y)) fun l2 => mT (minL l1 l2) fun l => KA (.v (.one l)) := rfl

theorem VOp_assign : VOp P T ⟨d, .assign x, ty, pos, af, g⟩ s K = assignK s d K (evalO T s ty x) := rfl
theorem assignK_int (k : IntKind) (q : Int) : assignK s (some n) K (some (.v (.one (.int k q)))) = (n < s.n ∧ K (s.put n (.v (.one (.int k q))))) := rfl
theorem assignK_bool (b : Bool) : assignK s (some n) K (some (.v (.one (.bool b)))) = (n < s.n ∧ K (s.put n (.v (.one (.bool b))))) := rfl
theorem assignK_str (b : ByteArray) : assignK s (some n) K (some (.v (.one (.str b)))) = (n < s.n ∧ K (s.put n (.v (.one (.str b))))) := rfl
theorem assignK_clo (f : FuncId) (cs : List L) : assignK s (some n) K (some (.v (.one (.clo f cs)))) = (n < s.n ∧ K (s.put n (.v (.one (.clo f cs))))) := rfl
theorem assignK_sl (sz : Nat) (xs : List (List L)) : assignK s (some n) K (some (.v (.one (.sl sz xs)))) = (n < s.n ∧ K (s.put n (.v (.one (.sl sz xs))))) := rfl
theorem assignK_nil (z : Nat) : assignK s (some n) K (some (.v (.one (.nil z)))) = (n < s.n ∧ K (s.nilRow n z)) := rfl
theorem assignK_ref (id lo q : Nat) : assignK s (some n) K (some (.v (.one (.ref id lo q)))) = mT (look s.row id) fun r => n < s.n ∧ K (s.takeRow id n lo q r) := rfl
theorem assignK_agg (ls : List L) : assignK s (some n) K (some (.v (.agg ls))) = (n < s.n ∧ K (s.put n (.v (.agg ls)))) := rfl
theorem assignK_fz (ls : List L) : assignK s (some n) K (some (.v (.one (.fz ls)))) = (n < s.n ∧ K (s.put n (.v (.one (.fz ls))))) := rfl
theorem assignK_ptr (i o : Nat) : assignK s (some n) K (some (.v (.one (.ptr i o)))) = (n < s.n ∧ K (s.put n (.v (.one (.ptr i o))))) := rfl
theorem assignK_eptr (i k o : Nat) : assignK s (some n) K (some (.v (.one (.eptr i k o)))) = (n < s.n ∧ K (s.put n (.v (.one (.eptr i k o))))) := rfl
theorem assignK_any : assignK s (some n) K (some (.v (.one .any))) = (n < s.n ∧ K (s.put n (.v (.one .any)))) := rfl
theorem nilRow_eq (z : Nat) : s.nilRow n z = (s.newRow0 none n ⟨z, [], []⟩).put n (.v (.one (.ref n 0 0))) := rfl
theorem takeRow_eq (id lo q : Nat) (r : RowC) : s.takeRow id n lo q r = (s.newRow0 (some id) n r).put n (.v (.one (.ref n lo q))) := rfl
theorem appended_eq (src : Option Nat) (sz : Nat) (xs : List (List L)) (ov : List (Nat × Nat × L)) : s.appended src n sz xs ov = (s.newRow0 src n ⟨sz, xs, ov⟩).put n (.v (.one (.ref n 0 xs.length))) := rfl
theorem VOp_box (e : TypeId) : VOp P T ⟨some n, .box e x, ty, pos, af, g⟩ s K = mT (partCells T s 0 x) fun ls => n < s.n ∧ K (s.newBox n ls) := rfl
theorem VOp_alloc (e : TypeId) : VOp P T ⟨some n, .alloc e, ty, pos, af, g⟩ s K = mT (T e) fun i => mT i.zero fun ls => n < s.n ∧ K (s.newBox n ls) := rfl
theorem VOp_store : VOp P T ⟨none, .store t x y, ty, pos, af, g⟩ s K = mT (T t) fun i => mT (partCells T s t y) fun vs => mT (oneOf (evalO T s 0 x)) (storeK s i vs K) := by
  show (none = none ∧ _) = _
  simp only [true_and]
  rfl
theorem storeK_ptr (i : TI) (vs : List L) (id o : Nat) : storeK s i vs K (.ptr id o) = mT (look s.box id) fun ls => (vs.length = i.size ∧ o + vs.length ≤ ls.length) ∧ K { s with box := sput id (setL o vs ls) s.box } := rfl
theorem storeK_eptr (i : TI) (vs : List L) (id k o : Nat) : storeK s i vs K (.eptr id k o) = mT (look s.row id) fun r => (vs.length = i.size ∧ k < r.xs.length ∧ o + vs.length ≤ r.sz) ∧ K { s with row := sput id (r.store k o vs) s.row } := rfl
theorem store_mk (sz : Nat) (xs : List (List L)) (ov : List (Nat × Nat × L)) (i o : Nat) (vs : List L) : RowC.store ⟨sz, xs, ov⟩ i o vs = ⟨sz, xs.set i (setL o (vs.map L.clos) (xs.getD i [])), ovAdd i o vs (ovDel i o vs.length ov)⟩ := rfl
theorem VOp_buildSlice (len : Nat) (parts : Array (Nat × Operand)) : VOp P T ⟨some n, .buildSlice t len parts, ty, pos, af, g⟩ s K = mT (elemTI T t) fun j => mT j.zero fun z => (z.length = j.size ∧ 0 < j.size ∧ len * j.size ≤ 16777216) ∧
      mT (fillL T s 0 (fun k => some (k * j.size, j.size)) (repL z len) parts.toList) fun ls => n < s.n ∧ K ((s.newRow0 none n (rowOf j.size len ls)).put n (.v (.one (.ref n 0 len)))) := rfl
theorem VOp_append : VOp P T ⟨some n, .call ⟨.builtin .append, #[x, y], #[t, t']⟩, ty, pos, af, g⟩ s K = mT (elemTI T t) fun j => mT j.zero fun z => mT (oneOf (evalO T s t x)) fun l1 => mT (oneOf (evalO T s t y)) fun l2 => appK P s t t' j z n K l1 l2 := rfl
theorem appK_rr (j : TI) (z : List L) (id lo q id' lo' q' : Nat) : appK P s t t' j z n K (.ref id lo q) (.ref id' lo' q') = (t = t' ∧ (if id = id' then appIn s j n K id lo q lo' q' else appStd s j z n K (.ref id lo q) (.ref id' lo' q'))) := rfl
theorem appK_rs (j : TI) (z : List L) (id lo q sz : Nat) (xs : List (List L)) : appK P s t t' j z n K (.ref id lo q) (.sl sz xs) = (t = t' ∧ appStd s j z n K (.ref id lo q) (.sl sz xs)) := rfl
theorem appK_rn (j : TI) (z : List L) (id lo q sz : Nat) : appK P s t t' j z n K (.ref id lo q) (.nil sz) = (t = t' ∧ appStd s j z n K (.ref id lo q) (.nil sz)) := rfl
theorem appK_ri (j : TI) (z : List L) (id lo q : Nat) (k : IntKind) (i : Int) : appK P s t t' j z n K (.ref id lo q) (.int k i) = ((convK P t').isSome = true ∧ appMk s j z n K id lo q i) := rfl
theorem appK_nr (j : TI) (z : List L) (sz id lo q : Nat) : appK P s t t' j z n K (.nil sz) (.ref id lo q) = (t = t' ∧ appStd s j z n K (.nil sz) (.ref id lo q)) := rfl
theorem appK_ns (j : TI) (z : List L) (sz sz' : Nat) (xs : List (List L)) : appK P s t t' j z n K (.nil sz) (.sl sz' xs) = (t = t' ∧ appStd s j z n K (.nil sz) (.sl sz' xs)) := rfl
theorem appK_nn (j : TI) (z : List L) (sz sz' : Nat) : appK P s t t' j z n K (.nil sz) (.nil sz') = (t = t' ∧ appStd s j z n K (.nil sz) (.nil sz')) := rfl
theorem appK_ni (j : TI) (z : List L) (sz : Nat) (k : IntKind) (i : Int) : appK P s t t' j z n K (.nil sz) (.int k i) = ((convK P t').isSome = true ∧ (z.length = j.size ∧ 0 < j.size ∧ 0 < i ∧ i.toNat * j.bytes ≤ 140737488355328 ∧ i.toNat ≤ 9223372036854775807) ∧ n < s.n ∧ K (s.appended none n j.size (List.replicate i.toNat (z.map L.clos)) [])) := rfl
theorem appStd_eq (j : TI) (z : List L) (l1 l2 : L) : appStd s j z n K l1 l2 = mT (dstOf s j l1) fun p => mT (ysOf s j l2) fun q =>
            (p.2.2.2 ∧ q.2.2.2) ∧ (j.size = p.2.1 ∧ j.size = q.1 ∧ z.length = j.size) ∧ ((p.2.2.1.length + q.2.1.length) * j.bytes ≤ 140737488355328 ∧ p.2.2.1.length + q.2.1.length ≤ 9223372036854775807) ∧ n < s.n ∧ K (s.appended p.1 n p.2.1 (p.2.2.1 ++ q.2.1) (ovShift p.2.2.1.length q.2.2.1)) := rfl
theorem appIn_eq (j : TI) (id lo q lo' q' : Nat) : appIn s j n K id lo q lo' q' = mT (look s.row id) fun r => (lo = 0 ∧ r.ov = [] ∧ q + q' ≤ r.xs.length ∧ lo' + q' ≤ r.xs.length ∧ noOwn r.xs ∧ j.size = r.sz) ∧ n < s.n ∧
  K (St.put { s with row := sput id ⟨r.sz, r.xs.take q ++ (r.xs.drop lo').take q' ++ r.xs.drop (q + q'), []⟩ s.row } n (.v (.one (.ref id 0 (q + q'))))) := rfl
theorem appMk_eq (j : TI) (z : List L) (id lo q : Nat) (k : Int) : appMk s j z n K id lo q k = mT (look s.row id) fun r => (lo = 0 ∧ marked r ∧ q ≤ r.xs.length ∧ noOwn (r.xs.take q) ∧ j.size = r.sz ∧ z.length = r.sz ∧ 0 < r.sz) ∧ (0 < k ∧ (r.xs.length : Int) < q + k ∧ (q + k.toNat) * j.bytes ≤ 140737488355328 ∧ q + k.toNat ≤ 9223372036854775807) ∧ n < s.n ∧
  K (s.appended none n r.sz (r.xs.take q ++ List.replicate k.toNat (z.map L.clos)) []) := rfl
theorem marked_eq (sz : Nat) (xs : List (List L)) (c : Nat) (l : L) : marked ⟨sz, xs, [(c, 0, l)]⟩ = (c = xs.length) := rfl
theorem ovOut_nil (q : Nat) : ovOut [] q = True := rfl
theorem ovOut_cons (p q : Nat) (e : Nat × L) (r : List (Nat × Nat × L)) : ovOut ((p, e) :: r) q = (q ≤ p ∧ ovOut r q) := rfl
theorem ovIn_nil (q : Nat) : ovIn [] q = True := rfl
theorem ovIn_cons (p q : Nat) (e : Nat × L) (r : List (Nat × Nat × L)) : ovIn ((p, e) :: r) q = (p < q ∧ ovIn r q) := rfl
theorem padRow_eq (sz : Nat) (xs : List (List L)) (p : Nat) : padRow ⟨sz, xs, []⟩ p = ⟨sz, xs ++ List.replicate p (List.replicate sz .any), [(xs.length + p, 0, .any)]⟩ := rfl
theorem VOp_copy : VOp P T ⟨d, .call ⟨.builtin .copy, #[x, y], #[t, t']⟩, ty, pos, af, g⟩ s K = mT (elemTI T t) fun j => mT (oneOf (evalO T s t x)) fun l1 => mT (oneOf (evalO T s t y)) fun l2 => copyK s j d K l1 l2 := rfl
theorem copyK_ref (j : TI) (id lo q : Nat) (l2 : L) : copyK s j d K (.ref id lo q) l2 = mT (look s.row id) fun r => mT (ysC s j l2) fun p => (ovOut r.ov r.xs.length ∧ lo + q ≤ r.xs.length ∧ j.size = r.sz ∧ p.1 = r.sz ∧ p.2.2) ∧ s.okD d ∧
      K (St.putO { s with row := sput id ⟨r.sz, r.xs.take lo ++ p.2.1.take (min p.2.1.length q) ++ r.xs.drop (lo + min p.2.1.length q), r.ov⟩ s.row } d (.v (.one (.int .i64 ((min p.2.1.length q : Nat) : Int))))) := rfl
theorem VOp_clear : VOp P T ⟨d, .call ⟨.builtin .clear, #[x], #[t]⟩, ty, pos, af, g⟩ s K = mT (elemTI T t) fun j => mT j.zero fun z => mT (oneOf (evalO T s t x)) fun l1 => clearK s j z d K l1 := rfl
theorem clearK_ref (j : TI) (z : List L) (id lo q : Nat) : clearK s j z d K (.ref id lo q) = mT (look s.row id) fun r => (ovOut r.ov r.xs.length ∧ lo + q ≤ r.xs.length ∧ j.size = r.sz ∧ z.length = r.sz) ∧ s.okD d ∧
      K (St.putO { s with row := sput id ⟨r.sz, r.xs.take lo ++ List.replicate q (z.map L.clos) ++ r.xs.drop (lo + q), r.ov⟩ s.row } d (.tup [])) := rfl
theorem VOp_cap : VOp P T ⟨some n, .call ⟨.builtin .cap, #[x], #[t]⟩, ty, pos, af, g⟩ s K = mT (elemTI T t) fun _ => mT (oneOf (evalO T s t x)) fun l1 => capK s n K l1 := rfl
theorem capK_nil (sz : Nat) : capK s n K (.nil sz) = (n < s.n ∧ K (s.put n (.v (.one (.int .i64 0))))) := rfl
theorem capK_ref (id lo q : Nat) : capK s n K (.ref id lo q) = mT (look s.row id) fun r => (lo = 0 ∧ r.ov = []) ∧ n < s.n ∧ ∀ p : Nat, r.xs.length + p ≤ 9223372036854775807 → K (St.put { s with row := sput id (padRow r p) s.row } n (.v (.one (.int .i64 ((r.xs.length + p : Nat) : Int))))) := rfl
theorem VOp_eqNil : VOp P T ⟨d, .binOp .eql t x (.const (.slice none 0 0)) t', ty, pos, af, g⟩ s K = mT (oneOf (evalO T s t x)) fun l => isSlice l = true ∧ mT (T t) fun i => i.elem.isSome = true ∧ ∀ b, (∀ n, nL l = some n → 0 < n → b = false) → pk s d K (.v (.one (.bool b))) := rfl
theorem VOp_move : VOp P T ⟨d, .move x, ty, pos, af, g⟩ s K = mT (evalO T s ty x) (pk s d K) := rfl
theorem VOp_pick : VOp P T ⟨d, .pick c x y, ty, pos, af, g⟩ s K = VVal P T ⟨d, .pick c x y, ty, pos, af, g⟩ s (pk s d K) := rfl
theorem VOp_neg : VOp P T ⟨d, .unOp .neg t x, ty, pos, af, g⟩ s K = VVal P T ⟨d, .unOp .neg t x, ty, pos, af, g⟩ s (pk s d K) := rfl
theorem VOp_not : VOp P T ⟨d, .unOp .not t x, ty, pos, af, g⟩ s K = VVal P T ⟨d, .unOp .not t x, ty, pos, af, g⟩ s (pk s d K) := rfl
theorem VOp_load : VOp P T ⟨d, .load t x, ty, pos, af, g⟩ s K = VVal P T ⟨d, .load t x, ty, pos, af, g⟩ s (pk s d K) := rfl
theorem VOp_fieldAddr (f : Nat) : VOp P T ⟨d, .fieldAddr t x f, ty, pos, af, g⟩ s K = VVal P T ⟨d, .fieldAddr t x f, ty, pos, af, g⟩ s (pk s d K) := rfl
theorem VOp_field (f : Nat) : VOp P T ⟨d, .field t x f, ty, pos, af, g⟩ s K = VVal P T ⟨d, .field t x f, ty, pos, af, g⟩ s (pk s d K) := rfl
theorem VOp_indexAddr : VOp P T ⟨d, .indexAddr t x y, ty, pos, af, g⟩ s K = VVal P T ⟨d, .indexAddr t x y, ty, pos, af, g⟩ s (pk s d K) := rfl
theorem VOp_index : VOp P T ⟨d, .index t x y, ty, pos, af, g⟩ s K = VVal P T ⟨d, .index t x y, ty, pos, af, g⟩ s (pk s d K) := rfl
theorem VOp_extract (k : Nat) : VOp P T ⟨d, .extract x k, ty, pos, af, g⟩ s K = VVal P T ⟨d, .extract x k, ty, pos, af, g⟩ s (pk s d K) := rfl
theorem VOp_binTmp (bo : BinOp) (u : Tmp) : VOp P T ⟨d, .binOp bo t x (.tmp u) t', ty, pos, af, g⟩ s K = VVal P T ⟨d, .binOp bo t x (.tmp u) t', ty, pos, af, g⟩ s (pk s d K) := by cases bo <;> rfl
theorem VOp_binInt (bo : BinOp) (k : IntKind) (q : Int) : VOp P T ⟨d, .binOp bo t x (.const (.int k q)) t', ty, pos, af, g⟩ s K = VVal P T ⟨d, .binOp bo t x (.const (.int k q)) t', ty, pos, af, g⟩ s (pk s d K) := by cases bo <;> rfl
theorem VOp_binStr (bo : BinOp) (q : ByteArray) : VOp P T ⟨d, .binOp bo t x (.const (.string q)) t', ty, pos, af, g⟩ s K = VVal P T ⟨d, .binOp bo t x (.const (.string q)) t', ty, pos, af, g⟩ s (pk s d K) := by cases bo <;> rfl
theorem VOp_binPtr (bo : BinOp) (q : Option Addr) : VOp P T ⟨d, .binOp bo t x (.const (.pointer q)) t', ty, pos, af, g⟩ s K = VVal P T ⟨d, .binOp bo t x (.const (.pointer q)) t', ty, pos, af, g⟩ s (pk s d K) := by cases bo <;> rfl
theorem VOp_build (parts : Array (Nat × Operand)) : VOp P T ⟨d, .build t parts, ty, pos, af, g⟩ s K = VVal P T ⟨d, .build t parts, ty, pos, af, g⟩ s (pk s d K) := rfl
theorem VOp_makeFunc (f : Fn) (first caps : Array Operand) : VOp P T ⟨d, .makeFunc f first caps, ty, pos, af, g⟩ s K = VVal P T ⟨d, .makeFunc f first caps, ty, pos, af, g⟩ s (pk s d K) := rfl
theorem VOp_slice (lo hi mx : Option Operand) : VOp P T ⟨d, .slice t x lo hi mx, ty, pos, af, g⟩ s K = VVal P T ⟨d, .slice t x lo hi mx, ty, pos, af, g⟩ s (pk s d K) := rfl
theorem VOp_nilCheck : VOp P T ⟨d, .nilCheck x, ty, pos, af, g⟩ s K = VVal P T ⟨d, .nilCheck x, ty, pos, af, g⟩ s (pk s d K) := rfl
theorem VOp_convert : VOp P T ⟨d, .convert t t' x, ty, pos, af, g⟩ s K = VVal P T ⟨d, .convert t t' x, ty, pos, af, g⟩ s (pk s d K) := rfl
theorem VOp_len (args : Array Operand) (tys : Array TypeId) : VOp P T ⟨d, .call ⟨.builtin .len, args, tys⟩, ty, pos, af, g⟩ s K = VVal P T ⟨d, .call ⟨.builtin .len, args, tys⟩, ty, pos, af, g⟩ s (pk s d K) := rfl
theorem VOp_max (args : Array Operand) (tys : Array TypeId) : VOp P T ⟨d, .call ⟨.builtin .max, args, tys⟩, ty, pos, af, g⟩ s K = VVal P T ⟨d, .call ⟨.builtin .max, args, tys⟩, ty, pos, af, g⟩ s (pk s d K) := rfl
theorem VOp_min (args : Array Operand) (tys : Array TypeId) : VOp P T ⟨d, .call ⟨.builtin .min, args, tys⟩, ty, pos, af, g⟩ s K = VVal P T ⟨d, .call ⟨.builtin .min, args, tys⟩, ty, pos, af, g⟩ s (pk s d K) := rfl
end

section
variable {P : Program} {T : TypeId → Option TI} {w0 : World} {m0 : Mem} {F0 : Home} {Q : Exit → St → Prop} {s : St}
theorem qV {id : Nat} {l : List Oper} (hT : TabOk P T) (h : ∀ K : St → Prop, (∀ s', Q .normal s' → K s') → VOps P T l.toArray l s K) : AWP P w0 m0 F0 (.region id l.toArray false) Q s :=
  AWP.region hT rfl h
theorem yD {id : Nat} {l : List Oper} (hT : TabOk P T) (hm : P.follows .mixedOrders = true) (dep : Nat) (hchk : drawOk l.toArray l.length dep = true)
    (h : ∀ K : St → Prop, (∀ s', Q .normal s' → K s') → VHead P T l.toArray l s K) : AWP P w0 m0 F0 (.region id l.toArray true) Q s :=
  AWP.draw hT hm (l1 := l) (l2 := []) l.length dep rfl hchk (List.take_length ..) (List.drop_length ..) h
end

def CondG (P : Program) (w0 : World) (m0 : Mem) (F0 : Home) (x y : Code) (Q : Exit → St → Prop) (s : St) (b : Bool) : Prop := (b = true → AWP P w0 m0 F0 x Q s) ∧ (b = false → AWP P w0 m0 F0 y Q s)
section
variable {P : Program} {T : TypeId → Option TI} {w0 : World} {m0 : Mem} {F0 : Home} {Q : Exit → St → Prop} {s : St} {c : Operand} {x y : Code} {b : Bool}
theorem qW (hb : boolOf (evalO T s 0 c) = some b) (h : CondG P w0 m0 F0 x y Q s b) : AWP P w0 m0 F0 (.cond c x y) Q s := AWP.cond hb h.1 h.2
theorem qX (h : AWP P w0 m0 F0 x Q s) : CondG P w0 m0 F0 x y Q s true := ⟨fun _ => h, fun h => by cases h⟩
theorem qY (h : AWP P w0 m0 F0 y Q s) : CondG P w0 m0 F0 x y Q s false := ⟨(fun h => by cases h), fun _ => h⟩
theorem qZ (h : CondG P w0 m0 F0 y x Q s b) : CondG P w0 m0 F0 x y Q s (!b) := ⟨fun e => h.2 (by simpa using e), fun e => h.1 (by simpa using e)⟩
theorem CondG.isT (hb : b = true) (h : AWP P w0 m0 F0 x Q s) : CondG P w0 m0 F0 x y Q s b := ⟨fun _ => h, fun h => by rw [hb] at h; cases h⟩
theorem CondG.isF (hb : b = false) (h : AWP P w0 m0 F0 y Q s) : CondG P w0 m0 F0 x y Q s b := ⟨(fun h => by rw [hb] at h; cases h), fun _ => h⟩
theorem yS (h1 : b = true → AWP P w0 m0 F0 x Q s) (h2 : b = false → AWP P w0 m0 F0 y Q s) : CondG P w0 m0 F0 x y Q s b := ⟨h1, h2⟩
end
theorem GOn.isT {P : Program} {T : TypeId → Option TI} {ops : Array Oper} {want : Bool} {d : Option Tmp} {op : Op} {ty : TypeId} {pos : String} {af : Array Edge} {l : List Oper} {s : St} {K : St → Prop} {b : Bool} (hb : b = true) (h : GOn P T ops want d op ty pos af l s K (some true)) : GOn P T ops want d op ty pos af l s K (some b) := hb ▸ h
theorem GOn.isF {P : Program} {T : TypeId → Option TI} {ops : Array Oper} {want : Bool} {d : Option Tmp} {op : Op} {ty : TypeId} {pos : String} {af : Array Edge} {l : List Oper} {s : St} {K : St → Prop} {b : Bool} (hb : b = false) (h : GOn P T ops want d op ty pos af l s K (some false)) : GOn P T ops want d op ty pos af l s K (some b) := hb ▸ h
theorem HOn.isT {P : Program} {T : TypeId → Option TI} {ops : Array Oper} {want : Bool} {d : Option Tmp} {op : Op} {ty : TypeId} {pos : String} {af : Array Edge} {l : List Oper} {s : St} {K : St → Prop} {b : Bool} (hb : b = true) (h : HOn P T ops want d op ty pos af l s K (some true)) : HOn P T ops want d op ty pos af l s K (some b) := hb ▸ h
theorem HOn.isF {P : Program} {T : TypeId → Option TI} {ops : Array Oper} {want : Bool} {d : Option Tmp} {op : Op} {ty : TypeId} {pos : String} {af : Array Edge} {l : List Oper} {s : St} {K : St → Prop} {b : Bool} (hb : b = false) (h : HOn P T ops want d op ty pos af l s K (some false)) : HOn P T ops want d op ty pos af l s K (some b) := hb ▸ h
theorem pickK.isT {T : TypeId → Option TI} {s : St} {ty : TypeId} {x y : Operand} {KA : A → Prop} {b : Bool} (hb : b = true) (h : pickK T s ty x y KA true) : pickK T s ty x y KA b := hb ▸ h
theorem pickK.isF {T : TypeId → Option TI} {s : St} {ty : TypeId} {x y : Operand} {KA : A → Prop} {b : Bool} (hb : b = false) (h : pickK T s ty x y KA false) : pickK T s ty x y KA b := hb ▸ h

/-! ### where the walk's simp looks
  (The empty argument: the simplifier counts a step by definition as no change where a hypothesis has no binder, and then looks everywhere.) -/
section
variable {P : Program} {T : TypeId → Option TI} {ops : Array Oper} {l : List Oper} {o : Oper} {s : St} {s' : Unit → St} {K : St → Prop} {KA : A → Prop} {d : Option Tmp}
theorem VOps.congr (h : ∀ u, s = s' u) : VOps P T ops l s K = VOps P T ops l (s' ()) K := by rw [h ()]
theorem VHead.congr (h : ∀ u, s = s' u) : VHead P T ops l s K = VHead P T ops l (s' ()) K := by rw [h ()]
theorem VOp.congr (h : ∀ u, s = s' u) : VOp P T o s K = VOp P T o (s' ()) K := by rw [h ()]
theorem VVal.congr (h : ∀ u, s = s' u) : VVal P T o s KA = VVal P T o (s' ()) KA := by rw [h ()]
theorem pk.congr {x : A} {x' : Unit → A} (h : ∀ u, s = s' u) (hx : ∀ u, x = x' u) : pk s d K x = pk (s' ()) d K (x' ()) := by rw [h (), hx ()]
theorem assignK.congr {e : Option A} {e' : Unit → Option A} (h : ∀ u, s = s' u) (he : ∀ u, e = e' u) : assignK s d K e = assignK (s' ()) d K (e' ()) := by rw [h (), he ()]
theorem storeK.congr {i : TI} {vs : List L} {p : L} {i' : Unit → TI} {vs' : Unit → List L} {p' : Unit → L} (h : ∀ u, s = s' u) (hi : ∀ u, i = i' u) (hv : ∀ u, vs = vs' u) (hp : ∀ u, p = p' u) : storeK s i vs K p = storeK (s' ()) (i' ()) (vs' ()) K (p' ()) := by rw [h (), hi (), hv (), hp ()]
theorem appK.congr {t t' : TypeId} {j : TI} {z : List L} {n : Nat} {p q : L} {j' : Unit → TI} {z' : Unit → List L} {p' q' : Unit → L} (h : ∀ u, s = s' u) (hj : ∀ u, j = j' u) (hz : ∀ u, z = z' u) (hp : ∀ u, p = p' u) (hq : ∀ u, q = q' u) : appK P s t t' j z n K p q = appK P (s' ()) t t' (j' ()) (z' ()) n K (p' ()) (q' ()) := by rw [h (), hj (), hz (), hp (), hq ()]
theorem appStd.congr {j : TI} {z : List L} {n : Nat} {p q : L} {j' : Unit → TI} {z' : Unit → List L} {p' q' : Unit → L} (h : ∀ u, s = s' u) (hj : ∀ u, j = j' u) (hz : ∀ u, z = z' u) (hp : ∀ u, p = p' u) (hq : ∀ u, q = q' u) : appStd s j z n K p q = appStd (s' ()) (j' ()) (z' ()) n K (p' ()) (q' ()) := by rw [h (), hj (), hz (), hp (), hq ()]
theorem copyK.congr {j : TI} {p q : L} {j' : Unit → TI} {p' q' : Unit → L} (h : ∀ u, s = s' u) (hj : ∀ u, j = j' u) (hp : ∀ u, p = p' u) (hq : ∀ u, q = q' u) : copyK s j d K p q = copyK (s' ()) (j' ()) d K (p' ()) (q' ()) := by rw [h (), hj (), hp (), hq ()]
theorem clearK.congr {j : TI} {z : List L} {p : L} {j' : Unit → TI} {z' : Unit → List L} {p' : Unit → L} (h : ∀ u, s = s' u) (hj : ∀ u, j = j' u) (hz : ∀ u, z = z' u) (hp : ∀ u, p = p' u) : clearK s j z d K p = clearK (s' ()) (j' ()) (z' ()) d K (p' ()) := by rw [h (), hj (), hz (), hp ()]
theorem loadK.congr {i : TI} {v : L} {i' : Unit → TI} {v' : Unit → L} (h : ∀ u, s = s' u) (hi : ∀ u, i = i' u) (hp : ∀ u, v = v' u) : loadK s i KA v = loadK (s' ()) (i' ()) KA (v' ()) := by rw [h (), hi (), hp ()]
theorem idxK.congr {j : TI} {n : Int} {v : L} {j' : Unit → TI} {n' : Unit → Int} {v' : Unit → L} (h : ∀ u, s = s' u) (hi : ∀ u, j = j' u) (hn : ∀ u, n = n' u) (hp : ∀ u, v = v' u) : idxK s j n KA v = idxK (s' ()) (j' ()) (n' ()) KA (v' ()) := by rw [h (), hi (), hn (), hp ()]
theorem sliceK.congr {t : TypeId} {lo hi : Option Operand} {v : L} {v' : Unit → L} (h : ∀ u, s = s' u) (hp : ∀ u, v = v' u) : sliceK T s t lo hi KA v = sliceK T (s' ()) t lo hi KA (v' ()) := by rw [h (), hp ()]
theorem indexK.congr {i : TI} {y : Operand} {v : L} {i' : Unit → TI} {v' : Unit → L} (h : ∀ u, s = s' u) (hi : ∀ u, i = i' u) (hp : ∀ u, v = v' u) : indexK T s i y KA v = indexK T (s' ()) (i' ()) y KA (v' ()) := by rw [h (), hi (), hp ()]
theorem binK.congr {op : BinOp} {t : TypeId} {v w : V} {v' w' : Unit → V} (h : ∀ u, v = v' u) (hp : ∀ u, w = w' u) : binK P op t KA v w = binK P op t KA (v' ()) (w' ()) := by rw [h (), hp ()]
theorem convKk.congr {t t' : TypeId} {v : L} {v' : Unit → L} (h : ∀ u, v = v' u) : convKk P T t t' KA v = convKk P T t t' KA (v' ()) := by rw [h ()]
end

theorem LN : (∀ {α β : Type} {f : α → β} {l : List α}, (l.map f).length = l.length) ∧ (∀ {α : Type} {l l' : List α}, (l ++ l').length = l.length + l'.length) ∧ (∀ {α : Type} {x : α} {l : List α}, (x :: l).length = l.length + 1) ∧ (∀ {α : Type}, ([] : List α).length = 0) ∧
    (∀ {α : Type} {i : Nat} {l : List α}, (l.take i).length = min i l.length) ∧ (∀ {α : Type} {i : Nat} {l : List α}, (l.drop i).length = l.length - i) ∧ (∀ {α : Type} {l : List α} {i : Nat} {x : α}, (l.set i x).length = l.length) ∧ (∀ {α : Type} {n : Nat} {x : α}, (List.replicate n x).length = n) ∧
    (∀ {a b : Nat}, ((a + b : Nat) : Int) = (a : Int) + (b : Int)) ∧ (∀ {n : Nat}, (n : Int).toNat = n) ∧ (∀ {n : Nat}, 0 + n = n) :=
  ⟨List.length_map _, List.length_append, List.length_cons, List.length_nil, List.length_take, List.length_drop, List.length_set, List.length_replicate, Int.natCast_add _ _, Int.toNat_natCast _, Nat.zero_add _⟩
theorem NM : (∀ {p : Prop} [Decidable p], (decide p = true) = p) ∧ (∀ {p : Prop} [Decidable p], (decide p = false) ↔ ¬ p) ∧ (∀ {a b : Int}, (a == b) = true ↔ a = b) ∧ (∀ {a b : Nat}, (a == b) = true ↔ a = b) ∧ (∀ {a b : List UInt8}, (a == b) = true ↔ a = b) ∧ (∀ {a b : Bool}, (a == b) = true ↔ a = b) ∧
    (∀ {a b : Int}, (a == b) = false ↔ a ≠ b) ∧ (∀ {a b : Nat}, (a == b) = false ↔ a ≠ b) ∧ (∀ {a b : List UInt8}, (a == b) = false ↔ a ≠ b) ∧ (∀ {a b : Bool}, (a == b) = false ↔ a ≠ b) ∧
    (∀ {b : Bool}, ((!b) = true) ↔ (b = false)) ∧ (∀ {b : Bool}, ((!b) = false) ↔ (b = true)) ∧ (∀ {a b : Bool}, ((a && b) = true) = (a = true ∧ b = true)) ∧ (∀ {a b : Bool}, ((a || b) = true) = (a = true ∨ b = true)) ∧
    (∀ {a b : Bool}, ((a && b) = false) ↔ (a = true → b = false)) ∧ (∀ {a b : Bool}, ((a || b) = false) ↔ (a = false ∧ b = false)) ∧ (∀ {b : Bool}, (¬ b = true) = (b = false)) ∧ (∀ {b : Bool}, (¬ b = false) = (b = true)) ∧
    (∀ {a b : Int}, ¬ a < b ↔ b ≤ a) ∧ (∀ {a b : Int}, ¬ a ≤ b ↔ b < a) ∧ (∀ {α : Type} {a b : α}, (a ≠ b) = ¬ (a = b)) :=
  ⟨decide_eq_true_eq, decide_eq_false_iff_not, beq_iff_eq, beq_iff_eq, beq_iff_eq, beq_iff_eq, beq_eq_false_iff_ne, beq_eq_false_iff_ne, beq_eq_false_iff_ne, beq_eq_false_iff_ne, (by intro b; cases b <;> simp), (by intro b; cases b <;> simp), Bool.and_eq_true _ _, Bool.or_eq_true _ _, Bool.and_eq_false_imp, Bool.or_eq_false_iff, Bool.not_eq_true _, Bool.not_eq_false _, Int.not_lt, Int.not_le, ne_eq _ _⟩
theorem LE : (∀ {α : Type} (e : List (Nat × α)) (t : Nat) (x : α) (r : List (Nat × α)), allIn e ((t, x) :: r) = (look e t = some x ∧ allIn e r)) ∧ (∀ {α : Type} (e : List (Nat × α)), allIn e [] = True) ∧ (∀ {α : Type} (t : Nat) (x : α) (e : List (Nat × α)) (i : Nat), look ((t, x) :: e) i = if t = i then some x else look e i) ∧ (∀ {α : Type} (i : Nat), look ([] : List (Nat × α)) i = none) ∧
    (∀ {p : Prop}, (p ∧ p) = p) ∧ (∀ {p : Prop}, (p ∧ True) = p) ∧ (∀ {p : Prop}, (True ∧ p) = p) ∧ (∀ {α : Type} {a b : α}, (some a = some b) = (a = b)) ∧ (∀ {a a' : Nat} {b b' : List (List L)} {c c' : List (Nat × Nat × L)}, (RowC.mk a b c = RowC.mk a' b' c') = (a = a' ∧ b = b' ∧ c = c')) ∧
    (∀ {α : Type} {l : List α}, l.take 0 = []) ∧ (∀ {α β : Type} {f : α → β}, [].map f = []) ∧ (∀ {α β : Type} {f : α → β} {a : α} {l : List α}, (a :: l).map f = f a :: l.map f) ∧ (∀ {α β : Type} {f : α → β} {l l' : List α}, (l ++ l').map f = l.map f ++ l'.map f) ∧
    (((0 : Nat) : Int) = 0) ∧ (∀ {a b : Nat}, ((a + b : Nat) : Int) = (a : Int) + (b : Int)) ∧ (((1 : Nat) : Int) = 1) :=
  ⟨allIn_cons, allIn_nil, look_cons, look_nil, and_self _, and_true _, true_and _, Option.some.injEq _ _, RowC.mk.injEq _ _ _ _ _ _, List.take_zero, List.map_nil, List.map_cons, List.map_append, rfl, Int.natCast_add _ _, rfl⟩
theorem RT : (∀ {α : Type} (e : List (Nat × α)), keepL [] e = []) ∧ (∀ {α : Type} (k : List Nat), keepL k ([] : List (Nat × α)) = []) ∧ (∀ {α : Type} (k : List Nat) (t : Nat) (x : α) (e : List (Nat × α)), keepL k ((t, x) :: e) = if k.elem t then (t, x) :: keepL k e else keepL k e) ∧
    (∀ {α : Type} (e : List (Nat × α)), dropL [] e = e) ∧ (∀ {α : Type} (k : List Nat), dropL k ([] : List (Nat × α)) = []) ∧ (∀ {α : Type} (k : List Nat) (t : Nat) (x : α) (e : List (Nat × α)), dropL k ((t, x) :: e) = if k.elem t then dropL k e else (t, x) :: dropL k e) ∧
    (∀ (kb kr : List Nat) (s : St) (k : IntKind) (n : Int), topL kb kr s (.int k n) = .int k n) ∧ (∀ (kb kr : List Nat) (s : St) (b : Bool), topL kb kr s (.bool b) = .bool b) ∧ (∀ (kb kr : List Nat) (s : St) (b : ByteArray), topL kb kr s (.str b) = .str b) ∧ (∀ (kb kr : List Nat) (s : St) (sz : Nat) (xs : List (List L)), topL kb kr s (.sl sz xs) = .sl sz xs) ∧
    (∀ (kb kr : List Nat) (s : St) (sz : Nat), topL kb kr s (.nil sz) = .nil sz) ∧ (∀ (kb kr : List Nat) (s : St) (sz : Nat) (xs : List (List L)), topL kb kr s (.own sz xs) = .own sz xs) ∧ (∀ (kb kr : List Nat) (s : St) (ls : List L), topL kb kr s (.fz ls) = .fz ls) ∧ (∀ (kb kr : List Nat) (s : St), topL kb kr s .any = .any) ∧
    (∀ (kb kr : List Nat) (s : St) (id lo n : Nat), topL kb kr s (.ref id lo n) = if kr.elem id then .ref id lo n else frzV 4 s (.ref id lo n)) ∧ (∀ (kb kr : List Nat) (s : St) (id o : Nat), topL kb kr s (.ptr id o) = if kb.elem id then .ptr id o else frzV 4 s (.ptr id o)) ∧
    (∀ (kb kr : List Nat) (s : St) (id i o : Nat), topL kb kr s (.eptr id i o) = if kr.elem id then .eptr id i o else frzV 4 s (.eptr id i o)) ∧ (∀ {α : Type} (e : List (Nat × α)), allIn e [] = True) ∧ (∀ {α : Type} (e : List (Nat × α)) (t : Nat) (x : α) (r : List (Nat × α)), allIn e ((t, x) :: r) = (look e t = some x ∧ allIn e r)) :=
  ⟨keepL_nil, keepL_nil', keepL_cons, dropL_nil, dropL_nil', dropL_cons, topL_int, topL_bool, topL_str, topL_sl, topL_nil, topL_own, topL_fz, topL_any, topL_ref, topL_ptr, topL_eptr, allIn_nil, allIn_cons⟩

theorem AI {a b : Prop} (k : b) (h : a := by (first | with_reducible rfl | with_reducible assumption | omega | (simp only [LN]; first | done | with_reducible rfl | omega) | (simp only [NM, LN]; first | done | with_reducible assumption | omega) | (and_intros <;> first | with_reducible assumption | omega | (simp only [LN]; omega)) | fail)) : a ∧ b := ⟨h, k⟩
theorem qG {P : Program} {T : TypeId → Option TI} {ops : Array Oper} {want : Bool} {d : Option Tmp} {op : Op} {ty : TypeId} {pos : String} {af : Array Edge} {l : List Oper} {s : St} {K : St → Prop} {b : Bool} (h : GOn P T ops want d op ty pos af l s K (some true)) (hb : b = true := by (first | with_reducible rfl | with_reducible assumption | (simp only [NM, LN]; first | done | with_reducible assumption | omega))) : GOn P T ops want d op ty pos af l s K (some b) := hb ▸ h
theorem qGx {P : Program} {T : TypeId → Option TI} {ops : Array Oper} {want : Bool} {d : Option Tmp} {op : Op} {ty : TypeId} {pos : String} {af : Array Edge} {l : List Oper} {s : St} {K : St → Prop} {b : Bool} (h : GOn P T ops want d op ty pos af l s K (some false)) (hb : b = false := by (first | with_reducible rfl | with_reducible assumption | (simp only [NM, LN]; first | done | with_reducible assumption | omega))) : GOn P T ops want d op ty pos af l s K (some b) := hb ▸ h
theorem qH {P : Program} {T : TypeId → Option TI} {ops : Array Oper} {want : Bool} {d : Option Tmp} {op : Op} {ty : TypeId} {pos : String} {af : Array Edge} {l : List Oper} {s : St} {K : St → Prop} {b : Bool} (h : HOn P T ops want d op ty pos af l s K (some true)) (hb : b = true := by (first | with_reducible rfl | with_reducible assumption | (simp only [NM, LN]; first | done | with_reducible assumption | omega))) : HOn P T ops want d op ty pos af l s K (some b) := hb ▸ h
theorem qHx {P : Program} {T : TypeId → Option TI} {ops : Array Oper} {want : Bool} {d : Option Tmp} {op : Op} {ty : TypeId} {pos : String} {af : Array Edge} {l : List Oper} {s : St} {K : St → Prop} {b : Bool} (h : HOn P T ops want d op ty pos af l s K (some false)) (hb : b = false := by (first | with_reducible rfl | with_reducible assumption | (simp only [NM, LN]; first | done | with_reducible assumption | omega))) : HOn P T ops want d op ty pos af l s K (some b) := hb ▸ h
theorem qP {T : TypeId → Option TI} {s : St} {ty : TypeId} {x y : Operand} {KA : A → Prop} {b : Bool} (h : pickK T s ty x y KA true) (hb : b = true := by (first | with_reducible rfl | with_reducible assumption | (simp only [NM, LN]; first | done | with_reducible assumption | omega))) : pickK T s ty x y KA b := hb ▸ h
theorem qPx {T : TypeId → Option TI} {s : St} {ty : TypeId} {x y : Operand} {KA : A → Prop} {b : Bool} (h : pickK T s ty x y KA false) (hb : b = false := by (first | with_reducible rfl | with_reducible assumption | (simp only [NM, LN]; first | done | with_reducible assumption | omega))) : pickK T s ty x y KA b := hb ▸ h
theorem qI {P : Program} {w0 : World} {m0 : Mem} {F0 : Home} {Q : Exit → St → Prop} {s : St} {x y : Code} {b : Bool} (h : AWP P w0 m0 F0 x Q s) (hb : b = true := by (first | with_reducible rfl | with_reducible assumption | (simp only [NM, LN]; first | done | with_reducible assumption | omega))) : CondG P w0 m0 F0 x y Q s b := CondG.isT hb h
theorem qIx {P : Program} {w0 : World} {m0 : Mem} {F0 : Home} {Q : Exit → St → Prop} {s : St} {x y : Code} {b : Bool} (h : AWP P w0 m0 F0 y Q s) (hb : b = false := by (first | with_reducible rfl | with_reducible assumption | (simp only [NM, LN]; first | done | with_reducible assumption | omega))) : CondG P w0 m0 F0 x y Q s b := CondG.isF hb h
end Go.Bw
