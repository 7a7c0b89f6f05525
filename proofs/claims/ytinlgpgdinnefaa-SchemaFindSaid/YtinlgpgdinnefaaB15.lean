/-
  THE LAYER, 15: a region that draws its order. Its head operations are quiet; whatever order is drawn, they give the same.
-/
import Derived.Test.YtinlgpgdinnefaaB14
set_option linter.unusedSimpArgs false
set_option linter.unusedVariables false
namespace Go.Bw
open Go.RowKit

section
variable {P : Program} {w0 : World} {m0 : Mem} {s s' : St} {a : Act} {w : World} {m : Mem} {ω : Wh} {F0 : Home} {T : TypeId → Option TI}

/-! ### what is asked hangs on the operands alone -/
theorem partCells_congr {ty : TypeId} {x : Operand} (h : ∀ ty, evalO T s ty x = evalO T s' ty x) : partCells T s ty x = partCells T s' ty x := by
  unfold partCells; rw [h]
theorem fillL_congr {ty : TypeId} {place : Nat → Option (Nat × Nat)} : ∀ (ps : List (Nat × Operand)) (ls : List L), (∀ p ∈ ps, ∀ ty, evalO T s ty p.2 = evalO T s' ty p.2) → fillL T s ty place ls ps = fillL T s' ty place ls ps
  | [], _, _ => rfl
  | (i, x) :: ps, ls, h => by
    simp only [fillL]
    have e : partCells T s ty x = partCells T s' ty x := partCells_congr fun ty => h (i, x) (by simp) ty
    have e2 : ∀ q, fillL T s ty place q ps = fillL T s' ty place q ps := fun q => fillL_congr ps q fun p hp => h p (by simp [hp])
    simp only [e, e2]
theorem capsOf_congr {ty : TypeId} : ∀ (l : List Operand), (∀ x ∈ l, ∀ ty, evalO T s ty x = evalO T s' ty x) → capsOf s T ty l = capsOf s' T ty l
  | [], _ => rfl
  | x :: l, h => by
    simp only [capsOf]
    rw [h x (by simp), capsOf_congr l fun y hy => h y (by simp [hy])]
theorem argsOf_congr : ∀ (l : List Operand) (tys : List TypeId), (∀ x ∈ l, ∀ ty, evalO T s ty x = evalO T s' ty x) → argsOf T s l tys = argsOf T s' l tys
  | [], _, _ => rfl
  | x :: l, tys, h => by
    simp only [argsOf]
    rw [h x (by simp), argsOf_congr l tys.tail fun y hy => h y (by simp [hy])]
theorem boundN_congr {ty : TypeId} {n : Nat} (x : Option Operand) (h : ∀ y, x = some y → ∀ ty, evalO T s ty y = evalO T s' ty y) : boundN T s ty n x = boundN T s' ty n x := by
  cases x with
  | none => rfl
  | some y => simp only [boundN]; rw [h y rfl]
theorem callOf_congr (c : Call) (h : ∀ x ∈ c.operands.toList, ∀ ty, evalO T s ty x = evalO T s' ty x) : callOf T s c = callOf T s' c := by
  unfold callOf
  cases hc : c.callee with
  | value g =>
    simp only
    rw [h g (by simp [Call.operands, hc]), argsOf_congr _ _ fun x hx => h x (by simp only [Call.operands, hc, Array.toList_append, List.mem_append]; exact .inr hx)]
  | _ => rfl

theorem loadK_congr {i : TI} {K : A → Prop} (hb : ∀ id ls, look s.box id = some ls → look s'.box id = some ls) (hr : s'.row = s.row) {l : L} (h : loadK s i K l) : loadK s' i K l := by
  cases l <;> simp only [loadK, hr] at h ⊢
  case ptr id off =>
    obtain ⟨ls, h1, h2⟩ := mO_elim h
    rw [hb _ _ h1]
    exact h2
  all_goals exact h
theorem idxK_congr {j : TI} {n : Int} {K : A → Prop} (hr : s'.row = s.row) {l : L} (h : idxK s j n K l) : idxK s' j n K l := by
  cases l <;> simp only [idxK, hr] at h ⊢ <;> exact h

theorem VVal_congr {o : Oper} {K : A → Prop} (hb : ∀ id ls, look s.box id = some ls → look s'.box id = some ls) (hr : s'.row = s.row) (E : ∀ x ∈ o.op.operands.toList, ∀ ty, evalO T s ty x = evalO T s' ty x) (h : VVal P T o s K) : VVal P T o s' K := by
  unfold VVal at h ⊢
  split at h
  case h_1 x ho => simp only [ho] at E ⊢; rw [← E x (by simp [Op.operands])]; exact h
  case h_2 x ho => simp only [ho] at E ⊢; rw [← E x (by simp [Op.operands])]; exact h
  case h_3 c x y ho =>
    simp only [ho] at E ⊢
    rw [← E c (by simp [Op.operands])]
    obtain ⟨b, hb', h⟩ := mO_elim h
    rw [hb', mO_some, ← E _ (by cases b <;> simp [Op.operands])]
    exact h
  case h_4 t x ho => simp only [ho] at E ⊢; rw [← E x (by simp [Op.operands])]; exact h
  case h_5 t x ho =>
    simp only [ho] at E ⊢
    rw [← E x (by simp [Op.operands])]
    obtain ⟨i, hi, h⟩ := mO_elim h
    obtain ⟨l, hl, h⟩ := mO_elim h
    rw [hi, hl]
    exact loadK_congr hb hr h
  case h_6 t x f ho => simp only [ho] at E ⊢; rw [← E x (by simp [Op.operands])]; exact h
  case h_7 t x f ho => simp only [ho] at E ⊢; rw [← E x (by simp [Op.operands])]; exact h
  case h_8 t x y ho =>
    simp only [ho] at E ⊢
    rw [← E x (by simp [Op.operands]), ← E y (by simp [Op.operands])]
    obtain ⟨i, hi, h⟩ := mO_elim h
    obtain ⟨n, hn, h⟩ := mO_elim h
    obtain ⟨l, hl, h⟩ := mO_elim h
    rw [hi, hn, hl]
    exact idxK_congr hr h
  case h_9 t x y ho =>
    simp only [ho] at E ⊢
    rw [← E x (by simp [Op.operands])]
    obtain ⟨i, hi, h⟩ := mO_elim h
    obtain ⟨l, hl, h⟩ := mO_elim h
    rw [hi, hl]
    show indexK T s' i y K l
    cases l <;> simp only [indexK] at h ⊢
    rw [← E y (by simp [Op.operands])]
    exact h
  case h_10 x k ho => simp only [ho] at E ⊢; rw [← E x (by simp [Op.operands])]; exact h
  case h_11 op t x y t' ho => simp only [ho] at E ⊢; rw [← E x (by simp [Op.operands]), ← E y (by simp [Op.operands])]; exact h
  case h_12 t parts ho =>
    simp only [ho] at E ⊢
    have hf : ∀ pl z, fillL T s' 0 pl z parts.toList = fillL T s 0 pl z parts.toList := fun pl z => (fillL_congr _ _ fun p hp => E p.2 (by simp only [Op.operands, List.mem_map]; exact ⟨p, hp, rfl⟩)).symm
    simp only [hf]
    exact h
  case h_13 t len parts ho =>
    simp only [ho] at E ⊢
    have hf : ∀ pl z, fillL T s' 0 pl z parts.toList = fillL T s 0 pl z parts.toList := fun pl z => (fillL_congr _ _ fun p hp => E p.2 (by simp only [Op.operands, List.mem_map]; exact ⟨p, hp, rfl⟩)).symm
    simp only [hf]
    exact h
  case h_14 f first caps ho =>
    simp only [ho] at E ⊢
    rw [← capsOf_congr (s := s) (s' := s') caps.toList fun x hx => E x (by simp only [Op.operands, Array.toList_append, List.mem_append]; exact .inr hx)]
    exact h
  case h_15 t x lo hi ho =>
    simp only [ho] at E ⊢
    have e1 : ∀ n, boundN T s' t n lo = boundN T s t n lo := fun n => (boundN_congr lo fun y hy => E y (by simp [Op.operands, hy])).symm
    have e2 : ∀ n, boundN T s' t n hi = boundN T s t n hi := fun n => (boundN_congr hi fun y hy => E y (by simp [Op.operands, hy])).symm
    rw [← E x (by simp [Op.operands])]
    obtain ⟨l, hl, h⟩ := mO_elim h
    rw [hl]
    show sliceK T s' t lo hi K l
    cases l <;> simp only [sliceK, e1, e2, hr] at h ⊢ <;> exact h
  case h_16 t x lo hi z ho =>
    simp only [ho] at E ⊢
    have e1 : ∀ n, boundN T s' t n lo = boundN T s t n lo := fun n => (boundN_congr lo fun y hy => E y (by simp [Op.operands, hy])).symm
    have e2 : ∀ n, boundN T s' t n hi = boundN T s t n hi := fun n => (boundN_congr hi fun y hy => E y (by simp [Op.operands, hy])).symm
    have e3 : ∀ n, boundN T s' t n (some z) = boundN T s t n (some z) := fun n => (boundN_congr (some z) fun y hy => E y (by simp [Op.operands, ← Option.some.inj hy])).symm
    rw [← E x (by simp [Op.operands])]
    simp only [e1, e2, e3]
    exact h
  case h_17 x ho => simp only [ho] at E ⊢; rw [← E x (by simp [Op.operands])]; exact h
  case h_18 t t' x ho => simp only [ho] at E ⊢; rw [← E x (by simp [Op.operands])]; exact h
  case h_19 c ho =>
    simp only [ho] at E ⊢
    split at h
    · rename_i hcal
      split at h
      · rename_i x t hargs htys
        rw [← E x (by simp [Op.operands, Call.operands, hcal, hargs])]
        exact h
      · cases h
    · rename_i hcal
      split at h
      · rename_i x y hargs
        rw [← E x (by simp [Op.operands, Call.operands, hcal, hargs]), ← E y (by simp [Op.operands, Call.operands, hcal, hargs])]
        exact h
      · cases h
    · rename_i hcal
      split at h
      · rename_i x y hargs
        rw [← E x (by simp [Op.operands, Call.operands, hcal, hargs]), ← E y (by simp [Op.operands, Call.operands, hcal, hargs])]
        exact h
      · cases h
    · rw [← callOf_congr (s := s) (s' := s') c fun x hx => E x (by simpa [Op.operands] using hx)]
      exact h
    · cases h
  case h_20 => cases h

theorem loadK_pick {i : TI} {K : A → Prop} {l : L} (h : loadK s i K l) : ∃ z, K z ∧ loadK s i (fun q => q = z) l := by
  cases l <;> simp only [loadK] at h ⊢
  · obtain ⟨z, hz, h⟩ := mO_elim h
    exact ⟨_, h, by simp only [hz, mO_some]⟩
  · obtain ⟨ls, hls, h⟩ := mO_elim h
    obtain ⟨z, hz, h⟩ := mO_elim h
    exact ⟨_, h, by simp only [hls, hz, mO_some]⟩
  · obtain ⟨r, hr, h1, h⟩ := mO_elim h
    obtain ⟨z, hz, h⟩ := mO_elim h
    exact ⟨_, h, by simp only [hr, hz, mO_some]; exact ⟨h1, trivial⟩⟩
theorem idxK_pick {j : TI} {n : Int} {K : A → Prop} {l : L} (h : idxK s j n K l) : ∃ z, K z ∧ idxK s j n (fun q => q = z) l := by
  cases l <;> simp only [idxK] at h ⊢
  · exact ⟨_, h.2.2, h.1, h.2.1, rfl⟩
  · obtain ⟨r, hr, h1, h2, h3⟩ := mO_elim h
    exact ⟨_, h3, by rw [hr]; exact ⟨h1, h2, rfl⟩⟩

theorem VVal_pick {o : Oper} {K : A → Prop} (h : VVal P T o s K) : ∃ x, K x ∧ VVal P T o s (fun y => y = x) := by
  unfold VVal at h ⊢
  split at h
  case h_1 x ho => obtain ⟨y, hy, h⟩ := mO_elim h; exact ⟨_, h, by simp only [hy, mO_some]⟩
  case h_2 x ho => obtain ⟨y, hy, h⟩ := mO_elim h; exact ⟨_, h, by simp only [hy, mO_some]⟩
  case h_3 c x y ho =>
    obtain ⟨b, hb, h⟩ := mO_elim h
    obtain ⟨z, hz, h⟩ := mO_elim h
    exact ⟨_, h, by simp only [hb, hz, mO_some]⟩
  case h_4 t x ho => obtain ⟨b, hb, h⟩ := mO_elim h; exact ⟨_, h, by simp only [hb, mO_some]⟩
  case h_5 t x ho =>
    obtain ⟨i, hi, h⟩ := mO_elim h
    obtain ⟨y, hy, h⟩ := mO_elim h
    obtain ⟨z, h1, h2⟩ := loadK_pick h
    exact ⟨z, h1, by rw [hi, hy]; exact h2⟩
  case h_6 t x f ho =>
    obtain ⟨i, hi, h⟩ := mO_elim h
    obtain ⟨y, hy, h⟩ := mO_elim h
    obtain ⟨off, ho', h⟩ := mO_elim h
    obtain ⟨z, hz, h⟩ := mO_elim h
    exact ⟨_, h, by simp only [hi, hy, ho', hz, mO_some]⟩
  case h_7 t x f ho =>
    obtain ⟨i, hi, h⟩ := mO_elim h
    obtain ⟨l, hl, h⟩ := mO_elim h
    obtain ⟨p, hp, h⟩ := mO_elim h
    obtain ⟨j, hj, h⟩ := mO_elim h
    obtain ⟨ls, hls, hf, h⟩ := mO_elim h
    obtain ⟨z, hz, h⟩ := mO_elim h
    exact ⟨_, h, by simp only [hi, hl, hp, hj, hls, mO_some]; exact ⟨hf, by simp only [hz, mO_some]⟩⟩
  case h_8 t x y ho =>
    obtain ⟨j, hj, h⟩ := mO_elim h
    obtain ⟨n, hn, h⟩ := mO_elim h
    obtain ⟨l, hl, h⟩ := mO_elim h
    obtain ⟨z, h1, h2⟩ := idxK_pick h
    exact ⟨z, h1, by rw [hj, hn, hl]; exact h2⟩
  case h_9 t x y ho =>
    obtain ⟨i, hi, h⟩ := mO_elim h
    obtain ⟨l, hl, h⟩ := mO_elim h
    rw [hi, hl]
    show ∃ x, K x ∧ indexK T s i y (fun y => y = x) l
    cases l <;> simp only [indexK] at h ⊢
    obtain ⟨n, hn, h1, h2, h⟩ := mO_elim h
    exact ⟨_, h, by simp only [hn, mO_some]; exact ⟨h1, h2, trivial⟩⟩
  case h_10 x k ho =>
    obtain ⟨xs, hx, h⟩ := mO_elim h
    obtain ⟨y, hy, h⟩ := mO_elim h
    exact ⟨_, h, by simp only [hx, hy, mO_some]⟩
  case h_11 op t x y t' ho =>
    obtain ⟨v1, h1, h⟩ := mO_elim h
    obtain ⟨v2, h2, h⟩ := mO_elim h
    rw [h1, h2]
    show ∃ x, K x ∧ binK P op t (fun y => y = x) v1 v2
    unfold binK at h ⊢
    split at h
    · obtain ⟨p, h3, h4, h⟩ := mO_elim h
      exact ⟨_, h, by simp only [h3, mO_some]; exact ⟨h4, trivial⟩⟩
    · obtain ⟨ks, hk, h3, h⟩ := mO_elim h
      obtain ⟨b, hb, h⟩ := mO_elim h
      obtain ⟨b', hb', h⟩ := mO_elim h
      exact ⟨_, h, by simp only [hk, hb, hb', mO_some]; exact ⟨h3, trivial⟩⟩
    · cases h
  case h_12 t parts ho =>
    obtain ⟨i, hi, h⟩ := mO_elim h
    obtain ⟨l, hl, h⟩ := mO_elim h
    obtain ⟨z, hz, h⟩ := mO_elim h
    obtain ⟨pl, hp, h⟩ := mO_elim h
    obtain ⟨ls, hls, h⟩ := mO_elim h
    exact ⟨_, h, by simp only [hi, hl, hz, hp, hls, mO_some]⟩
  case h_13 t len parts ho =>
    obtain ⟨j, hj, h⟩ := mO_elim h
    obtain ⟨z, hz, hc, h⟩ := mO_elim h
    obtain ⟨ls, hls, hfz, h⟩ := mO_elim h
    exact ⟨_, h, by simp only [hj, hz, hls, mO_some]; exact ⟨hc, hfz, trivial⟩⟩
  case h_14 f first caps ho =>
    obtain ⟨h1, h⟩ := h
    obtain ⟨cs, hcs, h⟩ := mO_elim h
    exact ⟨_, h, h1, by simp only [hcs, mO_some]⟩
  case h_15 t x lo hi ho =>
    obtain ⟨l, hl, h⟩ := mO_elim h
    rw [hl]
    show ∃ x, K x ∧ sliceK T s t lo hi (fun y => y = x) l
    cases l <;> simp only [sliceK] at h ⊢
    · obtain ⟨i, hi', h⟩ := mO_elim h
      obtain ⟨l, hl, h⟩ := mO_elim h
      obtain ⟨hh, hhi, h1, h2, h⟩ := mO_elim h
      exact ⟨_, h, by simp only [hi', hl, hhi, mO_some]; exact ⟨h1, h2, trivial⟩⟩
    · obtain ⟨i, hi', h⟩ := mO_elim h
      obtain ⟨l, hl, h⟩ := mO_elim h
      obtain ⟨hh, hhi, h1, h2, h⟩ := mO_elim h
      exact ⟨_, h, by simp only [hi', hl, hhi, mO_some]; exact ⟨h1, h2, trivial⟩⟩
    · obtain ⟨i, hi', h⟩ := mO_elim h
      obtain ⟨r, hr, h⟩ := mO_elim h
      obtain ⟨l, hl, h⟩ := mO_elim h
      obtain ⟨hh, hhi, h1, h2, h⟩ := mO_elim h
      exact ⟨_, h, by simp only [hi', hr, hl, hhi, mO_some]; exact ⟨h1, h2, trivial⟩⟩
  case h_16 t x lo hi z ho =>
    obtain ⟨j, hj, h⟩ := mO_elim h
    obtain ⟨v1, hx, h⟩ := mO_elim h
    obtain ⟨n, hn, h⟩ := mO_elim h
    obtain ⟨l, hl, h⟩ := mO_elim h
    obtain ⟨hh, hhi, h⟩ := mO_elim h
    obtain ⟨mx, hmx, h1, h2, h⟩ := mO_elim h
    exact ⟨_, h, by simp only [hj, hx, hn, hl, hhi, hmx, mO_some]; exact ⟨h1, h2, trivial⟩⟩
  case h_17 x ho =>
    obtain ⟨y, hy, h1, h⟩ := mO_elim h
    exact ⟨_, h, by simp only [hy, mO_some]; exact ⟨h1, trivial⟩⟩
  case h_18 t t' x ho =>
    obtain ⟨l, hl, h⟩ := mO_elim h
    rw [hl]
    show ∃ x, K x ∧ convKk P T t t' (fun y => y = x) l
    cases l <;> simp only [convKk] at h ⊢
    · obtain ⟨h1, h⟩ := h
      obtain ⟨k, hk, h⟩ := mO_elim h
      exact ⟨_, h, h1, by simp only [hk, mO_some]⟩
    · obtain ⟨i, hi, h⟩ := mO_elim h
      obtain ⟨i', hi', h⟩ := mO_elim h
      obtain ⟨e, he, h1, h⟩ := mO_elim h
      exact ⟨_, h, by simp only [hi, hi', he, mO_some]; exact ⟨h1, trivial⟩⟩
  case h_19 c ho =>
    split at h
    · split at h
      · obtain ⟨i, hi, h⟩ := mO_elim h
        obtain ⟨l, hl, h⟩ := mO_elim h
        obtain ⟨n, hn, h1, h⟩ := mO_elim h
        exact ⟨_, h, by simp only [hi, hl, hn, mO_some]; exact ⟨h1, trivial⟩⟩
      · cases h
    · split at h
      · obtain ⟨l1, h1, h⟩ := mO_elim h
        obtain ⟨l2, h2, h⟩ := mO_elim h
        obtain ⟨l, hl, h⟩ := mO_elim h
        exact ⟨_, h, by simp only [h1, h2, hl, mO_some]⟩
      · cases h
    · split at h
      · obtain ⟨l1, h1, h⟩ := mO_elim h
        obtain ⟨l2, h2, h⟩ := mO_elim h
        obtain ⟨l, hl, h⟩ := mO_elim h
        exact ⟨_, h, by simp only [h1, h2, hl, mO_some]⟩
      · cases h
    · obtain ⟨p, hp, r, h1, h⟩ := mO_elim h
      exact ⟨_, h, by simp only [hp, mO_some]; exact ⟨r, h1, rfl⟩⟩
    · cases h
  case h_20 => cases h

/-! ### the head, in the order of the text -/
def VHead (P : Program) (T : TypeId → Option TI) (ops : Array Oper) : List Oper → St → (St → Prop) → Prop
  | [], s, K => K s
  | o :: l, s, K => match guardOf ops s o with
    | some true => VVal P T o s (pk s o.dst fun s' => VHead P T ops l s' K)
    | some false => pk s o.dst (fun s' => VHead P T ops l s' K) (.tup [])
    | none => False

def puts (s : St) : List (Option Tmp × A) → St
  | [] => s
  | p :: ps => puts (s.putO p.1 p.2) ps

def StepOK (P : Program) (T : TypeId → Option TI) (ops : Array Oper) (s : St) (o : Oper) (x : A) : Prop :=
  s.okD o.dst ∧ ((guardOf ops s o = some true ∧ VVal P T o s (fun y => y = x)) ∨ (guardOf ops s o = some false ∧ x = .tup []))

theorem putO_n (s : St) (d : Option Tmp) (x : A) : (s.putO d x).n = s.n := by cases d <;> rfl
theorem putO_box (s : St) (d : Option Tmp) (x : A) : (s.putO d x).box = s.box := by cases d <;> rfl
theorem putO_row (s : St) (d : Option Tmp) (x : A) : (s.putO d x).row = s.row := by cases d <;> rfl
theorem puts_n : ∀ (ps : List (Option Tmp × A)) (s : St), (puts s ps).n = s.n
  | [], _ => rfl
  | p :: ps, s => by rw [puts, puts_n ps, putO_n]
theorem puts_box : ∀ (ps : List (Option Tmp × A)) (s : St), (puts s ps).box = s.box
  | [], _ => rfl
  | p :: ps, s => by rw [puts, puts_box ps, putO_box]
theorem puts_row : ∀ (ps : List (Option Tmp × A)) (s : St), (puts s ps).row = s.row
  | [], _ => rfl
  | p :: ps, s => by rw [puts, puts_row ps, putO_row]

theorem VHead_chain {ops : Array Oper} {K : St → Prop} : ∀ (l : List Oper) (s : St), VHead P T ops l s K → ∃ ps : List (Option Tmp × A), ps.length = l.length ∧ K (puts s ps) ∧
    ∀ (i : Nat) (o : Oper), l[i]? = some o → ∃ x, ps[i]? = some (o.dst, x) ∧ StepOK P T ops (puts s (ps.take i)) o x
  | [], s, h => ⟨[], rfl, h, fun i o hi => by simp at hi⟩
  | o :: l, s, h => by
    simp only [VHead] at h
    have fin : ∀ x, StepOK P T ops s o x → VHead P T ops l (s.putO o.dst x) K → ∃ ps : List (Option Tmp × A), ps.length = (o :: l).length ∧ K (puts s ps) ∧
        ∀ (i : Nat) (o' : Oper), (o :: l)[i]? = some o' → ∃ x, ps[i]? = some (o'.dst, x) ∧ StepOK P T ops (puts s (ps.take i)) o' x := by
      intro x hx h
      obtain ⟨ps, h1, h2, h3⟩ := VHead_chain l _ h
      refine ⟨(o.dst, x) :: ps, by simp [h1], h2, fun i o' hi => ?_⟩
      cases i with
      | zero => simp only [List.getElem?_cons_zero, Option.some.injEq] at hi; subst hi; exact ⟨x, rfl, hx⟩
      | succ i =>
        obtain ⟨y, h4, h5⟩ := h3 i o' (by simpa using hi)
        exact ⟨y, by simpa using h4, h5⟩
    split at h
    · rename_i hg
      obtain ⟨x, hx, hv⟩ := VVal_pick h
      obtain ⟨h1, h2⟩ := pk_elim hx
      exact fin x ⟨h1, .inl ⟨hg, hv⟩⟩ h2
    · rename_i hg
      obtain ⟨h1, h2⟩ := pk_elim h
      exact fin _ ⟨h1, .inr ⟨hg, rfl⟩⟩ h2
    · cases h

/-- No two of them write the same slot. -/
def Apart (ps : List (Option Tmp × A)) : Prop := ∀ (i j : Nat) (p q : Option Tmp × A) (t : Tmp), ps[i]? = some p → ps[j]? = some q → p.1 = some t → q.1 = some t → i = j

theorem look_puts : ∀ (ps : List (Option Tmp × A)) (s : St), Apart ps → ∀ (t : Tmp) (x : A), look (puts s ps).env t = some x ↔ (some t, x) ∈ ps ∨ ((∀ p ∈ ps, p.1 ≠ some t) ∧ look s.env t = some x)
  | [], s, _, t, x => by simp [puts]
  | p :: ps, s, hA, t, x => by
    have hA' : Apart ps := fun i j q r u h1 h2 h3 h4 => by
      have := hA (i + 1) (j + 1) q r u (by simpa using h1) (by simpa using h2) h3 h4
      omega
    rw [puts, look_puts ps _ hA' t x]
    have hput : look (s.putO p.1 p.2).env t = if p.1 = some t then some p.2 else look s.env t := by
      unfold St.putO
      cases hp : p.1 with
      | none => simp
      | some d =>
        simp only [St.put, look, Option.some.injEq]
    rw [hput]
    by_cases hp : p.1 = some t
    · have hno : ∀ q ∈ ps, q.1 ≠ some t := by
        intro q hq he
        obtain ⟨j, hj, rfl⟩ := List.mem_iff_getElem.1 hq
        have := hA 0 (j + 1) p ps[j] t rfl (by simp [List.getElem?_eq_getElem hj]) hp he
        omega
      rw [if_pos hp]
      constructor
      · rintro (h | ⟨_, h⟩)
        · exact .inl (by simp [h])
        · injection h with h
          exact .inl (by rw [← h, ← hp]; simp)
      · rintro (h | ⟨h, _⟩)
        · rcases List.mem_cons.1 h with h | h
          · refine .inr ⟨hno, ?_⟩
            rw [← h]
          · exact .inl h
        · exact absurd hp (h p (by simp))
    · rw [if_neg hp]
      constructor
      · rintro (h | ⟨h1, h2⟩)
        · exact .inl (by simp [h])
        · refine .inr ⟨fun q hq => ?_, h2⟩
          rcases List.mem_cons.1 hq with rfl | hq
          · exact hp
          · exact h1 q hq
      · rintro (h | ⟨h1, h2⟩)
        · rcases List.mem_cons.1 h with h | h
          · exact absurd (by rw [← h]) hp
          · exact .inl h
        · exact .inr ⟨fun q hq => h1 q (by simp [hq]), h2⟩

/-! ### the order -/
def direct (ops : Array Oper) (i : Nat) : List Nat := match ops[i]? with | some o => (o.after.toList.filter (Region.binds .any)).map (·.on) | none => []
def clo (ops : Array Oper) : Nat → Nat → List Nat
  | 0, i => direct ops i
  | f + 1, i => direct ops i ++ (direct ops i).flatMap (clo ops f)
def dstAt (ops : Array Oper) (i : Nat) : Option Tmp := (ops[i]?).bind (·.dst)
def looksAt (ops : Array Oper) (i : Nat) : List Tmp := match ops[i]? with | some o => o.looksAt ops | none => []
def drawOk (ops : Array Oper) (na dep : Nat) : Bool :=
  decide (na ≤ ops.size) && (List.range ops.size).all fun i =>
    (direct ops i).all (fun j => decide (j < i)) &&
    (if i < na then (List.range na).all fun j => i == j || ((dstAt ops j).isNone || (dstAt ops i != dstAt ops j)) &&
        (match dstAt ops j with | none => true | some t => !(looksAt ops i).elem t || (if j < i then (clo ops dep i).elem j else (clo ops dep j).elem i))
      else (List.range i).all fun j => (clo ops dep i).elem j)

theorem clo_listed {ops : Array Oper} {listed : Nat → Prop} (hcl : ∀ i, listed i → ∀ j ∈ direct ops i, listed j) : ∀ (f i : Nat), (∀ j ∈ direct ops i, listed j) → ∀ j ∈ clo ops f i, listed j
  | 0, i, h, j, hj => h j hj
  | f + 1, i, h, j, hj => by
    simp only [clo, List.mem_append, List.mem_flatMap] at hj
    rcases hj with hj | ⟨k, hk, hj⟩
    · exact h j hj
    · exact clo_listed hcl f k (hcl k (h k hk)) j hj

theorem CI.ext (h : CI P w0 m0 F0 s a w m ω) (hn : s'.n = s.n) (he : ∀ t, look s'.env t = look s.env t) (hb : s'.box = s.box) (hr : s'.row = s.row) : CI P w0 m0 F0 s' a w m ω :=
  h.weaken hn (fun t x hx => by rw [← he]; exact hx) (fun i ls hi => by rw [← hb]; exact hi) (fun i ls hi => by rw [← hr]; exact hi)

theorem evalO_congr {x : Operand} (h : ∀ t, x = .tmp t → look s.env t = look s'.env t) (ty : TypeId) : evalO T s ty x = evalO T s' ty x := by
  cases x with
  | tmp t => exact h t rfl
  | _ => rfl
theorem guardOf_congr {ops : Array Oper} {o : Oper} (h : ∀ t ∈ o.looksAt ops, look s.env t = look s'.env t) : guardOf ops s o = guardOf ops s' o := by
  unfold guardOf
  split
  · rfl
  · rename_i j want hg
    split
    · rename_i t ht
      rw [h t (by simp [Oper.looksAt, hg, ht])]
    · rfl
theorem operand_looks {ops : Array Oper} {o : Oper} {t : Tmp} (h : Operand.tmp t ∈ o.op.operands.toList) : t ∈ o.looksAt ops := by
  unfold Oper.looksAt
  refine List.mem_append_left _ (List.mem_filterMap.2 ⟨_, h, rfl⟩)

theorem StepOK_sound (hT : TabOk P T) {ops : Array Oper} {o : Oper} {x : A} (h : StepOK P T ops s' o x) (hbox : ∀ id ls, look s'.box id = some ls → look s.box id = some ls) (hrow : s'.row = s.row) (hn : s'.n = s.n) (hl : ∀ t ∈ o.looksAt ops, look s'.env t = look s.env t) (hC : CI P w0 m0 F0 s a w m ω)
    {K : Act → World → Prop} {Q : Exit → Act → World → Prop} (hK : ∀ v w' m', CI P w0 m0 F0 (s.putO o.dst x) (a.put o.dst v) w' m' ω → K (a.put o.dst v) w') :
    if Region.wanted o (yielded ops a.tmps) then o.wp P a w K Q ∨ (o.asks P a w ∧ LetsOut Q) else K (a.put o.dst undef) w := by
  obtain ⟨hd, h⟩ := h
  have hd' : s.okD o.dst := by
    unfold St.okD at hd ⊢
    split at hd
    · rw [← hn]; exact hd
    · trivial
  rcases h with ⟨hg, hv⟩ | ⟨hg, rfl⟩
  · rw [guardOf_congr (s' := s) hl] at hg
    rw [if_pos (guardOf_sound hC hg)]
    have hv' := VVal_congr (s' := s) hbox hrow.symm (fun y hy ty => evalO_congr (fun t ht => hl t (operand_looks (ht ▸ hy))) ty) hv
    obtain ⟨y, rfl, hG⟩ := VVal_sound hT hv' hC
    exact .inl (hG _ _ fun v w' ⟨m', h1, h2⟩ => hK v w' m' (h1.putO hd' h2))
  · rw [guardOf_congr (s' := s) hl] at hg
    rw [if_neg (by rw [guardOf_sound hC hg]; simp)]
    exact hK undef w m (hC.putO hd' arep_undef)

/-! ### the rule -/
def ApartP (ps : List (Option Tmp × A)) : Prop := ps.Pairwise fun p q => ∀ t, p.1 = some t → q.1 ≠ some t
theorem ApartP.apart {ps : List (Option Tmp × A)} (h : ApartP ps) : Apart ps := by
  intro i j p q t hi hj hp hq
  have hi' := (List.getElem?_eq_some_iff.1 hi)
  have hj' := (List.getElem?_eq_some_iff.1 hj)
  obtain ⟨li, rfl⟩ := hi'
  obtain ⟨lj, rfl⟩ := hj'
  rcases Nat.lt_trichotomy i j with hlt | heq | hgt
  · exact absurd hq (List.pairwise_iff_getElem.1 h i j li lj hlt t hp)
  · exact heq
  · exact absurd hp (List.pairwise_iff_getElem.1 h j i lj li hgt t hq)

def sel (L : Nat → Bool) (ps : List (Option Tmp × A)) : List (Option Tmp × A) := (ps.zipIdx.filter fun p => L p.2).map (·.1)
theorem mem_sel {L : Nat → Bool} {ps : List (Option Tmp × A)} {p : Option Tmp × A} : p ∈ sel L ps ↔ ∃ i, L i = true ∧ ps[i]? = some p := by
  unfold sel
  simp only [List.mem_map, List.mem_filter]
  constructor
  · rintro ⟨⟨q, i⟩, ⟨h1, h2⟩, rfl⟩
    exact ⟨i, h2, by simpa using List.mem_zipIdx_iff_getElem?.1 h1⟩
  · rintro ⟨i, h1, h2⟩
    exact ⟨(p, i), ⟨List.mem_zipIdx_iff_getElem?.2 (by simpa using h2), h1⟩, rfl⟩
theorem sel_apart {L : Nat → Bool} {ps : List (Option Tmp × A)} (h : ApartP ps) : ApartP (sel L ps) := by
  refine List.Pairwise.sublist ?_ h
  have h1 : (ps.zipIdx.filter fun p => L p.2).Sublist ps.zipIdx := List.filter_sublist
  have h2 := h1.map (fun p : (Option Tmp × A) × Nat => p.1)
  have h3 : ps.zipIdx.map (fun p : (Option Tmp × A) × Nat => p.1) = ps := by simp
  rw [h3] at h2
  exact h2

theorem mem_ready {ops : Array Oper} {listed : Array Bool} (hsz : listed.size = ops.size) {i : Nat} : i ∈ Region.ready .any ops listed ↔ i < ops.size ∧ listed.getD i false = false ∧ ∀ j ∈ direct ops i, listed.getD j false = true := by
  unfold Region.ready
  simp only [List.mem_filter, List.mem_range, Bool.and_eq_true, Bool.not_eq_true']
  constructor
  · rintro ⟨h1, h2, h3⟩
    have hs : ops[i]? = some ops[i] := Array.getElem?_eq_getElem h1
    rw [hs] at h3
    simp only [Option.map_some, Option.getD_some, Array.all_eq_true, Bool.or_eq_true, Bool.not_eq_true'] at h3
    refine ⟨h1, ?_, fun j hj => ?_⟩
    · simp only [Array.getD_eq_getD_getElem?] at h2 ⊢
      have : i < listed.size := by omega
      rw [Array.getElem?_eq_getElem this] at h2 ⊢
      simpa using h2
    · simp only [direct, hs, List.mem_map, List.mem_filter] at hj
      obtain ⟨e, ⟨h4, h5⟩, rfl⟩ := hj
      obtain ⟨k, hk, rfl⟩ := List.mem_iff_getElem.1 h4
      have := h3 k (by simpa using hk)
      simp only [Array.getElem_toList] at h5
      rw [h5] at this
      simpa using this
  · rintro ⟨h1, h2, h3⟩
    have hs : ops[i]? = some ops[i] := Array.getElem?_eq_getElem h1
    refine ⟨h1, ?_, ?_⟩
    · simp only [Array.getD_eq_getD_getElem?] at h2 ⊢
      have : i < listed.size := by omega
      rw [Array.getElem?_eq_getElem this] at h2 ⊢
      simpa using h2
    · rw [hs]
      simp only [Option.map_some, Option.getD_some, Array.all_eq_true, Bool.or_eq_true, Bool.not_eq_true']
      intro k hk
      cases hb : Region.binds .any ops[i].after[k] with
      | false => exact .inl rfl
      | true =>
        refine .inr (h3 _ ?_)
        simp only [direct, hs, List.mem_map, List.mem_filter]
        exact ⟨_, ⟨by simp, hb⟩, rfl⟩

theorem getD_setB (listed : Array Bool) {i : Nat} (hi : i < listed.size) (j : Nat) : (listed.setIfInBounds i true).getD j false = if j = i then true else listed.getD j false := by
  simp only [Array.getD_eq_getD_getElem?]
  by_cases h : j = i
  · subst h
    simp [hi]
  · rw [if_neg h, Array.getElem?_setIfInBounds_ne (fun e => h e.symm)]

structure DrawFacts (ops : Array Oper) (na dep : Nat) : Prop where
  le : na ≤ ops.size
  back : ∀ i, i < ops.size → ∀ j ∈ direct ops i, j < i
  apart : ∀ i j, i < na → j < na → i ≠ j → ∀ t, dstAt ops i = some t → dstAt ops j ≠ some t
  reads : ∀ i j t, i < na → j < na → i ≠ j → dstAt ops j = some t → t ∈ looksAt ops i → (j < i → j ∈ clo ops dep i) ∧ (i < j → i ∈ clo ops dep j)
  tail : ∀ i j, na ≤ i → i < ops.size → j < i → j ∈ clo ops dep i

theorem drawFacts {ops : Array Oper} {na dep : Nat} (h : drawOk ops na dep = true) : DrawFacts ops na dep := by
  unfold drawOk at h
  simp only [Bool.and_eq_true, decide_eq_true_eq, List.all_eq_true, List.mem_range] at h
  obtain ⟨h0, h⟩ := h
  refine ⟨h0, fun i hi j hj => (h i hi).1 j hj, fun i j hi hj hne t hti htj => ?_, fun i j t hi hj hne ht hl => ?_, fun i j hi hin hj => ?_⟩
  · have h1 := (h i (by omega)).2
    rw [if_pos hi] at h1
    simp only [List.all_eq_true, List.mem_range] at h1
    have h2 := h1 j hj
    simp only [Bool.or_eq_true, beq_iff_eq, Bool.and_eq_true] at h2
    rcases h2 with h2 | ⟨h2, _⟩
    · exact hne h2
    · rw [hti, htj] at h2
      simp at h2
  · have h1 := (h i (by omega)).2
    rw [if_pos hi] at h1
    simp only [List.all_eq_true, List.mem_range] at h1
    have h2 := h1 j hj
    simp only [Bool.or_eq_true, beq_iff_eq, Bool.and_eq_true] at h2
    rcases h2 with h2 | ⟨_, h2⟩
    · exact absurd h2 hne
    · rw [ht] at h2
      have hl' : (looksAt ops i).elem t = true := by simpa using hl
      simp only [hl', Bool.not_true, Bool.false_or] at h2
      constructor
      · intro hlt
        rw [if_pos hlt] at h2
        simpa using h2
      · intro hlt
        rw [if_neg (by omega)] at h2
        simpa using h2
  · have h1 := (h i hin).2
    rw [if_neg (by omega)] at h1
    simp only [List.all_eq_true, List.mem_range] at h1
    simpa using h1 j hj

theorem draw_tail (hT : TabOk P T) {ops : Array Oper} {na dep : Nat} (F : DrawFacts ops na dep) {K : St → Prop} {Q : Exit → Act → World → Prop} (hQ : ∀ s a w, K s → Conc P w0 m0 F0 s a w → Q .normal a w) :
    ∀ (fuel k : Nat) (listed : Array Bool) (s : St) (a : Act) (w : World), na ≤ k → k + fuel = ops.size → listed.size = ops.size → (∀ i, i < ops.size → (listed.getD i false = true ↔ i < k)) →
      VOps P T ops (ops.toList.drop k) s K → Conc P w0 m0 F0 s a w → wpAny P .any ops Q fuel listed a w
  | 0, k, listed, s, a, w, hk, hf, hsz, hl, hV, hC => by
    have hd : ops.toList.drop k = [] := by apply List.drop_eq_nil_of_le; simp; omega
    rw [hd] at hV
    refine ⟨?_, hQ s a w hV hC⟩
    apply List.eq_nil_iff_forall_not_mem.2
    intro i hi
    obtain ⟨h1, h2, _⟩ := (mem_ready hsz).1 hi
    rw [(hl i h1).2 (by omega)] at h2
    cases h2
  | fuel + 1, k, listed, s, a, w, hk, hf, hsz, hl, hV, hC => by
    have hkn : k < ops.size := by omega
    have hready : ∀ i, i ∈ Region.ready .any ops listed ↔ i = k := by
      intro i
      rw [mem_ready hsz]
      constructor
      · rintro ⟨h1, h2, h3⟩
        have hge : ¬ i < k := fun hlt => by rw [(hl i h1).2 hlt] at h2; cases h2
        rcases Nat.lt_or_ge k i with hgt | hle
        · have hcl := clo_listed (ops := ops) (listed := fun j => listed.getD j false = true) (fun j hj j' hj' => by
            have hjn : j < ops.size := by
              rcases Nat.lt_or_ge j ops.size with h | h
              · exact h
              · rw [Array.getD_eq_getD_getElem?, Array.getElem?_eq_none (by omega)] at hj; cases hj
            have hb := F.back j hjn j' hj'
            exact (hl j' (by omega)).2 (by have := (hl j hjn).1 hj; omega)) dep i h3 k (F.tail i k (by omega) h1 hgt)
          have := (hl k hkn).1 hcl
          omega
        · omega
      · rintro rfl
        refine ⟨hkn, ?_, fun j hj => (hl j (by have := F.back i hkn j hj; omega)).2 (F.back i hkn j hj)⟩
        cases hb : listed.getD i false with
        | false => rfl
        | true => have := (hl i hkn).1 hb; omega
    refine ⟨fun hn => ?_, fun i hi => ?_⟩
    · have := (hready k).2 rfl
      rw [hn] at this
      cases this
    · have hik := (hready i).1 hi
      subst hik
      have ho : ops[i]? = some ops[i] := Array.getElem?_eq_getElem hkn
      have hdrop : ops.toList.drop i = ops[i] :: ops.toList.drop (i + 1) := by
        rw [List.drop_eq_getElem_cons (by simpa using hkn)]
        simp
      rw [hdrop] at hV
      have next : ∀ s' a' w', VOps P T ops (ops.toList.drop (i + 1)) s' K → Conc P w0 m0 F0 s' a' w' → wpAny P .any ops Q fuel (listed.setIfInBounds i true) a' w' := fun s' a' w' h1 h2 =>
        draw_tail hT F hQ fuel (i + 1) _ s' a' w' (by omega) (by omega) (by simpa using hsz) (fun j hj => by
          rw [getD_setB listed (by omega)]
          by_cases hji : j = i
          · simp [hji]
          · rw [if_neg hji, hl j hj]
            omega) h1 h2
      obtain ⟨m, ω, h⟩ := hC
      simp only [wpOp, ho]
      simp only [VOps] at hV
      split at hV
      · rename_i hg
        rw [if_pos (guardOf_sound h hg)]
        exact .inl (VOp_sound hT hV h _ _ fun s' a' w' hK hc => next s' a' w' hK hc)
      · rename_i hg
        rw [if_neg (by rw [guardOf_sound h hg]; simp)]
        obtain ⟨h1, h2⟩ := pk_elim hV
        exact next _ _ w h2 ⟨m, ω, h.putO h1 arep_undef⟩
      · cases hV

theorem draw_head (hT : TabOk P T) {ops : Array Oper} {na dep : Nat} (F : DrawFacts ops na dep) {K : St → Prop} {Q : Exit → Act → World → Prop} (hQ : ∀ s a w, K s → Conc P w0 m0 F0 s a w → Q .normal a w) {s : St} {ps : List (Option Tmp × A)}
    (hlen : ps.length = na) (hstep : ∀ i, i < na → ∃ o x, ops[i]? = some o ∧ ps[i]? = some (o.dst, x) ∧ StepOK P T ops (puts s (ps.take i)) o x) (hV : VOps P T ops (ops.toList.drop na) (puts s ps) K) :
    ∀ (fuel : Nat) (listed : Array Bool) (a : Act) (w : World) (c : Nat), c + fuel = ops.size → listed.size = ops.size → ((List.range ops.size).filter fun i => listed.getD i false).length = c →
      (∀ i, i < ops.size → listed.getD i false = true → ∀ j ∈ direct ops i, listed.getD j false = true) → (∀ i, na ≤ i → i < ops.size → listed.getD i false = false) →
      (∃ m ω, CI P w0 m0 F0 (puts s (sel (fun i => listed.getD i false) ps)) a w m ω) → wpAny P .any ops Q fuel listed a w := by
  have hapart : ApartP ps := by
    refine List.pairwise_iff_getElem.2 fun i j hi hj hij t hp => ?_
    obtain ⟨o, x, h1, h2, _⟩ := hstep i (by omega)
    obtain ⟨o', x', h1', h2', _⟩ := hstep j (by omega)
    rw [List.getElem?_eq_getElem hi] at h2
    rw [List.getElem?_eq_getElem hj] at h2'
    injection h2 with h2
    injection h2' with h2'
    rw [h2] at hp
    rw [h2']
    have hp' : o.dst = some t := hp
    have h4 := F.apart i j (by omega) (by omega) (by omega) t (by simp [dstAt, h1, hp'])
    simpa [dstAt, h1'] using h4
  have hdst : ∀ j p, ps[j]? = some p → j < na ∧ dstAt ops j = p.1 := by
    intro j p hp
    have hj : j < na := by rw [← hlen]; exact (List.getElem?_eq_some_iff.1 hp).1
    obtain ⟨o, x, h1, h2, _⟩ := hstep j hj
    rw [hp] at h2
    injection h2 with h2
    exact ⟨hj, by simp [dstAt, h1, h2]⟩
  intro fuel
  induction fuel with
  | zero =>
    intro listed a w c hc hsz hcnt hcl htl hC
    -- all are listed, the head too: then na = size
    have hall : ∀ i, i < ops.size → listed.getD i false = true := by
      intro i hi
      have h1 : ((List.range ops.size).filter fun i => listed.getD i false).length = (List.range ops.size).length := by rw [hcnt, List.length_range]; omega
      have h2 := List.length_filter_eq_length_iff.1 h1
      exact h2 i (by simpa using hi)
    have hna : na = ops.size := by
      rcases Nat.lt_or_ge na ops.size with h | h
      · have := htl na (Nat.le_refl _) h
        rw [hall na h] at this
        cases this
      · have := F.le; omega
    obtain ⟨m, ω, h⟩ := hC
    have hA : CI P w0 m0 F0 (puts s ps) a w m ω := by
      refine h.ext (by rw [puts_n, puts_n]) (fun t => ?_) (by rw [puts_box, puts_box]) (by rw [puts_row, puts_row])
      apply Option.ext
      intro x
      rw [look_puts _ _ hapart.apart, look_puts _ _ (sel_apart hapart).apart]
      have hmem : ∀ p, p ∈ ps ↔ p ∈ sel (fun i => listed.getD i false) ps := by
        intro p
        rw [mem_sel]
        constructor
        · intro hp
          obtain ⟨i, hi, rfl⟩ := List.mem_iff_getElem.1 hp
          exact ⟨i, hall i (by omega), List.getElem?_eq_getElem hi⟩
        · rintro ⟨i, _, hi⟩
          exact List.mem_of_getElem? hi
      simp only [hmem]
    exact draw_tail hT F hQ 0 na listed (puts s ps) a w (Nat.le_refl _) (by omega) hsz (fun i hi => ⟨fun _ => by omega, fun _ => hall i hi⟩) hV ⟨m, ω, hA⟩
  | succ fuel ih =>
    intro listed a w c hc hsz hcnt hcl htl hC
    by_cases hdone : ∀ i, i < na → listed.getD i false = true
    · -- the head is through
      obtain ⟨m, ω, h⟩ := hC
      have hA : CI P w0 m0 F0 (puts s ps) a w m ω := by
        refine h.ext (by rw [puts_n, puts_n]) (fun t => ?_) (by rw [puts_box, puts_box]) (by rw [puts_row, puts_row])
        apply Option.ext
        intro x
        rw [look_puts _ _ hapart.apart, look_puts _ _ (sel_apart hapart).apart]
        have hmem : ∀ p, p ∈ ps ↔ p ∈ sel (fun i => listed.getD i false) ps := by
          intro p
          rw [mem_sel]
          constructor
          · intro hp
            obtain ⟨i, hi, rfl⟩ := List.mem_iff_getElem.1 hp
            exact ⟨i, hdone i (by omega), List.getElem?_eq_getElem hi⟩
          · rintro ⟨i, _, hi⟩
            exact List.mem_of_getElem? hi
        simp only [hmem]
      have hcna : c = na := by
        rw [← hcnt]
        have h1 : ((List.range ops.size).filter fun i => listed.getD i false) = (List.range ops.size).filter fun i => decide (i < na) := by
          apply List.filter_congr
          intro i hi
          have hi : i < ops.size := by simpa using hi
          by_cases hlt : i < na
          · rw [hdone i hlt]; simp [hlt]
          · rw [htl i (by omega) hi]; simp [hlt]
        rw [h1]
        have h2 : ∀ n, na ≤ n → ((List.range n).filter fun i => decide (i < na)).length = na := by
          intro n hn
          induction n with
          | zero => simp; omega
          | succ n ihn =>
            rw [List.range_succ, List.filter_append, List.length_append]
            rcases Nat.lt_or_ge n na with h | h
            · have hna : na = n + 1 := by omega
              have : ((List.range n).filter fun i => decide (i < na)) = List.range n := by
                apply List.filter_eq_self.2
                intro i hi
                have : i < n := by simpa using hi
                simp; omega
              rw [this]
              simp [h]
              omega
            · rw [ihn h]
              simp [show ¬ n < na from by omega]
        exact h2 _ F.le
      exact draw_tail hT F hQ (fuel + 1) na listed (puts s ps) a w (Nat.le_refl _) (by omega) hsz (fun i hi => ⟨(fun hl => by
        rcases Nat.lt_or_ge i na with h | h
        · exact h
        · rw [htl i h hi] at hl
          cases hl), fun hlt => hdone i hlt⟩) hV ⟨m, ω, hA⟩
    · -- something of the head is not listed
      have hex : ∃ i, i < na ∧ listed.getD i false = false := by
        apply Classical.byContradiction
        intro hn
        apply hdone
        intro i hi
        cases hb : listed.getD i false with
        | true => rfl
        | false => exact absurd ⟨i, hi, hb⟩ hn
      refine ⟨fun hn => ?_, fun i hi => ?_⟩
      · exfalso
        -- the least one is ready
        obtain ⟨i, h1, h2⟩ := hex
        have key : ∀ n i, i ≤ n → i < na → listed.getD i false = false → ∃ k, k ∈ Region.ready .any ops listed := by
          intro n
          induction n with
          | zero =>
            intro i hi hina hb
            have : i = 0 := by omega
            subst this
            refine ⟨0, (mem_ready hsz).2 ⟨by have := F.le; omega, hb, fun j hj => ?_⟩⟩
            have := F.back 0 (by have := F.le; omega) j hj
            omega
          | succ n ihn =>
            intro i hi hina hb
            by_cases hall : ∀ j ∈ direct ops i, listed.getD j false = true
            · exact ⟨i, (mem_ready hsz).2 ⟨by have := F.le; omega, hb, hall⟩⟩
            · have : ∃ j, j ∈ direct ops i ∧ listed.getD j false = false := by
                apply Classical.byContradiction
                intro hn
                apply hall
                intro j hj
                cases hb : listed.getD j false with
                | true => rfl
                | false => exact absurd ⟨j, hj, hb⟩ hn
              obtain ⟨j, hj, hjb⟩ := this
              have := F.back i (by have := F.le; omega) j hj
              exact ihn j (by omega) (by omega) hjb
        obtain ⟨k, hk⟩ := key i i (Nat.le_refl _) h1 h2
        rw [hn] at hk
        cases hk
      · obtain ⟨h1, h2, h3⟩ := (mem_ready hsz).1 hi
        have hcl' : ∀ j ∈ clo ops dep i, listed.getD j false = true := clo_listed (ops := ops) (listed := fun j => listed.getD j false = true) (fun j hj j' hj' => by
          have hjn : j < ops.size := by
            rcases Nat.lt_or_ge j ops.size with h | h
            · exact h
            · rw [Array.getD_eq_getD_getElem?, Array.getElem?_eq_none (by omega)] at hj; cases hj
          exact hcl j hjn hj j' hj') dep i h3
        have hina : i < na := by
          rcases Nat.lt_or_ge i na with h | h
          · exact h
          · obtain ⟨j, hj, hjb⟩ := hex
            have := hcl' j (F.tail i j h h1 (by omega))
            rw [hjb] at this
            cases this
        obtain ⟨o, x, ho, hp, hS⟩ := hstep i hina
        obtain ⟨m, ω, h⟩ := hC
        simp only [wpOp, ho]
        refine StepOK_sound hT hS (s := puts s (sel (fun i => listed.getD i false) ps)) (fun i x hx => by rw [puts_box] at hx ⊢; exact hx) (by rw [puts_row, puts_row]) (by rw [puts_n, puts_n]) (fun t ht => ?_) h (fun v w' m' hC' => ?_)
        · -- the same operands
          have htl' : t ∈ looksAt ops i := by simpa [looksAt, ho] using ht
          have happ : Apart (ps.take i) := by
            refine ApartP.apart ?_
            exact List.Pairwise.sublist (List.take_sublist i ps) hapart
          apply Option.ext
          intro y
          rw [look_puts _ _ happ, look_puts _ _ (sel_apart hapart).apart]
          have hmem : ∀ y, (some t, y) ∈ ps.take i ↔ (some t, y) ∈ sel (fun i => listed.getD i false) ps := by
            intro y
            rw [mem_sel]
            constructor
            · intro hm
              obtain ⟨j, hj, he⟩ := List.mem_iff_getElem.1 hm
              have hjl : j < i := by simp at hj; omega
              have hpj : ps[j]? = some (some t, y) := by
                have := List.getElem?_eq_getElem hj
                rw [he, List.getElem?_take, if_pos hjl] at this
                exact this
              obtain ⟨hjna, hjd⟩ := hdst j _ hpj
              exact ⟨j, hcl' j ((F.reads i j t hina hjna (by omega) hjd htl').1 hjl), hpj⟩
            · rintro ⟨j, hjb, hpj⟩
              obtain ⟨hjna, hjd⟩ := hdst j _ hpj
              have hji : j ≠ i := fun e => by rw [e, h2] at hjb; cases hjb
              rcases Nat.lt_or_ge j i with hlt | hge
              · refine List.mem_of_getElem? (i := j) ?_
                rw [List.getElem?_take, if_pos hlt]
                exact hpj
              · have hm := (F.reads i j t hina hjna (fun e => hji e.symm) hjd htl').2 (by omega)
                have hb := clo_listed (ops := ops) (listed := fun j => listed.getD j false = true) (fun j hj j' hj' => by
                  have hjn : j < ops.size := by
                    rcases Nat.lt_or_ge j ops.size with h | h
                    · exact h
                    · rw [Array.getD_eq_getD_getElem?, Array.getElem?_eq_none (by omega)] at hj; cases hj
                  exact hcl j hjn hj j' hj') dep j (fun j' hj' => hcl j (by have := F.le; omega) hjb j' hj') i hm
                rw [h2] at hb
                cases hb
          have hall : (∀ p ∈ ps.take i, p.1 ≠ some t) ↔ (∀ p ∈ sel (fun i => listed.getD i false) ps, p.1 ≠ some t) := by
            constructor
            · intro hh p hp' he
              obtain ⟨p1, p2⟩ := p
              simp only at he
              subst he
              exact hh _ ((hmem p2).2 hp') rfl
            · intro hh p hp' he
              obtain ⟨p1, p2⟩ := p
              simp only at he
              subst he
              exact hh _ ((hmem p2).1 hp') rfl
          rw [hmem y, hall]
        · refine ih (listed.setIfInBounds i true) _ w' (c + 1) (by omega) (by simpa using hsz) ?_ ?_ ?_ ?_
          · rw [← hcnt]
            have h4 : ∀ n, i < n → ((List.range n).filter fun j => (listed.setIfInBounds i true).getD j false).length = ((List.range n).filter fun j => listed.getD j false).length + 1 := by
              intro n hn
              induction n with
              | zero => omega
              | succ n ihn =>
                rw [List.range_succ, List.filter_append, List.filter_append, List.length_append, List.length_append]
                rcases Nat.lt_or_ge i n with hlt | hge
                · rw [ihn hlt]
                  have : ([n].filter fun j => (listed.setIfInBounds i true).getD j false) = [n].filter fun j => listed.getD j false := by
                    apply List.filter_congr
                    intro j hj
                    have : j = n := by simpa using hj
                    rw [getD_setB listed (by omega), if_neg (by omega)]
                  rw [this]
                  omega
                · have hin : i = n := by omega
                  subst hin
                  have e1 : ((List.range i).filter fun j => (listed.setIfInBounds i true).getD j false) = (List.range i).filter fun j => listed.getD j false := by
                    apply List.filter_congr
                    intro j hj
                    have : j < i := by simpa using hj
                    rw [getD_setB listed (by omega), if_neg (by omega)]
                  have e2 : ([i].filter fun j => (listed.setIfInBounds i true).getD j false).length = 1 := by
                    have : (listed.setIfInBounds i true).getD i false = true := by rw [getD_setB listed (by omega), if_pos rfl]
                    simp only [List.filter_cons, this, if_true, List.filter_nil, List.length_cons, List.length_nil]
                  have e3 : ([i].filter fun j => listed.getD j false).length = 0 := by
                    simp only [List.filter_cons, h2, Bool.false_eq_true, if_false, List.filter_nil, List.length_nil]
                  rw [e1, e2, e3]
            exact h4 _ h1
          · intro j hj hb k hk
            rw [getD_setB listed (by omega)] at hb ⊢
            by_cases hki : k = i
            · rw [if_pos hki]
            · rw [if_neg hki]
              by_cases hji : j = i
              · subst hji; exact h3 k hk
              · rw [if_neg hji] at hb; exact hcl j hj hb k hk
          · intro j hj hjn
            rw [getD_setB listed (by omega), if_neg (by omega)]
            exact htl j hj hjn
          · refine ⟨m', ω, hC'.ext (by rw [puts_n, putO_n, puts_n]) (fun t => ?_) (by rw [puts_box, putO_box, puts_box]) (by rw [puts_row, putO_row, puts_row])⟩
            apply Option.ext
            intro y
            rw [look_puts _ _ (sel_apart hapart).apart]
            have hput : look ((puts s (sel (fun i => listed.getD i false) ps)).putO o.dst x).env t = if o.dst = some t then some x else look (puts s (sel (fun i => listed.getD i false) ps)).env t := by
              unfold St.putO
              cases hd : o.dst with
              | none => simp
              | some d => simp only [St.put, look, Option.some.injEq]
            rw [hput]
            have hmem : ∀ p, p ∈ sel (fun j => (listed.setIfInBounds i true).getD j false) ps ↔ p = (o.dst, x) ∨ p ∈ sel (fun j => listed.getD j false) ps := by
              intro p
              simp only [mem_sel]
              constructor
              · rintro ⟨j, hb, hj⟩
                rw [getD_setB listed (by omega)] at hb
                by_cases hji : j = i
                · subst hji
                  rw [hp] at hj
                  injection hj with hj
                  exact .inl hj.symm
                · rw [if_neg hji] at hb
                  exact .inr ⟨j, hb, hj⟩
              · rintro (rfl | ⟨j, hb, hj⟩)
                · exact ⟨i, by rw [getD_setB listed (by omega), if_pos rfl], hp⟩
                · refine ⟨j, ?_, hj⟩
                  rw [getD_setB listed (by omega)]
                  split
                  · rfl
                  · exact hb
            by_cases hd : o.dst = some t
            · rw [if_pos hd]
              have hno : ∀ p ∈ sel (fun j => listed.getD j false) ps, p.1 ≠ some t := by
                intro p hp' he
                obtain ⟨j, hb, hj⟩ := mem_sel.1 hp'
                have := hapart.apart i j _ _ t hp hj hd he
                subst this
                rw [h2] at hb
                cases hb
              simp only [hmem]
              constructor
              · rintro (h5 | ⟨h5, _⟩)
                · rcases h5 with h5 | h5
                  · injection h5 with _ h5; rw [h5]
                  · exact absurd rfl (hno _ h5)
                · exact absurd hd (h5 _ (.inl rfl))
              · intro h5
                injection h5 with h5
                exact .inl (.inl (by rw [hd, h5]))
            · rw [if_neg hd, look_puts _ _ (sel_apart hapart).apart]
              simp only [hmem]
              constructor
              · rintro (h5 | ⟨h5, h6⟩)
                · rcases h5 with h5 | h5
                  · injection h5 with h5 _; exact absurd h5.symm hd
                  · exact .inl h5
                · exact .inr ⟨fun p hp' => h5 p (.inr hp'), h6⟩
              · rintro (h5 | ⟨h5, h6⟩)
                · exact .inl (.inr h5)
                · refine .inr ⟨fun p hp' => ?_, h6⟩
                  rcases hp' with rfl | hp'
                  · exact hd
                  · exact h5 p hp'

theorem AWP.draw0 (hT : TabOk P T) (hm : P.follows .mixedOrders = true) {Q : Exit → St → Prop} {id : Nat} {ops : Array Oper} {l : List Oper} (na dep : Nat) (hl : ops.toList = l) (hchk : drawOk ops na dep = true)
    (h : VHead P T ops (l.take na) s fun s' => VOps P T ops (l.drop na) s' (Q .normal)) : AWP P w0 m0 F0 (.region id ops true) Q s := by
  intro a w hc
  have F := drawFacts hchk
  obtain ⟨ps, h1, h2, h3⟩ := VHead_chain _ _ h
  have hlen : ps.length = na := by
    rw [h1, ← hl, List.length_take, Array.length_toList]
    have := F.le
    omega
  obtain ⟨m, ω, hC⟩ := hc
  refine wp_region_any hm ?_
  have hg0 : ∀ i, (Array.replicate ops.size false).getD i false = false := fun i => by
    rw [Array.getD_eq_getD_getElem?, Array.getElem?_replicate]
    split <;> rfl
  refine draw_head hT F (K := Q .normal) (Q := PostQ P w0 m0 F0 Q) (s := s) (ps := ps) (fun s a w h1 h2 => ⟨s, h1, h2⟩) hlen (fun i hi => ?_) (by rw [hl]; exact h2) ops.size _ a _ 0 (by omega) (by simp) ?_ ?_ ?_ ?_
  · have hin : i < ops.size := by have := F.le; omega
    have ho : ops[i]? = some ops[i] := Array.getElem?_eq_getElem hin
    obtain ⟨x, h4, h5⟩ := h3 i ops[i] (by rw [← hl, List.getElem?_take, if_pos hi, Array.getElem?_toList]; exact ho)
    exact ⟨ops[i], x, ho, h4, h5⟩
  · rw [List.filter_eq_nil_iff.2 (fun i _ => by rw [hg0]; simp)]
    rfl
  · intro i _ hb
    rw [hg0] at hb
    cases hb
  · intro i _ _
    exact hg0 i
  · have : sel (fun i => (Array.replicate ops.size false).getD i false) ps = [] := by
      unfold sel
      simp only [hg0]
      simp
    rw [this]
    exact ⟨m, ω, hC.draw⟩
/-- The same, what follows kept out of sight. -/
theorem AWP.draw (hT : TabOk P T) (hm : P.follows .mixedOrders = true) {Q : Exit → St → Prop} {id : Nat} {ops : Array Oper} {l l1 l2 : List Oper} (na dep : Nat) (hl : ops.toList = l) (hchk : drawOk ops na dep = true) (h1 : l.take na = l1) (h2 : l.drop na = l2)
    (h : ∀ K : St → Prop, (∀ s', Q .normal s' → K s') → VHead P T ops l1 s fun s' => VOps P T ops l2 s' K) : AWP P w0 m0 F0 (.region id ops true) Q s :=
  AWP.draw0 hT hm na dep hl hchk (by rw [h1, h2]; exact h _ fun _ h => h)
end
end Go.Bw
