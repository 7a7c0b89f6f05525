/-
  THE LAYER, 3: the types' table; the operations that only compute (and may make a new row): what they give, and that they give it.
-/
import Derived.Test.YtinlgpgdinnefaaB2
import Derived.Laws.Entries
import Derived.WalkKit
set_option linter.unusedSimpArgs false
set_option linter.unusedVariables false
namespace Go.Bw
open Go.RowKit

/-- What is wanted of a type. -/
structure TI where
  size : Nat
  bytes : Nat
  agg : Bool
  elem : Option TypeId
  fields : Option (List (Nat × TypeId))
  isStr : Bool
  zero : Option (List L)

def L.plainOf : Value → L → Bool
  | .int k n, .int k' n' => k == k' && n == n'
  | .bool b, .bool b' => b == b'
  | .string s, .str s' => s.data.toList == s'.data.toList
  | .slice none 0 0, .nil _ => true
  | _, _ => false
def matchAll : List Value → List L → Bool
  | [], [] => true
  | v :: vs, l :: ls => L.plainOf v l && matchAll vs ls
  | _, _ => false

theorem rep_of_plain {m : Mem} {v : Value} {l : L} (h : L.plainOf v l = true) : Rep m v l := by
  unfold L.plainOf at h
  split at h
  · simp only [Bool.and_eq_true, beq_iff_eq] at h
    obtain ⟨rfl, rfl⟩ := h
    exact .int _ _
  · simp only [beq_iff_eq] at h; subst h; exact .bool _
  · rename_i s s'
    have : s = s' := by
      obtain ⟨d⟩ := s; obtain ⟨d'⟩ := s'
      have : d.toList = d'.toList := by simpa using h
      rw [Array.toList_inj.1 this]
    subst this; exact .str _
  · exact .nil _
  · cases h
theorem matchAll_rep {m : Mem} : ∀ (vs : List Value) (ls : List L), matchAll vs ls = true → vs.length = ls.length ∧ ∀ (j : Nat) (l : L), ls[j]? = some l → ∃ v, vs[j]? = some v ∧ Rep m v l
  | [], [], _ => ⟨rfl, fun j l h => by simp at h⟩
  | [], _ :: _, h => by simp [matchAll] at h
  | _ :: _, [], h => by simp [matchAll] at h
  | v :: vs, l :: ls, h => by
    simp only [matchAll, Bool.and_eq_true] at h
    obtain ⟨h1, h2⟩ := matchAll_rep (m := m) vs ls h.2
    refine ⟨by simp [h1], fun j l' hj => ?_⟩
    cases j with
    | zero => simp only [List.getElem?_cons_zero, Option.some.injEq] at hj; subst hj; exact ⟨v, rfl, rep_of_plain h.1⟩
    | succ j => exact h2 j l' (by simpa using hj)

def isAggD : TypeDesc → Bool
  | .struct _ | .array _ _ => true
  | _ => false
def isAggV : Value → Bool
  | .agg _ => true
  | _ => false

def tiOk (P : Program) (t : TypeId) (i : TI) : Bool :=
  match P.info? t, P.underlying t with
  | some inf, some d =>
    inf.size == i.size && inf.bytes == i.bytes &&
    isAggD d == i.agg &&
    (match d with | .string => true | _ => false) == i.isStr &&
    (match i.elem, d with | some e, .slice e' => e == e' | some _, _ => false | none, .slice _ => false | none, _ => true) &&
    (match i.fields, d with | some l, .struct fs => fs.toList.map (fun f => (f.offset, f.type)) == l && fs.toList.all (fun f => (P.info? f.type).any (·.size != 0)) | some _, _ => false | none, .struct _ => false | none, _ => true) &&
    (match i.zero with | none => true | some ls => match inf.zero with | some z => matchAll z.cells.toList ls && isAggV z == i.agg | none => false)
  | _, _ => false

def TabOk (P : Program) (T : TypeId → Option TI) : Prop := ∀ t i, T t = some i → tiOk P t i = true

structure TIFacts (P : Program) (t : TypeId) (i : TI) : Prop where
  info : ∃ inf, P.info? t = some inf ∧ inf.size = i.size ∧ inf.bytes = i.bytes
  agg : ∃ d, P.underlying t = some d ∧ isAggD d = i.agg
  elem : ∀ e, i.elem = some e → P.underlying t = some (.slice e)
  str : i.isStr = true → P.underlying t = some .string
  fields : ∀ l, i.fields = some l → ∃ fs : Array Field, P.underlying t = some (.struct fs) ∧ fs.toList.map (fun f => (f.offset, f.type)) = l ∧ ∀ f ∈ fs.toList, ∃ inf, P.info? f.type = some inf ∧ inf.size ≠ 0
  zero : ∀ ls, i.zero = some ls → ∃ inf z, P.info? t = some inf ∧ inf.zero = some z ∧ matchAll z.cells.toList ls = true ∧ isAggV z = i.agg

theorem tiFacts {P : Program} {t : TypeId} {i : TI} (h : tiOk P t i = true) : TIFacts P t i := by
  unfold tiOk at h
  split at h
  · rename_i inf d hinf hd
    simp only [Bool.and_eq_true, beq_iff_eq] at h
    obtain ⟨⟨⟨⟨⟨⟨h1, h2⟩, h3⟩, h4⟩, h5⟩, h6⟩, h7⟩ := h
    refine ⟨⟨inf, hinf, h1, h2⟩, ⟨d, hd, h3⟩, ?_, ?_, ?_, ?_⟩
    · intro e he
      rw [he] at h5
      split at h5
      · simp_all
      · cases h5
      · cases h5
      · simp_all
    · intro hs
      rw [hs] at h4
      split at h4
      · exact hd
      · cases h4
    · intro l hl
      rw [hl] at h6
      split at h6
      · rename_i l' fs heq1
        simp only [Option.some.injEq] at heq1
        subst heq1
        simp only [Bool.and_eq_true, beq_iff_eq, List.all_eq_true] at h6
        refine ⟨fs, hd, h6.1, fun f hf => ?_⟩
        have := h6.2 f hf
        cases hq : P.info? f.type with
        | none => rw [hq] at this; simp at this
        | some q => rw [hq] at this; exact ⟨q, rfl, by simpa using this⟩
      · cases h6
      all_goals simp_all
    · intro ls hls
      rw [hls] at h7
      simp only at h7
      split at h7
      · rename_i z hz
        simp only [Bool.and_eq_true, beq_iff_eq] at h7
        exact ⟨inf, z, hinf, hz, h7.1, h7.2⟩
      · cases h7
  · cases h

section
variable {P : Program} {w0 : World} {m0 : Mem} {s : St} {a : Act} {w : World} {m : Mem} {ω : Wh} {F0 : Home} {T : TypeId → Option TI}

def szOf (T : TypeId → Option TI) (t : TypeId) : Nat := match T t with | some i => (match i.elem with | some e => (match T e with | some j => j.size | none => 0) | none => 0) | none => 0

def constA (T : TypeId → Option TI) (ty : TypeId) : Value → Option A
  | .int k n => some (.v (.one (.int k n)))
  | .bool b => some (.v (.one (.bool b)))
  | .string s => some (.v (.one (.str s)))
  | .slice none 0 0 => some (.v (.one (.nil (szOf T ty))))
  | _ => none
def evalO (T : TypeId → Option TI) (s : St) (ty : TypeId) : Operand → Option A
  | .tmp t => look s.env t
  | .const c => constA T ty c
  | .func f => some (.v (.one (.clo f [])))
  | .global _ => none

theorem evalO_sound (h : CI P w0 m0 F0 s a w m ω) {ty : TypeId} {x : Operand} {y : A} (hy : evalO T s ty x = some y) : ARep m ω (a.eval x) y := by
  cases x with
  | tmp t => exact h.env t y hy
  | const c =>
    simp only [evalO] at hy
    unfold constA at hy
    split at hy <;> first | cases hy | skip
    · exact Rep.int _ _
    · exact Rep.bool _
    · exact Rep.str _
    · exact Rep.nil _
  | global g => cases hy
  | func f =>
    simp only [evalO, Option.some.injEq] at hy
    subst hy
    exact ⟨[], rfl, rfl, fun i u hu => by simp at hu⟩

/-! ### Reading cells -/
theorem add_add (x : Addr) (i j : Nat) : (x.add i).add j = x.add (i + j) := by
  unfold Addr.add
  by_cases hi : i = 0 <;> by_cases hj : j = 0 <;> simp [hi, hj, Nat.add_assoc]

theorem FRep.drop {ad : Addr} {ls : List L} (h : FRep m ad ls) (n : Nat) : FRep m (ad.add n) (ls.drop n) := fun j u hu => by
  rw [add_add]
  exact h (n + j) u (by simpa [List.getElem?_drop] using hu)
theorem FRep.take {ad : Addr} {ls : List L} (h : FRep m ad ls) (n : Nat) : FRep m ad (ls.take n) := fun j u hu => h j u (by
  rw [List.getElem?_take] at hu
  split at hu
  · exact hu
  · cases hu)

/-- n cells at an address, as values. -/
theorem cells_of_frep (hok : ∀ x v, m x = some v → w.cell? x = some v) {ad : Addr} {ls : List L} (h : FRep m ad ls) :
    ∃ cs : List Value, cs.length = ls.length ∧ (∀ (j : Nat) (v : Value), cs[j]? = some v → w.cell? (ad.add j) = some v) ∧ ∀ (j : Nat) (l : L), ls[j]? = some l → ∃ v, cs[j]? = some v ∧ Rep m v l := by
  have hex : ∀ j : Fin ls.length, ∃ v, m (ad.add j) = some v ∧ Rep m v ls[j] := fun j => h j ls[j] (List.getElem?_eq_getElem j.2)
  refine ⟨List.ofFn fun j => Classical.choose (hex j), by simp, fun j v hv => ?_, fun j l hl => ?_⟩
  · rw [List.getElem?_ofFn] at hv
    split at hv
    · rename_i hj
      injection hv with hv
      subst hv
      exact hok _ _ (Classical.choose_spec (hex ⟨j, hj⟩)).1
    · cases hv
  · obtain ⟨hj, rfl⟩ := List.getElem?_eq_some_iff.1 hl
    refine ⟨Classical.choose (hex ⟨j, hj⟩), ?_, (Classical.choose_spec (hex ⟨j, hj⟩)).2⟩
    rw [List.getElem?_ofFn, dif_pos hj]

theorem run_isAgg {t : TypeId} {d : TypeDesc} (hd : P.underlying t = some d) (w : World) : (isAgg t).run P w = .ok (isAggD d) w := by
  unfold isAgg
  simp only [Sem.run_bind, run_underlying hd, Result.andThen_ok]
  cases d <;> rfl

theorem run_sizeOf {t : TypeId} {inf : TypeInfo} (hi : P.info? t = some inf) (w : World) : (sizeOf t).run P w = .ok inf.size w := by
  simp [sizeOf, typeInfo, hi]

def asV (agg : Bool) (ls : List L) : Option V := if agg then some (.agg ls) else match ls with | [l] => some (.one l) | _ => none

/-- Cells at an address that are known as values are loaded. -/
theorem run_loadAt {t : TypeId} {i : TI} (hT : tiOk P t i = true) {ad : Addr} {cs : List Value} {ls : List L} (hl : cs.length = ls.length) (hs : ls.length = i.size)
    (hc : ∀ (j : Nat) (v : Value), cs[j]? = some v → w.cell? (ad.add j) = some v) (hr : ∀ (j : Nat) (l : L), ls[j]? = some l → ∃ v, cs[j]? = some v ∧ ERep m ω v l) {x : V} (hx : asV i.agg ls = some x) :
    ∃ v, (Instr.loadAt t (.pointer (some ad))).run P w = .ok v w ∧ VRep m ω v x := by
  have F := tiFacts hT
  obtain ⟨inf, hinf, hsz, _⟩ := F.info
  obtain ⟨d, hd, hag⟩ := F.agg
  by_cases hg : i.agg = true
  · rw [hg] at hx hag
    simp only [asV, if_true, Option.some.injEq] at hx
    subst hx
    refine ⟨.agg cs.toArray, ?_, ⟨cs.toArray, rfl, by simp [hl], fun j l hj => ?_⟩⟩
    · have hl' := run_loadCells_list (P := P) w ad cs hc
      rw [hl, hs, ← hsz] at hl'
      simp only [Instr.loadAt, Instr.sureAddr, loadVar, Sem.run_bind, Sem.run_pure, Result.andThen_ok, run_isAgg hd, hag, if_true, run_sizeOf hinf, hl']
    · obtain ⟨v, h1, h2⟩ := hr j l hj
      exact ⟨v, by simpa using h1, h2⟩
  · have hg' : i.agg = false := by simpa using hg
    rw [hg'] at hx hag
    simp only [asV, Bool.false_eq_true, if_false] at hx
    match ls, hx with
    | [l], hx =>
      simp only [Option.some.injEq] at hx
      subst hx
      obtain ⟨v, h1, h2⟩ := hr 0 l rfl
      refine ⟨v, ?_, h2⟩
      have h0 := hc 0 v h1
      simp only [Addr.add_zero'] at h0
      simp only [Instr.loadAt, Instr.sureAddr, loadVar, Sem.run_bind, Sem.run_pure, Result.andThen_ok, run_isAgg hd, hag, Bool.false_eq_true, if_false, load, Sem.run, h0]
end
end Go.Bw
