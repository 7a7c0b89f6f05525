/-
  THE LAYER, 12: contracts, and calls.
-/
import Derived.Test.YtinlgpgdinnefaaB11
set_option linter.unusedSimpArgs false
set_option linter.unusedVariables false
namespace Go.Bw
open Go.RowKit

section
variable {P : Program} {w0 : World} {m0 : Mem} {s s' : St} {a : Act} {w w' : World} {m m' : Mem} {ω ω' : Wh} {F0 : Home} {F : Nat → Prop} {T : TypeId → Option TI}

abbrev Boxes := List (Nat × List L)
abbrev Rows := List (Nat × RowC)
abbrev Ids := List (Nat × Nat)

def ArgsRep (m : Mem) (ω : Wh) (vs : List Value) (xs : List V) : Prop := vs.length = xs.length ∧ ∀ (i : Nat) (x : V), xs[i]? = some x → ∃ v, vs[i]? = some v ∧ VRep m ω v x

def CallsR (P : Program) (f : FuncId) (args : Array Value) (w : World) (R : Value → World → Prop) : Prop :=
  (∃ v w', (callFunc f args).run P w = .ok (.value v) w' ∧ R v w') ∨ ((callFunc f args).run P w = .ok (.enter f args) w ∧ Calls P f args w fun e w' => ∃ v, e = .returned v ∧ R v w')

def roots (bx : Boxes) (rw : Rows) : St := { n := 0, env := [], box := bx, row := rw }
def a0 : Act := { tmps := #[], defers := [] }
def Owned (s : St) (ω : Wh) (k : Nat) : Prop := ∃ κ id, s.live κ id ∧ ω.f κ id k
/-- The roots, as they are handed over. -/
noncomputable def handed (bx : Boxes) (rw : Rows) (ω : Wh) : Home where
  own := Owned (roots bx rw) ω
  box := fun id => if (look bx id).isSome then some (ω.box id) else none
  row := fun id => if (look rw id).isSome then some (ω.row id) else none

def Post (P : Program) (w : World) (m : Mem) (ω : Wh) (bx : Boxes) (rw : Rows) (r : A) (bx' : Boxes) (rw' : Rows) (v : Value) (w' : World) : Prop :=
  ∃ m' ω', CI P w m (handed bx rw ω) (roots bx' rw') a0 w' m' ω' ∧ ARep m' ω' v r

/-- Function f, called with values that read as xs over the boxes bx and the rows rw, returns what reads as r, and leaves the boxes bx' and the rows rw'. -/
structure SatM (P : Program) (f : FuncId) (xs : List V) (bx : Boxes) (rw : Rows) (r : A) (bx' : Boxes) (rw' : Rows) : Prop where
  call : ∀ (m : Mem) (w : World) (vs : List Value) (ω : Wh), CI P w m (handed bx rw ω) (roots bx rw) a0 w m ω → ArgsRep m ω vs xs → CallsR P f vs.toArray w (Post P w m ω bx rw r bx' rw')
def Sat (P : Program) (f : FuncId) (xs : List V) (r : A) : Prop := SatM P f xs [] [] r [] []

theorem gives_of_callsR {o : Oper} {f : FuncId} {args : Array Value} {R : Value → World → Prop} (hrun : (execOp a.eval o).run P w = (callFunc f args).run P w) (h : CallsR P f args w R) : Gives P o a w R := by
  rcases h with ⟨v, w', h1, h2⟩ | ⟨h1, h2⟩
  · exact gives_of_run (by rw [hrun, h1]) h2
  · intro next Q hn
    unfold Oper.wp
    rw [hrun, h1, Oper.upon_enter]
    refine h2.mono fun e w' he => ?_
    obtain ⟨v, rfl, hR⟩ := he
    exact hn v w' hR

/-! ### arguments -/
/-- A nil slice is an empty one. -/
def L.norm : L → L
  | .nil sz => .sl sz []
  | l => l
theorem norm_e {v : Value} {l : L} (h : ERep m ω v l) : ERep m ω v l.norm := by
  cases l with
  | nil sz =>
    have h : Rep m v (.nil sz) := h
    cases h
    exact Rep.slNil sz
  | _ => exact h
def argsOf (T : TypeId → Option TI) (s : St) : List Operand → List TypeId → Option (List V)
  | [], _ => some []
  | x :: xs, tys => match evalO T s (tys.headD 0) x, argsOf T s xs tys.tail with
    | some (.v y), some r => some (y.map L.norm :: r)
    | _, _ => none
theorem argsOf_sound (h : CI P w0 m0 F0 s a w m ω) : ∀ (l : List Operand) (tys : List TypeId) (xs : List V), argsOf T s l tys = some xs → ArgsRep m ω (l.map a.eval) xs
  | [], tys, xs, hx => by simp only [argsOf, Option.some.injEq] at hx; subst hx; exact ⟨rfl, fun i x h => by simp at h⟩
  | x :: l, tys, xs, hx => by
    simp only [argsOf] at hx
    split at hx
    · rename_i y r hy hr
      simp only [Option.some.injEq] at hx
      subst hx
      obtain ⟨h1, h2⟩ := argsOf_sound h l tys.tail r hr
      refine ⟨by simpa using h1, fun i x' hi => ?_⟩
      cases i with
      | zero =>
        simp only [List.getElem?_cons_zero, Option.some.injEq] at hi
        subst hi
        have hv : VRep m ω (a.eval x) y := evalO_sound h hy
        exact ⟨_, rfl, hv.map fun v l hl => norm_e hl⟩
      | succ i => simpa using h2 i x' (by simpa using hi)
    · cases hx

/-- Whom a call calls, and with what. -/
def callOf (T : TypeId → Option TI) (s : St) (c : Call) : Option (FuncId × List V) :=
  match c.callee with
  | .value g =>
    (match evalO T s 0 g with
     | some (.v (.one (.clo f caps))) => (match argsOf T s c.args.toList c.argTypes.toList with | some xs => some (f, xs ++ caps.map V.one) | none => none)
     | _ => none)
  | _ => none

theorem callOf_sound {o : Oper} {c : Call} {f : FuncId} {xs : List V} (ho : o.op = .call c) (h : CI P w0 m0 F0 s a w m ω) (hc : callOf T s c = some (f, xs)) : ∃ vs : List Value, (execOp a.eval o).run P w = (callFunc f vs.toArray).run P w ∧ ArgsRep m ω vs xs := by
  unfold callOf at hc
  split at hc
  · rename_i g hg
    split at hc
    · rename_i f' caps hf
      split at hc
      · rename_i ys hys
        simp only [Option.some.injEq, Prod.mk.injEq] at hc
        obtain ⟨rfl, rfl⟩ := hc
        obtain ⟨cs, h1, h2, h3⟩ := evalO_sound h hf
        have hA := argsOf_sound h _ _ _ hys
        refine ⟨(c.args.toList.map a.eval) ++ cs, ?_, by simp [hA.1, h2], fun i x hi => ?_⟩
        · unfold execOp
          simp only [ho, resolve, hg, h1, Deferred.ofValue, Sem.run_bind, Sem.run_pure, Result.andThen_ok, invoke]
          congr 2
          apply Array.ext'
          simp
        · by_cases hlt : i < ys.length
          · rw [List.getElem?_append_left hlt] at hi
            obtain ⟨v, h4, h5⟩ := hA.2 i x hi
            refine ⟨v, ?_, h5⟩
            rw [List.getElem?_append_left (by rw [hA.1]; exact hlt)]
            exact h4
          · rw [List.getElem?_append_right (by omega), List.getElem?_map, Option.map_eq_some_iff] at hi
            obtain ⟨u, hu, rfl⟩ := hi
            obtain ⟨v, h4, h5⟩ := h3 _ u hu
            refine ⟨v, ?_, ?_⟩
            · rw [List.getElem?_append_right (by rw [hA.1]; omega), hA.1]
              exact h4
            · rcases h5 with h5 | h5
              · exact h5.erep
              · cases u with
                | ptr => exact h5
                | eptr => exact h5
                | _ => cases h5
      · cases hc
    · cases hc
  · cases hc

/-! ### a call of a function that looks only -/
theorem CI.none (hok : ∀ x v, m x = some v → w.cell? x = some v) : CI P w m (handed [] [] ω) (roots [] []) a0 w m ω where
  size := rfl
  defers := rfl
  keeps := Keeps.refl _ _
  mle := Mem.le_refl m
  mold := fun _ _ _ => rfl
  ok := hok
  env := fun t x hx => by cases hx
  box := fun t x hx => by cases hx
  row := fun t x hx => by cases hx
  fresh := fun κ id hl => by cases κ <;> cases hl
  apart := fun κ id _ _ hl => by cases κ <;> cases hl
  home := ⟨(fun id hid => by rcases hid with hid | hid <;> cases hid), (fun id b hb => by cases hb), (fun id b hb => by cases hb)⟩

theorem L.clos_e {v : Value} {l : L} (h : ERep m ω v l) : ERep m ω' v l.clos := by
  unfold L.clos
  split
  · rename_i hz; exact (h.rep hz).erep
  · exact Rep.any v h.oneCell

theorem owned_none {k : Nat} : ¬ (handed [] [] ω) k := by
  rintro ⟨κ, id, hl, _⟩
  cases κ <;> cases hl

theorem gives_call {o : Oper} {c : Call} {f : FuncId} {xs : List V} {r : A} (ho : o.op = .call c) (h : CI P w0 m0 F0 s a w m ω) (hc : callOf T s c = some (f, xs)) (hS : Sat P f xs r) : GivesA P w0 m0 F0 s o (r.map L.clos) a w ω := by
  obtain ⟨vs, h1, h2⟩ := callOf_sound ho h hc
  refine (gives_of_callsR h1 (hS.call m w vs ω (CI.none h.ok) h2)).mono fun v w' hp => ?_
  obtain ⟨m', ω', hC, hv⟩ := hp
  refine ⟨m', h.grow ⟨hC.keeps.os, hC.keeps.tape, hC.keeps.output, hC.keeps.size, fun k hk => hC.keeps.block k hk owned_none⟩ hC.mle (fun x hx => hC.mold x hx owned_none) hC.ok, ?_⟩
  exact hv.map fun v l hl => L.clos_e hl

/-! ### what is owned is lent to a function that looks only -/
def L.flat : L → L
  | .int k n => .int k n
  | .bool b => .bool b
  | .str s => .str s
  | _ => .any
theorem L.flat_e {v : Value} {l : L} (h : ERep m ω v l) : ERep m' ω' v l.flat := by
  cases l with
  | int k n => have h : Rep m v (.int k n) := h; cases h; exact Rep.int k n
  | bool b => have h : Rep m v (.bool b) := h; cases h; exact Rep.bool b
  | str q => have h : Rep m v (.str q) := h; cases h; exact Rep.str q
  | _ => exact Rep.any v (ERep.oneCell (m := m) (ω := ω) h)
noncomputable def cutMem (m : Mem) (F : Nat → Prop) : Mem := by
  classical exact fun x => if F x.block then Option.none else m x
theorem cutMem_out {F : Nat → Prop} {x : Addr} (h : ¬ F x.block) : cutMem m F x = m x := by unfold cutMem; rw [if_neg h]
theorem cutMem_in {F : Nat → Prop} {x : Addr} (h : F x.block) : cutMem m F x = Option.none := by unfold cutMem; rw [if_pos h]

theorem gives_lent {o : Oper} {c : Call} {f : FuncId} {xs : List V} {r : A} (ho : o.op = .call c) (h : CI P w0 m0 F0 s a w m ω) (hc : callOf T s c = some (f, xs)) (hS : Sat P f (xs.map fun x => x.map (frzV 4 s)) r) : GivesA P w0 m0 F0 s o (r.map L.flat) a w ω := by
  obtain ⟨vs, h1, h2⟩ := callOf_sound ho h hc
  let F : Nat → Prop := Owned s ω
  have hF : ∀ x v, m x = some v → ¬ F x.block := by
    rintro x v hx ⟨κ, id, hl, hk⟩
    exact (h.fresh κ id hl _ hk).2.2 x v hx rfl
  have hle := frzMem_le (w := w) hF
  have hA : ArgsRep (frzMem m w F) ω vs (xs.map fun x => x.map (frzV 4 s)) := by
    refine ⟨by simpa using h2.1, fun i x hi => ?_⟩
    rw [List.getElem?_map, Option.map_eq_some_iff] at hi
    obtain ⟨x0, hi, rfl⟩ := hi
    obtain ⟨v, h3, h4⟩ := h2.2 i x0 hi
    exact ⟨v, h3, h4.map fun v l hl => (frzV_sound h hle (fun κ id hl x hx => frzMem_in (m := m) ⟨κ, id, hl, hx⟩) 4 v l hl).erep⟩
  refine (gives_of_callsR h1 (hS.call _ w vs ω (CI.none (frzMem_ok h.ok)) hA)).mono fun v w' hp => ?_
  obtain ⟨m', ω', hC, hv⟩ := hp
  have hlt : ∀ k, F k → k < w.heap.size := fun k ⟨κ, id, hl, hk⟩ => (h.fresh κ id hl k hk).1
  refine ⟨cutMem m' F, h.grow ⟨hC.keeps.os, hC.keeps.tape, hC.keeps.output, hC.keeps.size, fun k hk => hC.keeps.block k hk owned_none⟩ (fun x v hx => ?_) (fun x hx => ?_) (fun x v hx => ?_), hv.map fun v l hl => L.flat_e hl⟩
  · rw [cutMem_out (hF x v hx)]
    exact hC.mle x v (hle x v hx)
  · by_cases hb : F x.block
    · rw [cutMem_in hb]
      cases hm : m x with
      | none => rfl
      | some v => exact absurd hb (hF x v hm)
    · rw [cutMem_out hb, hC.mold x hx owned_none, frzMem_out hb]
  · by_cases hb : F x.block
    · rw [cutMem_in hb] at hx; cases hx
    · rw [cutMem_out hb] at hx
      exact hC.ok x v hx

/-! ### a call that makes or changes what is owned -/
/-- The contract's numbers are the caller's. -/
def L.ids0 (σb σr : Ids) : L → L
  | .ptr id o => match look σb id with | some j => .ptr j o | none => .any
  | .eptr id i o => match look σr id with | some j => .eptr j i o | none => .any
  | .ref id lo n => match look σr id with | some j => .ref j lo n | none => .any
  | l => l
def L.ids (σb σr : Ids) : L → L
  | .clo f caps => .clo f (caps.map (L.ids0 σb σr))
  | l => l.ids0 σb σr
def L.kl0 (kb kr : List Nat) : L → L
  | .ptr id o => if kb.elem id then .any else .ptr id o
  | .eptr id i o => if kr.elem id then .any else .eptr id i o
  | .ref id lo n => if kr.elem id then .any else .ref id lo n
  | l => l
def L.kl (kb kr : List Nat) : L → L
  | .clo f caps => .clo f (caps.map (L.kl0 kb kr))
  | l => l.kl0 kb kr

theorem kl_e {kb kr : List Nat} (hb : ∀ i, kb.elem i = false → ω'.box i = ω.box i) (hr : ∀ i, kr.elem i = false → ω'.row i = ω.row i) {v : Value} {l : L} (h : ERep m ω v l) : ERep m ω' v (l.kl kb kr) := by
  have hP : ∀ x u, PRep ω x u → Rep m x (u.kl0 kb kr) ∨ PRep ω' x (u.kl0 kb kr) := by
    intro x u hu
    cases u with
    | ptr i o =>
      simp only [L.kl0]
      cases hk : kb.elem i with
      | true => exact .inl (.any _ hu.oneCell)
      | false => refine .inr ?_; show x = _; rw [hb i hk]; exact hu
    | eptr i k o =>
      simp only [L.kl0]
      cases hk : kr.elem i with
      | true => exact .inl (.any _ hu.oneCell)
      | false => refine .inr ?_; show ∃ b, _; rw [hr i hk]; exact hu
    | _ => cases hu
  have hR : ∀ x u, Rep m x u → Rep m x (u.kl0 kb kr) := by
    intro x u hu
    cases u with
    | ptr => cases hu
    | eptr => cases hu
    | ref => cases hu
    | _ => exact hu
  cases l with
  | ptr i o =>
    simp only [L.kl, L.kl0]
    cases hk : kb.elem i with
    | true => exact Rep.any v (ERep.oneCell (ω := ω) (m := m) (l := .ptr i o) h)
    | false => show v = _; rw [hb i hk]; exact h
  | eptr i k o =>
    simp only [L.kl, L.kl0]
    cases hk : kr.elem i with
    | true => exact Rep.any v (ERep.oneCell (ω := ω) (m := m) (l := .eptr i k o) h)
    | false => show ∃ b, _; rw [hr i hk]; exact h
  | ref i lo n =>
    simp only [L.kl, L.kl0]
    cases hk : kr.elem i with
    | true => exact Rep.any v (ERep.oneCell (ω := ω) (m := m) (l := .ref i lo n) h)
    | false => show RefAt (ω'.row i) lo n v; rw [hr i hk]; exact h
  | clo f caps =>
    obtain ⟨vs, h1, h2, h3⟩ := h
    refine ⟨vs, h1, by simpa using h2, fun i u hu => ?_⟩
    simp only [List.getElem?_map, Option.map_eq_some_iff] at hu
    obtain ⟨u0, hu, rfl⟩ := hu
    obtain ⟨x, h4, h5⟩ := h3 i u0 hu
    refine ⟨x, h4, ?_⟩
    rcases h5 with h5 | h5
    · exact .inl (hR _ _ h5)
    · exact hP _ _ h5
  | _ => exact h

def okIds0 (σb σr : Ids) : L → Bool
  | .ptr i _ => (look σb i).isSome
  | .eptr i _ _ => (look σr i).isSome
  | .ref i _ _ => (look σr i).isSome
  | _ => true
def okIds (σb σr : Ids) : L → Bool
  | .clo _ caps => caps.all (okIds0 σb σr)
  | l => okIds0 σb σr l
/-- Read the other way round: the caller's numbers are the contract's. -/
theorem ids_back {σb σr : Ids} (hb : ∀ i j, look σb i = some j → ω'.box i = ω.box j) (hr : ∀ i j, look σr i = some j → ω'.row i = ω.row j) {v : Value} {l : L} (hid : okIds σb σr l = true)
    (h : ERep m ω v (l.ids σb σr)) : ERep m ω' v l := by
  cases l with
  | ptr i o =>
    obtain ⟨j, hj⟩ := Option.isSome_iff_exists.1 hid
    simp only [L.ids, L.ids0, hj] at h
    show v = _
    rw [hb i j hj]
    exact h
  | eptr i k o =>
    obtain ⟨j, hj⟩ := Option.isSome_iff_exists.1 hid
    simp only [L.ids, L.ids0, hj] at h
    show ∃ b, _
    rw [hr i j hj]
    exact h
  | ref i lo n =>
    obtain ⟨j, hj⟩ := Option.isSome_iff_exists.1 hid
    simp only [L.ids, L.ids0, hj] at h
    show RefAt _ lo n v
    rw [hr i j hj]
    exact h
  | clo f caps =>
    obtain ⟨vs, h1, h2, h3⟩ := h
    refine ⟨vs, h1, by simpa using h2, fun i u hu => ?_⟩
    obtain ⟨x, h4, h5⟩ := h3 i (u.ids0 σb σr) (by simp [hu])
    refine ⟨x, h4, ?_⟩
    have hui := List.all_eq_true.1 hid u (List.mem_of_getElem? hu)
    cases u with
    | ptr i o =>
      obtain ⟨j, hj⟩ := Option.isSome_iff_exists.1 hui
      simp only [L.ids0, hj] at h5
      rcases h5 with h5 | h5
      · cases h5
      · refine .inr ?_
        show x = _
        rw [hb i j hj]
        exact h5
    | eptr i k o =>
      obtain ⟨j, hj⟩ := Option.isSome_iff_exists.1 hui
      simp only [L.ids0, hj] at h5
      rcases h5 with h5 | h5
      · cases h5
      · refine .inr ?_
        show ∃ b, _
        rw [hr i j hj]
        exact h5
    | ref i lo n =>
      obtain ⟨j, hj⟩ := Option.isSome_iff_exists.1 hui
      simp only [L.ids0, hj] at h5
      rcases h5 with h5 | h5 <;> cases h5
    | _ =>
      rcases h5 with h5 | h5
      · exact .inl h5
      · cases h5
  | _ => exact h
theorem ids_fwd {σb σr : Ids} (hb : ∀ i j, look σb i = some j → ω'.box j = ω.box i) (hr : ∀ i j, look σr i = some j → ω'.row j = ω.row i) {v : Value} {l : L} (h : ERep m ω v l) : ERep m ω' v (l.ids σb σr) := by
  have hP : ∀ x u, PRep ω x u → Rep m x (u.ids0 σb σr) ∨ PRep ω' x (u.ids0 σb σr) := by
    intro x u hu
    cases u with
    | ptr i o =>
      simp only [L.ids0]
      cases hk : look σb i with
      | none => exact .inl (.any _ hu.oneCell)
      | some j => refine .inr ?_; show x = _; rw [hb i j hk]; exact hu
    | eptr i k o =>
      simp only [L.ids0]
      cases hk : look σr i with
      | none => exact .inl (.any _ hu.oneCell)
      | some j => refine .inr ?_; show ∃ b, _; rw [hr i j hk]; exact hu
    | _ => cases hu
  have hR : ∀ x u, Rep m x u → Rep m x (u.ids0 σb σr) := by
    intro x u hu
    cases u with
    | ptr => cases hu
    | eptr => cases hu
    | ref => cases hu
    | _ => exact hu
  cases l with
  | ptr i o =>
    simp only [L.ids, L.ids0]
    cases hk : look σb i with
    | none => exact Rep.any v (ERep.oneCell (ω := ω) (m := m) (l := .ptr i o) h)
    | some j => show v = _; rw [hb i j hk]; exact h
  | eptr i k o =>
    simp only [L.ids, L.ids0]
    cases hk : look σr i with
    | none => exact Rep.any v (ERep.oneCell (ω := ω) (m := m) (l := .eptr i k o) h)
    | some j => show ∃ b, _; rw [hr i j hk]; exact h
  | ref i lo n =>
    simp only [L.ids, L.ids0]
    cases hk : look σr i with
    | none => exact Rep.any v (ERep.oneCell (ω := ω) (m := m) (l := .ref i lo n) h)
    | some j => show RefAt (ω'.row j) lo n v; rw [hr i j hk]; exact h
  | clo f caps =>
    obtain ⟨vs, h1, h2, h3⟩ := h
    refine ⟨vs, h1, by simpa using h2, fun i u hu => ?_⟩
    simp only [List.getElem?_map, Option.map_eq_some_iff] at hu
    obtain ⟨u0, hu, rfl⟩ := hu
    obtain ⟨x, h4, h5⟩ := h3 i u0 hu
    refine ⟨x, h4, ?_⟩
    rcases h5 with h5 | h5
    · exact .inl (hR _ _ h5)
    · exact hP _ _ h5
  | _ => exact h
end
end Go.Bw
