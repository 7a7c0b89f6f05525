/-
  THE LAYER, 6: the other operations that only compute (and may make a new row).
-/
import Derived.Test.YtinlgpgdinnefaaB5
import Derived.Laws.Tables
set_option linter.unusedSimpArgs false
set_option linter.unusedVariables false
namespace Go.Bw
open Go.RowKit

section
variable {P : Program} {w0 : World} {m0 : Mem} {s : St} {a : Act} {w : World} {m : Mem} {ω : Wh} {F0 : Home} {T : TypeId → Option TI}

theorem givesA_move {o : Oper} {x : Operand} {y : A} (ho : o.op = .move x) (h : CI P w0 m0 F0 s a w m ω) (hx : evalO T s o.type x = some y) : GivesA P w0 m0 F0 s o y a w ω :=
  givesA_of_value h (v := a.eval x) (by unfold execOp; simp only [ho, Sem.run_pure]) (evalO_sound h hx)
theorem givesA_assign {o : Oper} {x : Operand} {y : A} (ho : o.op = .assign x) (h : CI P w0 m0 F0 s a w m ω) (hx : evalO T s o.type x = some y) : GivesA P w0 m0 F0 s o y a w ω :=
  givesA_of_value h (v := a.eval x) (by unfold execOp; simp only [ho, Sem.run_pure]) (evalO_sound h hx)

theorem bool_of {x : Operand} {b : Bool} {ty : TypeId} (h : CI P w0 m0 F0 s a w m ω) (hx : evalO T s ty x = some (.v (.one (.bool b)))) : a.eval x = .bool b := by
  have h1 : Rep m (a.eval x) (.bool b) := evalO_sound h hx
  generalize a.eval x = u at h1
  cases h1
  rfl
theorem int_of {x : Operand} {k : IntKind} {n : Int} {ty : TypeId} (h : CI P w0 m0 F0 s a w m ω) (hx : evalO T s ty x = some (.v (.one (.int k n)))) : a.eval x = .int k n := by
  have h1 : Rep m (a.eval x) (.int k n) := evalO_sound h hx
  generalize a.eval x = u at h1
  cases h1
  rfl
theorem str_of {x : Operand} {q : ByteArray} {ty : TypeId} (h : CI P w0 m0 F0 s a w m ω) (hx : evalO T s ty x = some (.v (.one (.str q)))) : a.eval x = .string q := by
  have h1 : Rep m (a.eval x) (.str q) := evalO_sound h hx
  generalize a.eval x = u at h1
  cases h1
  rfl

theorem givesA_pick {o : Oper} {c x y : Operand} {ty : TypeId} {b : Bool} {z : A} (ho : o.op = .pick c x y) (h : CI P w0 m0 F0 s a w m ω) (hc : evalO T s ty c = some (.v (.one (.bool b))))
    (hz : evalO T s o.type (if b then x else y) = some z) : GivesA P w0 m0 F0 s o z a w ω := by
  have hac := bool_of h hc
  refine givesA_of_value h (v := a.eval (if b then x else y)) ?_ (evalO_sound h hz)
  unfold execOp
  simp only [ho, hac, Sem.run_bind, asBool, Sem.run_pure, Result.andThen_ok]
  cases b <;> rfl

theorem givesA_not {o : Oper} {t : TypeId} {x : Operand} {ty : TypeId} {b : Bool} (ho : o.op = .unOp .not t x) (h : CI P w0 m0 F0 s a w m ω) (hx : evalO T s ty x = some (.v (.one (.bool b)))) :
    GivesA P w0 m0 F0 s o (.v (.one (.bool !b))) a w ω := by
  have hac := bool_of h hx
  refine givesA_of_value h (v := .bool !b) ?_ (Rep.bool _)
  unfold execOp
  simp only [ho, hac, Op.unary, Sem.run_bind, Sem.run_pure, Result.andThen_ok]

theorem givesA_neg {o : Oper} {t : TypeId} {x : Operand} {ty : TypeId} {k : IntKind} {n : Int} (ho : o.op = .unOp .neg t x) (h : CI P w0 m0 F0 s a w m ω) (hx : evalO T s ty x = some (.v (.one (.int k n)))) :
    GivesA P w0 m0 F0 s o (.v (.one (.int k (k.wrap (0 - n))))) a w ω := by
  have hac := int_of h hx
  refine givesA_of_value h (v := .int k (k.wrap (0 - n))) ?_ (Rep.int _ _)
  unfold execOp
  simp only [ho, hac, Op.unary, Op.intArith, Sem.run_bind, Sem.run_pure, Result.andThen_ok]

def lenL : L → Option Int
  | .sl _ xs => some xs.length
  | .nil _ => some 0
  | .str s => some s.size
  | .ref _ _ n => some n
  | _ => none
def lenKind (i : TI) : L → Bool | .str _ => i.isStr | _ => i.elem.isSome

theorem run_call_builtin {o : Oper} {b : Builtin} {args : Array Operand} {tys : Array TypeId} (ho : o.op = .call { callee := .builtin b, args := args, argTypes := tys }) :
    ∃ cs, (execOp a.eval o).run P w = (builtin b tys o.type cs (args.map a.eval)).run P w := by
  unfold execOp
  simp only [ho, resolve, invoke, Sem.run_bind, Sem.run_pure, Result.andThen_ok]
  exact ⟨_, rfl⟩

theorem givesA_len {o : Oper} {t : TypeId} {i : TI} {x : Operand} {l : L} {n : Int} (ho : o.op = .call { callee := .builtin .len, args := #[x], argTypes := #[t] }) (hT : tiOk P t i = true) (h : CI P w0 m0 F0 s a w m ω)
    (hx : evalO T s t x = some (.v (.one l))) (hn : lenL l = some n) (hk : lenKind i l = true) : GivesA P w0 m0 F0 s o (.v (.one (.int .i64 n))) a w ω := by
  have h1 := evalO_sound h hx
  generalize hac : a.eval x = u at h1
  refine givesA_of_value h (v := .int .i64 n) ?_ (Rep.int _ _)
  obtain ⟨q, hq⟩ := run_call_builtin (P := P) (a := a) (w := w) ho
  rw [hq]
  simp only [List.map_toArray, List.map_cons, List.map_nil, hac, builtin]
  have sl : ∀ A c (k : Nat), i.elem.isSome = true → u = .slice A k c → n = k → (do
        let r ← Builtin.len_ #[t] o.type #[u]
        pure (Next.value r) : Sem Next).run P w = .ok (.value (.int .i64 n)) w := by
    intro A c k hk hu hn
    obtain ⟨e, he⟩ := Option.isSome_iff_exists.1 hk
    have hue := (tiFacts hT).elem e he
    subst hu hn
    simp [Builtin.len_, run_underlying hue, goInt]
  cases l <;> simp only [lenL, Option.some.injEq, reduceCtorEq] at hn
  · have h1 : Rep m u (.str _) := h1
    cases h1
    have hu := (tiFacts hT).str (by simpa [lenKind] using hk)
    simp [Builtin.len_, run_underlying hu, goInt, hn]
  · have h1 : Rep m u (.sl _ _) := h1
    cases h1 with
    | slNil => exact sl none 0 0 hk rfl (by simpa using hn.symm)
    | sl ad len cap _ _ vals hlen => exact sl _ _ _ hk rfl (by omega)
  · have h1 : Rep m u (.nil _) := h1
    cases h1
    exact sl none 0 0 hk rfl (by simpa using hn.symm)
  · rcases h1 with ⟨_, _, rfl, rfl⟩ | ⟨b, ad, _, _, rfl, _⟩
    · exact sl none 0 0 hk rfl (by simpa using hn.symm)
    · exact sl _ _ _ hk rfl hn.symm

theorem givesA_extract {o : Oper} {x : Operand} {k : Nat} {ty : TypeId} {xs : List V} {y : V} (ho : o.op = .extract x k) (h : CI P w0 m0 F0 s a w m ω) (hx : evalO T s ty x = some (.tup xs)) (hy : xs[k]? = some y) :
    GivesA P w0 m0 F0 s o (.v y) a w ω := by
  obtain ⟨vs, h1, h2, h3⟩ := evalO_sound h hx
  obtain ⟨u, h4, h5⟩ := h3 k y hy
  refine givesA_of_value h (v := u) ?_ h5
  unfold execOp
  simp only [ho, h1, Instr.extract, h4, Sem.run_bind, Sem.run_pure, Result.andThen_ok]

def isPtrLike : L → Bool
  | .fz _ => true
  | .ptr _ _ => true
  | .eptr _ _ _ => true
  | .clo _ _ => true
  | _ => false

theorem givesA_nilCheck {o : Oper} {x : Operand} {ty : TypeId} {y : L} (ho : o.op = .nilCheck x) (h : CI P w0 m0 F0 s a w m ω) (hx : evalO T s ty x = some (.v (.one y))) (hy : isPtrLike y = true) :
    GivesA P w0 m0 F0 s o (.v (.one y)) a w ω := by
  have h1 := evalO_sound h hx
  refine givesA_of_value h (v := a.eval x) ?_ h1
  unfold execOp
  cases y <;> simp only [isPtrLike, Bool.false_eq_true] at hy
  · obtain ⟨vs, h2, _⟩ := h1
    simp only [ho, h2, Sem.run_pure]
  · obtain ⟨ad, had, _⟩ := Rep.frep h1
    simp only [ho, had, Sem.run_pure]
  · have had : a.eval x = _ := h1
    simp only [ho, had, Sem.run_pure]
  · obtain ⟨b, _, had⟩ := h1
    simp only [ho, had, Sem.run_pure]

/-! ### fields of values -/
theorem run_part {t : TypeId} {i : TI} (hT : tiOk P t i = true) {cs : Array Value} {ls : List L} (hl : cs.size = ls.length) (hr : ∀ (j : Nat) (l : L), ls[j]? = some l → ∃ v, cs[j]? = some v ∧ ERep m ω v l) {off : Nat} (hfit : off + i.size ≤ ls.length) {x : V}
    (hx : asV i.agg ((ls.drop off).take i.size) = some x) : ∃ v, (part t cs off).run P w = .ok v w ∧ VRep m ω v x := by
  have F := tiFacts hT
  obtain ⟨inf, hinf, hsz, _⟩ := F.info
  obtain ⟨d, hd, hag⟩ := F.agg
  by_cases hg : i.agg = true
  · rw [hg] at hx hag
    simp only [asV, if_true, Option.some.injEq] at hx
    subst hx
    refine ⟨.agg (cs.extract off (off + inf.size)), ?_, ⟨_, rfl, by simp [hsz]; omega, fun j l hj => ?_⟩⟩
    · simp only [part, Sem.run_bind, Sem.run_pure, Result.andThen_ok, run_isAgg hd, hag, if_true, run_sizeOf hinf]
    · rw [List.getElem?_take] at hj
      split at hj
      · rename_i hlt
        rw [List.getElem?_drop] at hj
        obtain ⟨v, h1, h2⟩ := hr _ _ hj
        refine ⟨v, ?_, h2⟩
        rw [Array.getElem?_extract, if_pos (by omega)]
        exact h1
      · cases hj
  · have hg' : i.agg = false := by simpa using hg
    rw [hg'] at hx hag
    simp only [asV, Bool.false_eq_true, if_false] at hx
    have hone : ∃ l, (ls.drop off).take i.size = [l] := by
      match hq : (ls.drop off).take i.size, hx with
      | [l], _ => exact ⟨l, rfl⟩
    obtain ⟨l, hone⟩ := hone
    rw [hone] at hx
    simp only [Option.some.injEq] at hx
    subst hx
    have hl0 : ls[off]? = some l := by
      have : ((ls.drop off).take i.size)[0]? = some l := by rw [hone]; rfl
      rw [List.getElem?_take] at this
      split at this
      · simpa [List.getElem?_drop] using this
      · cases this
    obtain ⟨v, h1, h2⟩ := hr off l hl0
    refine ⟨v, ?_, h2⟩
    simp only [part, Sem.run_bind, Sem.run_pure, Result.andThen_ok, run_isAgg hd, hag, Bool.false_eq_true, if_false, h1]

theorem givesA_field {o : Oper} {t ft : TypeId} {i j : TI} {x : Operand} {ty : TypeId} {f off : Nat} {l : List (Nat × TypeId)} {ls : List L} {y : V} (ho : o.op = .field t x f) (hT : tiOk P t i = true) (hfl : i.fields = some l) (hf : l[f]? = some (off, ft))
    (hJ : tiOk P ft j = true) (h : CI P w0 m0 F0 s a w m ω) (hx : evalO T s ty x = some (.v (.agg ls))) (hfit : off + j.size ≤ ls.length) (hy : asV j.agg ((ls.drop off).take j.size) = some y) : GivesA P w0 m0 F0 s o (.v y) a w ω := by
  obtain ⟨cs, h1, h2, h3⟩ := evalO_sound h hx
  obtain ⟨fs, g1, g2, g3⟩ := (tiFacts hT).fields l hfl
  rw [← g2, List.getElem?_map, Option.map_eq_some_iff] at hf
  obtain ⟨fd, hf, he⟩ := hf
  simp only [Prod.mk.injEq] at he
  obtain ⟨rfl, rfl⟩ := he
  have hf' : fs[f]? = some fd := by simpa using hf
  obtain ⟨v, h4, h5⟩ := run_part (w := w) (ω := ω) hJ h2 h3 hfit hy
  refine givesA_of_value h (v := v) ?_ h5
  unfold execOp
  simp only [ho, h1, Instr.field, Sem.run_bind, run_underlying g1, Result.andThen_ok, hf', asAgg, Sem.run_pure, h4]

/-! ### parts laid into cells -/
def setL : Nat → List L → List L → List L
  | 0, [], ls => ls
  | 0, v :: vs, _ :: ls => v :: setL 0 vs ls
  | n + 1, vs, l :: ls => l :: setL n vs ls
  | _, _, [] => []
theorem setL_length : ∀ (n : Nat) (vs ls : List L), (setL n vs ls).length = ls.length
  | 0, [], ls => by simp [setL]
  | 0, v :: vs, [] => by simp [setL]
  | 0, v :: vs, _ :: ls => by simp [setL, setL_length 0 vs ls]
  | n + 1, vs, [] => by simp [setL]
  | n + 1, vs, l :: ls => by simp [setL, setL_length n vs ls]
theorem setL_get : ∀ (n : Nat) (vs ls : List L) (k : Nat), k < ls.length → (setL n vs ls)[k]? = if n ≤ k ∧ k < n + vs.length then vs[k - n]? else ls[k]?
  | 0, [], ls, k, hk => by
    rw [if_neg (by simp)]
    cases ls <;> simp [setL]
  | 0, v :: vs, [], k, hk => by simp at hk
  | 0, v :: vs, _ :: ls, 0, hk => by simp [setL]
  | 0, v :: vs, _ :: ls, k + 1, hk => by
    simp only [setL, List.getElem?_cons_succ]
    rw [setL_get 0 vs ls k (by simpa using hk)]
    simp
  | n + 1, vs, [], k, hk => by simp at hk
  | n + 1, vs, l :: ls, 0, hk => by simp [setL]
  | n + 1, vs, l :: ls, k + 1, hk => by
    simp only [setL, List.getElem?_cons_succ]
    rw [setL_get n vs ls k (by simpa using hk)]
    by_cases hc : n ≤ k ∧ k < n + vs.length
    · rw [if_pos hc, if_pos (by omega)]
      congr 1
      omega
    · rw [if_neg hc, if_neg (by omega)]

theorem foldl_set : ∀ (l : List (Value × Nat)) (off : Nat) (cs : Array Value) (k : Nat) (st : Nat), (∀ (j : Nat) (p : Value × Nat), l[j]? = some p → p.2 = st + j) →
    (l.foldl (fun cs (p : Value × Nat) => cs.setIfInBounds (off + p.2) p.1) cs).size = cs.size ∧
    (k < cs.size → (l.foldl (fun cs (p : Value × Nat) => cs.setIfInBounds (off + p.2) p.1) cs)[k]? = if off + st ≤ k ∧ k < off + st + l.length then (l[k - off - st]?).map (·.1) else cs[k]?)
  | [], off, cs, k, st, _ => ⟨rfl, fun hk => by rw [if_neg (by simp)]; rfl⟩
  | p :: l, off, cs, k, st, hp => by
    have hst : p.2 = st := by simpa using hp 0 p rfl
    obtain ⟨h1, h2⟩ := foldl_set l off (cs.setIfInBounds (off + p.2) p.1) k (st + 1) (fun j q hq => by have := hp (j + 1) q (by simpa using hq); omega)
    refine ⟨by simpa using h1, fun hk => ?_⟩
    rw [List.foldl_cons, h2 (by simpa using hk)]
    by_cases hc : off + (st + 1) ≤ k ∧ k < off + (st + 1) + l.length
    · rw [if_pos hc, if_pos (by simp; omega)]
      have : k - off - st = (k - off - (st + 1)) + 1 := by omega
      rw [this, List.getElem?_cons_succ]
    · rw [if_neg hc, hst]
      by_cases hk2 : k = off + st
      · subst hk2
        rw [if_pos (by simp)]
        simp [hk]
      · rw [if_neg (by simp; omega), Array.getElem?_setIfInBounds_ne (by omega)]

/-- A part: where it goes, its size, its cells. -/
def partCells (T : TypeId → Option TI) (s : St) (ty : TypeId) (x : Operand) : Option (List L) :=
  match evalO T s ty x with
  | some (.v (.one l)) => some [l]
  | some (.v (.agg ls)) => some ls
  | _ => none
def fillL (T : TypeId → Option TI) (s : St) (ty : TypeId) (place : Nat → Option (Nat × Nat)) (ls : List L) : List (Nat × Operand) → Option (List L)
  | [] => some ls
  | (i, x) :: rest =>
    match place i, partCells T s ty x with
    | some (off, size), some vs => if vs.length = size ∧ off + size ≤ ls.length then fillL T s ty place (setL off vs ls) rest else none
    | _, _ => none

theorem cells_one {v : Value} {l : L} (h : ERep m ω v l) : v.cells = #[v] := by
  have := h.oneCell
  cases v <;> first | rfl | cases this
theorem partCells_sound (h : CI P w0 m0 F0 s a w m ω) {ty : TypeId} {x : Operand} {vs : List L} (hx : partCells T s ty x = some vs) :
    (a.eval x).cells.size = vs.length ∧ ∀ (j : Nat) (l : L), vs[j]? = some l → ∃ v, (a.eval x).cells[j]? = some v ∧ ERep m ω v l := by
  unfold partCells at hx
  split at hx
  · rename_i l hl
    simp only [Option.some.injEq] at hx
    subst hx
    have h1 : ERep m ω (a.eval x) l := evalO_sound h hl
    rw [cells_one h1]
    refine ⟨rfl, fun j l' hj => ?_⟩
    cases j with
    | zero => simp only [List.getElem?_cons_zero, Option.some.injEq] at hj; subst hj; exact ⟨_, rfl, h1⟩
    | succ j => simp at hj
  · rename_i ls hl
    simp only [Option.some.injEq] at hx
    subst hx
    obtain ⟨cs, h1, h2, h3⟩ := evalO_sound h hl
    rw [h1]
    exact ⟨h2, h3⟩
  · cases hx

theorem fill_sound (h : CI P w0 m0 F0 s a w m ω) {ty : TypeId} {place : Nat → Option (Nat × Nat)} : ∀ (parts : List (Nat × Operand)) (cs : Array Value) (ls ls' : List L), cs.size = ls.length →
    (∀ (j : Nat) (l : L), ls[j]? = some l → ∃ v, cs[j]? = some v ∧ ERep m ω v l) → fillL T s ty place ls parts = some ls' →
    ∃ cs', Instr.fill place cs (parts.map fun p => (p.1, a.eval p.2)) = some cs' ∧ cs'.size = ls'.length ∧ ls'.length = ls.length ∧ ∀ (j : Nat) (l : L), ls'[j]? = some l → ∃ v, cs'[j]? = some v ∧ ERep m ω v l
  | [], cs, ls, ls', hs, hr, hf => by
    simp only [fillL, Option.some.injEq] at hf
    subst hf
    exact ⟨cs, rfl, hs, rfl, hr⟩
  | (i, x) :: rest, cs, ls, ls', hs, hr, hf => by
    simp only [fillL] at hf
    split at hf
    · rename_i off size vs hp hv
      split at hf
      · rename_i hc
        obtain ⟨h1, h2⟩ := partCells_sound h hv
        have hz := fun k => foldl_set ((a.eval x).cells.zipIdx.toList) off cs k 0 (by
          intro j p hj
          simp at hj
          obtain ⟨q, _, rfl⟩ := hj
          simp)
        have hlen : ((a.eval x).cells.zipIdx.toList).length = vs.length := by simp [h1]
        have hfe : (a.eval x).cells.zipIdx.foldl (fun cs (p : Value × Nat) => cs.setIfInBounds (off + p.2) p.1) cs = ((a.eval x).cells.zipIdx.toList).foldl (fun cs (p : Value × Nat) => cs.setIfInBounds (off + p.2) p.1) cs := by
          rw [← Array.foldl_toList]
        obtain ⟨cs', h3, h4, h5, h6⟩ := fill_sound h rest ((a.eval x).cells.zipIdx.foldl (fun cs (p : Value × Nat) => cs.setIfInBounds (off + p.2) p.1) cs) (setL off vs ls) ls'
          (by rw [hfe, (hz 0).1, setL_length]; exact hs)
          (by
            intro j l hj
            have hjl : j < ls.length := by
              have := (List.getElem?_eq_some_iff.1 hj).1
              rwa [setL_length] at this
            rw [setL_get off vs ls j hjl] at hj
            rw [hfe, (hz j).2 (by omega)]
            split at hj
            · rename_i hjc
              rw [if_pos (by omega)]
              obtain ⟨v, h7, h8⟩ := h2 _ _ hj
              refine ⟨v, ?_, h8⟩
              simp only [Nat.sub_zero]
              simp [h7]
            · rename_i hjc
              rw [if_neg (by omega)]
              exact hr j l hj) hf
        refine ⟨cs', ?_, h4, by rw [h5, setL_length], h6⟩
        simp only [List.map_cons, Instr.fill, hp]
        rw [if_neg (by simp; omega)]
        exact h3
      · cases hf
    · cases hf
def placesOf (T : TypeId → Option TI) : List (Nat × TypeId) → Option (List (Nat × Nat))
  | [] => some []
  | (off, t) :: l => match T t, placesOf T l with | some i, some r => some ((off, i.size) :: r) | _, _ => none

theorem placesOf_run (hT : TabOk P T) : ∀ (fs : List Field) (pl : List (Nat × Nat)), placesOf T (fs.map fun f => (f.offset, f.type)) = some pl →
    fs.mapM (fun f => (P.info? f.type).map fun i => (f.offset, i.size)) = some pl
  | [], pl, h => by simpa [placesOf] using h
  | f :: fs, pl, h => by
    simp only [List.map_cons, placesOf] at h
    split at h
    · rename_i i r hi hr
      simp only [Option.some.injEq] at h
      obtain ⟨inf, h1, h2, _⟩ := (tiFacts (hT _ _ hi)).info
      simp [List.mapM_cons, h1, h2, placesOf_run hT fs r hr, h]
    · cases h

theorem givesA_build {o : Oper} {t : TypeId} {i : TI} {parts : Array (Nat × Operand)} {l : List (Nat × TypeId)} {pl : List (Nat × Nat)} {z ls : List L} {ty : TypeId} (ho : o.op = .build t parts) (hTab : TabOk P T) (hi : T t = some i)
    (hl : i.fields = some l) (hz : i.zero = some z) (hp : placesOf T l = some pl) (h : CI P w0 m0 F0 s a w m ω) (hf : fillL T s ty (fun k => pl[k]?) z parts.toList = some ls) : GivesA P w0 m0 F0 s o (.v (.agg ls)) a w ω := by
  have F := tiFacts (hTab _ _ hi)
  obtain ⟨fs, g1, g2, _⟩ := F.fields l hl
  obtain ⟨inf, zv, g3, g4, g5, g6⟩ := F.zero z hz
  have hrun := run_places (P := P) w fs.toList pl (placesOf_run hTab fs.toList pl (by rw [g2]; exact hp))
  obtain ⟨g7, g8⟩ := matchAll_rep (m := m) zv.cells.toList z g5
  obtain ⟨cs, h1, h2, _, h4⟩ := fill_sound h parts.toList zv.cells z ls (by simpa using g7) (fun j l hj => let ⟨v, h5, h6⟩ := g8 j l hj; ⟨v, by simpa using h5, h6.erep⟩) hf
  refine givesA_of_value h (v := .agg cs) ?_ ⟨cs, rfl, h2, h4⟩
  have hmap : (parts.map fun x => (x.1, a.eval x.2)).toList = parts.toList.map fun p => (p.1, a.eval p.2) := by simp
  unfold execOp
  simp only [ho, Instr.build, Sem.run_bind, run_underlying g1, Result.andThen_ok, typeInfo, zeroValue, Array.mapM_eq_mapM_toList, hmap]
  simp [g3, g4, hrun, h1]

end
end Go.Bw
