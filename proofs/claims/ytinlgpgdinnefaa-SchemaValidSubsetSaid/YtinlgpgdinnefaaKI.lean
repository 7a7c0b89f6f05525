/-
  WHAT IS PROVED HERE, of this translation: CRd, CRd, rd_int, rd_bool, rd_string, Rd, weightsAll_mem, choose_list, rd_slice, rdF_nil, rdF_cons, rd_struct, rd_struct2, rd_struct3, rd_struct4, rd_struct5, vrep_agg, vrep_one, calls_of_sat, argsRep_nil, argsRep_cons, trodAll_carry, trodAll_below, post_of_below, rd_I, rd_S, cells_int, cells_string, cells_bool, cells_Value, .., cells_s_Constraint, cells_Schema, bytes_int, bytes_Column, bytes_Table, bytes_ForeignKey, bytes_Constraint, rd_val, rd_col, rd_cols, rd_ints, rd_tbl, rd_tbls, rd_fk, rd_fks, rd_con, rd_cons, rd_sch, reachBytes_eq, Sch, laid, ownK, cells_oneC, cells_Row, cells_s_Row, bytes_Value, bytes_Row, rd_row, rd_rows.
  A theorem that ends in sat says what the function it names returns, whatever the state it is called in; the bounds on its arguments stand ahead of it.
-/
import Derived.Test.YtinlgpgdinnefaaKD
import Derived.ChangeArms
import Derived.SizedLaws
import Derived.JoinedOf
import Derived.ChangeSame
import Derived.RowKit
import Derived.Carry
import Derived.Test.YtinlgpgdinnefaaKF
set_option linter.unusedSimpArgs false
set_option linter.unusedVariables false

namespace Go.Bw
open Go.RowKit

/-- The memory of a world, all of it read. -/
def memOf (w : World) : Mem := fun x => w.cell? x
def CRd (w : World) (cs : List Value) (ls : List L) : Prop := cs.length = ls.length ∧ ∀ (j : Nat) (l : L), ls[j]? = some l → ∃ v, cs[j]? = some v ∧ Rep (memOf w) v l

theorem CRd.append {w : World} {cs cs' : List Value} {ls ls' : List L} (h : CRd w cs ls) (h' : CRd w cs' ls') : CRd w (cs ++ cs') (ls ++ ls') := by
  refine ⟨by simp [h.1, h'.1], fun j l hj => ?_⟩
  rcases Nat.lt_or_ge j ls.length with hlt | hge
  · rw [List.getElem?_append_left hlt] at hj
    rw [List.getElem?_append_left (by rw [h.1]; exact hlt)]
    exact h.2 j l hj
  · rw [List.getElem?_append_right hge] at hj
    rw [List.getElem?_append_right (by rw [h.1]; exact hge), h.1]
    exact h'.2 _ l hj

/-- What reads at type t reads as e says, of some x that is good. -/
structure Rd (P : Program) (w : World) (t : TypeId) {α : Type} (e : α → List L) (good : α → Prop) : Prop where
  get : ∀ {H : Type} {enc : TypeId × Value → H} {base : Nat} {spare : Nat → Bool} {held : Bool} {n : Nat} {cs : List Value} {x : DataW H × List MemPlace}, DataW.trod enc P w base spare held n t cs = some x →
    (∀ n ∈ x.1.weights P t, n ≤ reachBytes) → ∃ y, good y ∧ CRd w cs (e y)

variable {P : Program} {w : World} {t : TypeId}

theorem CRd.one {v : Value} {l : L} (h : Rep (memOf w) v l) : CRd w [v] [l] := by
  refine ⟨rfl, fun j x hj => ?_⟩
  cases j with
  | zero => simp only [List.getElem?_cons_zero, Option.some.injEq] at hj; subst hj; exact ⟨v, rfl, h⟩
  | succ j => simp at hj

theorem rd_int {k : IntKind} (ht : P.underlying t = some (.int k)) : Rd P w t (fun n => [.int k n]) fun n => (Lit.int k n).wf = true := by
  constructor
  intro H enc base spare held n cs x h _
  obtain ⟨m, rfl, rfl, hw⟩ := DataW.trod_int ht h
  exact ⟨m, hw, .one (.int k m)⟩
theorem rd_bool (ht : P.underlying t = some .bool) : Rd P w t (fun b => [.bool b]) fun _ => True := by
  constructor
  intro H enc base spare held n cs x h _
  obtain ⟨b, rfl, rfl⟩ := DataW.trod_bool ht h
  exact ⟨b, trivial, .one (.bool b)⟩
theorem rd_string (ht : P.underlying t = some .string) : Rd P w t (fun s => [.str s]) fun s => s.size ≤ reachBytes := by
  constructor
  intro H enc base spare held n cs x h hw
  obtain ⟨s, rfl, rfl, _⟩ := DataW.trod_string ht h
  exact ⟨s, hw s.size (by simp [DataW.weights]), .one (.str s)⟩
theorem Rd.to {α β : Type} {e : α → List L} {e' : β → List L} {good : α → Prop} {good' : β → Prop} (h : Rd P w t e good) (f : α → β) (he : ∀ x, e' (f x) = e x) (hg : ∀ x, good x → good' (f x)) : Rd P w t e' good' := by
  constructor
  intro H enc base spare held n cs x h1 h2
  obtain ⟨y, h3, h4⟩ := h.get h1 h2
  exact ⟨f y, hg y h3, by rw [he]; exact h4⟩

theorem weightsAll_mem {H : Type} {e : TypeId} : ∀ {ds : List (DataW H)} {d : DataW H}, d ∈ ds → ∀ n ∈ d.weights P e, n ∈ DataW.weightsAll P e ds
  | d0 :: ds, d, hd, n, hn => by
    simp only [DataW.weightsAll, List.mem_append]
    rcases List.mem_cons.1 hd with rfl | hd
    · exact .inl hn
    · exact .inr (weightsAll_mem hd n hn)

/-- Each has one: a list of them. -/
theorem choose_list {α : Type} {R : Nat → α → Prop} : ∀ (n : Nat), (∀ i, i < n → ∃ x, R i x) → ∃ l : List α, l.length = n ∧ ∀ i x, l[i]? = some x → R i x
  | 0, _ => ⟨[], rfl, fun i x h => by simp at h⟩
  | n + 1, h => by
    obtain ⟨l, h1, h2⟩ := choose_list n fun i hi => h i (by omega)
    obtain ⟨x, hx⟩ := h n (by omega)
    refine ⟨l ++ [x], by simp [h1], fun i y hy => ?_⟩
    rcases Nat.lt_or_ge i n with hlt | hge
    · rw [List.getElem?_append_left (by omega)] at hy
      exact h2 i y hy
    · rw [List.getElem?_append_right (by omega)] at hy
      have : i = n := by
        have := (List.getElem?_eq_some_iff.1 hy).1
        simp only [List.length_singleton] at this
        omega
      subst this
      simp [h1] at hy
      subst hy
      exact hx

theorem rd_slice {e : TypeId} {α : Type} {eβ : α → List L} {good : α → Prop} {sz b : Nat} (ht : P.underlying t = some (.slice e)) (hsz : P.cellsOf e = sz) (hb : P.bytesOf e = b) (hl : ∀ x, (eβ x).length = sz) (h : Rd P w e eβ good) :
    Rd P w t (fun l => [.sl sz (l.map eβ)]) fun l : List α => l.length * b ≤ reachBytes ∧ ∀ x ∈ l, good x := by
  constructor
  intro H enc base spare held n cs x h1 h2
  rcases DataW.trod_slice ht h1 with ⟨rfl, rfl⟩ | ⟨a, len, cap, elems, rest, m, rfl, rfl, rfl, k1, k2, k3, k4, k5, k6, k7⟩
  · exact ⟨[], ⟨by simp, by simp⟩, .one (.slNil sz)⟩
  · rw [hsz] at k5
    have hw : ∀ d ∈ elems.map (·.1), ∀ n ∈ d.weights P e, n ≤ reachBytes := fun d hd n hn => h2 n (by
      simp only [DataW.weights, ht, List.mem_cons, List.mem_append]
      exact .inr (.inl (weightsAll_mem hd n hn)))
    have hbw : len * b ≤ reachBytes := by
      have := h2 ((elems.length + rest.length) * P.bytesOf e) (by simp [DataW.weights, ht])
      rw [hb, k4] at this
      exact Nat.le_trans (Nat.mul_le_mul_right _ (by omega)) this
    obtain ⟨l, h3, h4⟩ := choose_list (R := fun i (x : α) => good x ∧ ∃ cs, w.cells? base (a.add (i * sz)) sz = some cs ∧ CRd w cs (eβ x)) len fun i hi => by
      have k8 := k5 i hi
      have hi' : i < elems.length := by omega
      rw [List.getElem?_eq_getElem hi'] at k8
      obtain ⟨cs, h5, h6⟩ := Option.bind_eq_some_iff.1 k8
      obtain ⟨x, h7, h8⟩ := h.get h6 (hw _ (List.mem_map.2 ⟨_, List.getElem_mem hi', rfl⟩))
      exact ⟨x, h7, cs, h5, h8⟩
    refine ⟨l, ⟨by rw [h3]; exact hbw, fun x hx => ?_⟩, .one ?_⟩
    · obtain ⟨i, hi, rfl⟩ := List.mem_iff_getElem.1 hx
      exact (h4 i _ (List.getElem?_eq_getElem hi)).1
    · -- each cell
      have hcell : ∀ i j u, cellOf (l.map eβ) i j = some u → ∃ v, memOf w (a.add (i * sz + j)) = some v ∧ Rep (memOf w) v u := by
        intro i j u hu
        unfold cellOf at hu
        rw [List.getElem?_map] at hu
        cases hli : l[i]? with
        | none => rw [hli] at hu; simp at hu
        | some x =>
          rw [hli] at hu
          simp only [Option.map_some, Option.bind_some] at hu
          obtain ⟨_, cs, h5, h6, h7⟩ := h4 i x hli
          obtain ⟨v, h8, h9⟩ := h7 j u hu
          refine ⟨v, ?_, h9⟩
          have hj : j < sz := by
            have := (List.getElem?_eq_some_iff.1 hu).1
            rw [hl] at this
            exact this
          unfold World.cells? at h5
          split at h5
          · have := mapM_some_get h5 j j (by simp [hj])
            rw [h8, Addr.add_add] at this
            exact this
          · cases h5
      refine .sl a len cap sz (l.map eβ) (fun i j => (memOf w (a.add (i * sz + j))).getD default) (by simp [h3]) k2 (fun y hy => ?_) (fun i j u hu => ?_) (fun i j u hu => ?_)
      · obtain ⟨x, _, rfl⟩ := List.mem_map.1 hy
        exact hl x
      · obtain ⟨v, h5, _⟩ := hcell i j u hu
        rw [h5]; rfl
      · obtain ⟨v, h5, h6⟩ := hcell i j u hu
        rw [h5]; exact h6

/-- The fields of a struct, from the cell off on. -/
structure RdF (P : Program) (w : World) (fs : List Field) (off : Nat) {α : Type} (e : α → List L) (good : α → Prop) : Prop where
  get : ∀ {H : Type} {enc : TypeId × Value → H} {base : Nat} {spare : Nat → Bool} {held : Bool} {n : Nat} {cs : List Value} {xs : List (DataW H × List MemPlace)}, xs.length = fs.length →
    (∀ (i : Nat) (f : Field), fs[i]? = some f → DataW.trod enc P w base spare held n f.type ((cs.drop f.offset).take (P.cellsOf f.type)) = xs[i]?) →
    (∀ n ∈ DataW.weightsEach P (fs.map (·.type)) (xs.map (·.1)), n ≤ reachBytes) → off + (fs.map fun f => P.cellsOf f.type).sum = cs.length → ∃ y, good y ∧ CRd w (cs.drop off) (e y)

theorem rdF_nil {off : Nat} : RdF P w [] off (fun _ : Unit => []) fun _ => True := by
  constructor
  intro H enc base spare held n cs xs _ _ _ hl
  refine ⟨(), trivial, ?_⟩
  have : cs.drop off = [] := List.drop_eq_nil_of_le (by simp at hl; omega)
  rw [this]
  exact ⟨rfl, fun j l hj => by simp at hj⟩
theorem rdF_cons {f : Field} {fs : List Field} {off sz : Nat} {α β : Type} {e0 : α → List L} {e1 : β → List L} {g0 : α → Prop} {g1 : β → Prop} (hf : f.offset = off) (hsz : P.cellsOf f.type = sz) (h0 : Rd P w f.type e0 g0) (h1 : RdF P w fs (off + sz) e1 g1) :
    RdF P w (f :: fs) off (fun p : α × β => e0 p.1 ++ e1 p.2) fun p => g0 p.1 ∧ g1 p.2 := by
  constructor
  intro H enc base spare held n cs xs hx ht hw hl
  cases xs with
  | nil => simp at hx
  | cons x xs =>
    have k0 := ht 0 f rfl
    simp only [List.getElem?_cons_zero] at k0
    obtain ⟨y, h2, h3⟩ := h0.get k0 fun n hn => hw n (by simp only [List.map_cons, DataW.weightsEach, List.mem_append]; exact .inl hn)
    obtain ⟨z, h4, h5⟩ := h1.get (cs := cs) (by simpa using hx) (fun i f' hi => by have := ht (i + 1) f' (by simpa using hi); simpa using this) (fun n hn => hw n (by simp only [List.map_cons, DataW.weightsEach, List.mem_append]; exact .inr hn)) (by simp only [List.map_cons, List.sum_cons, hsz] at hl; omega)
    refine ⟨(y, z), ⟨h2, h4⟩, ?_⟩
    have e : cs.drop off = (cs.drop f.offset).take (P.cellsOf f.type) ++ cs.drop (off + sz) := by
      rw [hf, hsz, ← List.drop_drop, List.take_append_drop]
    rw [e]
    exact h3.append h5
theorem rd_struct {fs : Array Field} {α : Type} {e : α → List L} {good : α → Prop} (ht : P.underlying t = some (.struct fs)) (hc : P.cellsOf t = (fs.toList.map fun f => P.cellsOf f.type).sum) (h : RdF P w fs.toList 0 e good) : Rd P w t e good := by
  constructor
  intro H enc base spare held n cs x h1 h2
  obtain ⟨xs, m, rfl, rfl, k1, k2, k3⟩ := DataW.trod_struct ht h1
  obtain ⟨y, h3, h4⟩ := h.get (cs := cs) (by simpa using k2) (fun i f hi => k3 i f (by simpa using hi)) (fun n hn => h2 n (by simp only [DataW.weights, ht]; exact hn)) (by rw [k1, hc]; simp)
  exact ⟨y, h3, by simpa using h4⟩

theorem rd_struct2 {f0 f1 : Field} {z0 z1 : Nat} {α β : Type} {e0 : α → List L} {e1 : β → List L} {g0 : α → Prop} {g1 : β → Prop} (ht : P.underlying t = some (.struct #[f0, f1])) (ho : f0.offset = 0 ∧ f1.offset = 0 + z0) (hz : P.cellsOf f0.type = z0 ∧ P.cellsOf f1.type = z1) (hc : P.cellsOf t = 0 + z0 + z1) (h0 : Rd P w f0.type e0 g0) (h1 : Rd P w f1.type e1 g1) : Rd P w t (fun p : α × β × Unit => e0 p.1 ++ (e1 p.2.1 ++ [])) (fun p => g0 p.1 ∧ g1 p.2.1 ∧ True) :=
  rd_struct ht (by rw [hc]; simp [hz.1, hz.2]; try omega) (rdF_cons ho.1 hz.1 h0 (rdF_cons ho.2 hz.2 h1 (rdF_nil)))
theorem rd_struct3 {f0 f1 f2 : Field} {z0 z1 z2 : Nat} {α β γ : Type} {e0 : α → List L} {e1 : β → List L} {e2 : γ → List L} {g0 : α → Prop} {g1 : β → Prop} {g2 : γ → Prop} (ht : P.underlying t = some (.struct #[f0, f1, f2])) (ho : f0.offset = 0 ∧ f1.offset = 0 + z0 ∧ f2.offset = 0 + z0 + z1) (hz : P.cellsOf f0.type = z0 ∧ P.cellsOf f1.type = z1 ∧ P.cellsOf f2.type = z2) (hc : P.cellsOf t = 0 + z0 + z1 + z2) (h0 : Rd P w f0.type e0 g0) (h1 : Rd P w f1.type e1 g1) (h2 : Rd P w f2.type e2 g2) : Rd P w t (fun p : α × β × γ × Unit => e0 p.1 ++ (e1 p.2.1 ++ (e2 p.2.2.1 ++ []))) (fun p => g0 p.1 ∧ g1 p.2.1 ∧ g2 p.2.2.1 ∧ True) :=
  rd_struct ht (by rw [hc]; simp [hz.1, hz.2.1, hz.2.2]; try omega) (rdF_cons ho.1 hz.1 h0 (rdF_cons ho.2.1 hz.2.1 h1 (rdF_cons ho.2.2 hz.2.2 h2 (rdF_nil))))
theorem rd_struct4 {f0 f1 f2 f3 : Field} {z0 z1 z2 z3 : Nat} {α β γ δ : Type} {e0 : α → List L} {e1 : β → List L} {e2 : γ → List L} {e3 : δ → List L} {g0 : α → Prop} {g1 : β → Prop} {g2 : γ → Prop} {g3 : δ → Prop} (ht : P.underlying t = some (.struct #[f0, f1, f2, f3])) (ho : f0.offset = 0 ∧ f1.offset = 0 + z0 ∧ f2.offset = 0 + z0 + z1 ∧ f3.offset = 0 + z0 + z1 + z2) (hz : P.cellsOf f0.type = z0 ∧ P.cellsOf f1.type = z1 ∧ P.cellsOf f2.type = z2 ∧ P.cellsOf f3.type = z3) (hc : P.cellsOf t = 0 + z0 + z1 + z2 + z3) (h0 : Rd P w f0.type e0 g0) (h1 : Rd P w f1.type e1 g1) (h2 : Rd P w f2.type e2 g2) (h3 : Rd P w f3.type e3 g3) : Rd P w t (fun p : α × β × γ × δ × Unit => e0 p.1 ++ (e1 p.2.1 ++ (e2 p.2.2.1 ++ (e3 p.2.2.2.1 ++ [])))) (fun p => g0 p.1 ∧ g1 p.2.1 ∧ g2 p.2.2.1 ∧ g3 p.2.2.2.1 ∧ True) :=
  rd_struct ht (by rw [hc]; simp [hz.1, hz.2.1, hz.2.2.1, hz.2.2.2]; try omega) (rdF_cons ho.1 hz.1 h0 (rdF_cons ho.2.1 hz.2.1 h1 (rdF_cons ho.2.2.1 hz.2.2.1 h2 (rdF_cons ho.2.2.2 hz.2.2.2 h3 (rdF_nil)))))
theorem rd_struct5 {f0 f1 f2 f3 f4 : Field} {z0 z1 z2 z3 z4 : Nat} {α β γ δ ε : Type} {e0 : α → List L} {e1 : β → List L} {e2 : γ → List L} {e3 : δ → List L} {e4 : ε → List L} {g0 : α → Prop} {g1 : β → Prop} {g2 : γ → Prop} {g3 : δ → Prop} {g4 : ε → Prop} (ht : P.underlying t = some (.struct #[f0, f1, f2, f3, f4])) (ho : f0.offset = 0 ∧ f1.offset = 0 + z0 ∧ f2.offset = 0 + z0 + z1 ∧ f3.offset = 0 + z0 + z1 + z2 ∧ f4.offset = 0 + z0 + z1 + z2 + z3) (hz : P.cellsOf f0.type = z0 ∧ P.cellsOf f1.type = z1 ∧ P.cellsOf f2.type = z2 ∧ P.cellsOf f3.type = z3 ∧ P.cellsOf f4.type = z4) (hc : P.cellsOf t = 0 + z0 + z1 + z2 + z3 + z4) (h0 : Rd P w f0.type e0 g0) (h1 : Rd P w f1.type e1 g1) (h2 : Rd P w f2.type e2 g2) (h3 : Rd P w f3.type e3 g3) (h4 : Rd P w f4.type e4 g4) : Rd P w t (fun p : α × β × γ × δ × ε × Unit => e0 p.1 ++ (e1 p.2.1 ++ (e2 p.2.2.1 ++ (e3 p.2.2.2.1 ++ (e4 p.2.2.2.2.1 ++ []))))) (fun p => g0 p.1 ∧ g1 p.2.1 ∧ g2 p.2.2.1 ∧ g3 p.2.2.2.1 ∧ g4 p.2.2.2.2.1 ∧ True) :=
  rd_struct ht (by rw [hc]; simp [hz.1, hz.2.1, hz.2.2.1, hz.2.2.2.1, hz.2.2.2.2]; try omega) (rdF_cons ho.1 hz.1 h0 (rdF_cons ho.2.1 hz.2.1 h1 (rdF_cons ho.2.2.1 hz.2.2.1 h2 (rdF_cons ho.2.2.2.1 hz.2.2.2.1 h3 (rdF_cons ho.2.2.2.2 hz.2.2.2.2 h4 (rdF_nil))))))

/-! ### an argument -/
/-- A value that reads so. -/
theorem vrep_agg {cs : Array Value} {ls : List L} {ω : Wh} (h : CRd w cs.toList ls) : VRep (memOf w) ω (.agg cs) (.agg ls) := by
  refine ⟨cs, rfl, by simpa using h.1, fun j l hj => ?_⟩
  obtain ⟨v, h1, h2⟩ := h.2 j l hj
  exact ⟨v, by simpa using h1, h2.erep⟩
theorem vrep_one {v : Value} {l : L} {ω : Wh} (h : CRd w [v] [l]) : VRep (memOf w) ω v (.one l) := by
  obtain ⟨v', h1, h2⟩ := h.2 0 l rfl
  simp only [List.getElem?_cons_zero, Option.some.injEq] at h1
  subst h1
  exact h2.erep

/-- A contract of a function with a body, at values that read so in the world: it is called, and below the old heap nothing turns. -/
theorem calls_of_sat {f : FuncId} {fn : Func} {c : Code} {xs : List V} {b : Bool} {vs : List Value} (hf : P.funcs[f]? = some fn) (hb : fn.body = some c) (hn : (fn.name == "runtime.NumGoroutine") = false) (h : Sat P f xs (.v (.one (.bool b))))
    (hA : ∀ ω, ArgsRep (memOf w) ω vs xs) : Calls P f vs.toArray w fun e w' => e = .returned (.bool b) ∧ Below w.heap.size w w' := by
  have ω : Wh := { box := fun _ => 0, row := fun _ => { blk := none, cap := 0, sz := 0 }, f := fun _ _ _ => False }
  have hCI : CI P w (memOf w) (handed [] [] ω) (roots [] []) a0 w (memOf w) ω := by
    refine { size := rfl, defers := rfl, keeps := ⟨rfl, rfl, rfl, Nat.le_refl _, fun _ _ _ => rfl⟩, mle := Mem.le_refl _, mold := fun _ _ _ => rfl, ok := fun _ _ h => h, env := fun _ _ h => (by cases h), box := fun _ _ h => (by cases h), row := fun _ _ h => (by cases h), fresh := fun κ id hl => ?_, apart := fun κ id κ' id' hl => ?_, home := ⟨fun id hid => ?_, fun _ _ h => (by simp [handed, look] at h), fun _ _ h => (by simp [handed, look] at h)⟩ }
    · cases κ <;> exact absurd hl (by simp [St.live, roots, look])
    · cases κ <;> exact absurd hl (by simp [St.live, roots, look])
    · simp [handed, look] at hid
  have h1 := h.call (memOf w) w vs ω hCI (hA ω)
  rcases h1 with ⟨v, w', h2, _⟩ | ⟨_, h2⟩
  · have h3 : (callFunc f vs.toArray).run P w = .ok (.enter f vs.toArray) w := by
      simp only [callFunc, Sem.run_bind, program, Sem.run, Result.andThen_ok, hf]
      rw [hn, hb]
      simp
    rw [h3] at h2
    cases h2
  · refine h2.mono fun e w' ⟨v, he, m', ω', hC, hv⟩ => ?_
    have hv : v = .bool b := by
      have hv : Rep m' v (.bool b) := hv
      cases hv
      rfl
    subst hv
    refine ⟨he, hC.keeps.os, hC.keeps.tape, hC.keeps.output, hC.keeps.size, fun k hk => hC.keeps.block k hk fun ho => ?_⟩
    obtain ⟨κ, id, hl, _⟩ := ho
    cases κ <;> exact absurd hl (by simp [St.live, roots, look])

theorem argsRep_nil {m : Mem} {ω : Wh} : ArgsRep m ω [] [] := ⟨rfl, fun i x h => by simp at h⟩
theorem argsRep_cons {m : Mem} {ω : Wh} {v : Value} {x : V} {vs : List Value} {xs : List V} (h : VRep m ω v x) (hs : ArgsRep m ω vs xs) : ArgsRep m ω (v :: vs) (x :: xs) := by
  refine ⟨by simp [hs.1], fun i y hy => ?_⟩
  cases i with
  | zero => simp only [List.getElem?_cons_zero, Option.some.injEq] at hy; subst hy; exact ⟨v, rfl, h⟩
  | succ i => exact hs.2 i y (by simpa using hy)

/-! ### behind the call -/
section
open Go.ChangeShapes
variable {H : Type} {enc : TypeId × Value → H} {w' : World} {base : Nat} {sp : Nat → Bool} {held : Bool}
theorem trodAll_carry (hs : ∀ p : MemPlace, p.block < w.heap.size → w.sameAt w' p) : ∀ {ts : List TypeId} {vs : List Value} {ds : List (DataW H)} {ps : List MemPlace}, DataW.TrodAll enc P w base sp held ts vs ds ps → (∀ p ∈ ps, p.block < w.heap.size) → DataW.TrodAll enc P w' base sp held ts vs ds ps
  | [], vs, ds, ps, h, _ => by
    obtain ⟨rfl, rfl, rfl⟩ := trodAll_nil h
    exact rfl
  | t :: ts, vs, ds, ps, h, hp => by
    obtain ⟨v, vs1, d, ds1, a, b, rfl, rfl, rfl, ⟨n, h1⟩, h2⟩ := trodAll_cons h
    exact ⟨a, b, ⟨n, DataW.trod_carry n _ _ _ h1 fun p hp' => hs p (hp p (by simp [hp']))⟩, trodAll_carry hs h2 fun p hp' => hp p (by simp [hp']), rfl⟩
theorem trodAll_below (hl : laidOutB P = true) (hb : Below w.heap.size w w') : ∀ {ts : List TypeId} {vs : List Value} {ds : List (DataW H)} {ps : List MemPlace}, (ts.all fun t => P.readableRec t && decide (t < P.types.size)) = true → DataW.TrodAll enc P w 0 (fun _ => true) true ts vs ds ps → (∀ p ∈ ps, p.block < w.heap.size) →
    DataW.TrodAll enc P w' 0 (fun b => decide (b < w.heap.size)) true ts vs ds ps
  | [], vs, ds, ps, _, h, _ => by
    obtain ⟨rfl, rfl, rfl⟩ := trodAll_nil h
    exact rfl
  | t :: ts, vs, ds, ps, hr, h, hp => by
    obtain ⟨v, vs1, d, ds1, a, b, rfl, rfl, rfl, h1, h2⟩ := trodAll_cons h
    simp only [List.all_cons, Bool.and_eq_true, decide_eq_true_eq] at hr
    exact ⟨a, b, Below.trod hl hr.1.1 hr.1.2 h1 hb fun p hp' => hp p (by simp [hp']), trodAll_below hl hb hr.2 h2 fun p hp' => hp p (by simp [hp']), rfl⟩

/-- A law that only reads and says true: what it leaves. -/
theorem post_of_below {f : Func} {s : ChangeSpec} {apart fresh again : Bool} {args : Array Value} {ds gs : List (DataW H)} {before : List MemPlace} {rt : TypeId} (hl : laidOutB P = true) (hrt : f.resultTypes = #[rt]) (hub : P.underlying rt = some .bool)
    (hread : (f.params.toList.all fun t => P.readableRec t && decide (t < P.types.size)) = true) (hvs : s.vars = [])
    (hW : DataW.Whole enc P f.params.toList s.vars apart w args.toList ds gs before) (hb : Below w.heap.size w w')
    (hfn : s.fn H ds = { results := [.lit (.bool true)], args := ds }) : s.post enc P f apart fresh false again w args (.bool true) w' := by
  have hW0 := hW
  have hlt : ∀ p ∈ before, p.block < w.heap.size := fun p hp => by simpa using hW.lt p hp
  obtain ⟨p, q, hA, hV, rfl, hz, hn⟩ := hW
  rw [hvs] at hV
  have hgq : gs = [] ∧ q = [] := by
    cases gs with
    | nil => exact ⟨rfl, hV⟩
    | cons g gs => exact absurd hV (by simp [DataW.TrodVars])
  obtain ⟨rfl, rfl⟩ := hgq
  simp only [List.append_nil] at hlt hz hn ⊢
  have hres : ∀ (b : Nat) (sp : Nat → Bool) (hd : Bool), DataW.TrodAll enc P w' b sp hd f.resultTypes.toList ((Value.bool true).resultList f.resultTypes.size) (s.fn H (ds ++ [])).results [] := by
    intro b sp hd
    rw [hrt, List.append_nil, hfn]
    exact ⟨[], [], ⟨1, by simp [DataW.trod, hub, Value.cells]⟩, rfl, rfl⟩
  have hargs1 := trodAll_below (P := P) hl hb hread hA hlt
  have hargs2 := trodAll_carry (P := P) (w := w) (w' := w') (fun p hp => hb.same hp) hA hlt
  have hvars : ∀ sp, DataW.TrodVars enc P w' sp s.vars (s.fn H (ds ++ [])).vars [] := by
    intro sp
    rw [hvs, List.append_nil, hfn]
    exact rfl
  refine ⟨ds, [], p ++ [], [], p, [], hW0, hres _ _ _, by rw [List.append_nil, hfn]; exact hargs1, hvars _, World.keptBut_mono (fun p hp => ⟨by simpa using hp.1, ?_⟩) (hb.frame fun x => x ∈ p ∧ True), fun _ => ?_⟩
  · simpa using hp.1
  · refine ⟨?_, _, _, ([] ++ p) ++ [], ⟨[] ++ p, [], trodAll_append hargs2 (hres _ _ _), hvars _, rfl, ?_, ?_⟩, ?_⟩
    · exact ok_one hrt rfl (okWide_bool_mk hub true)
    · intro b off hp
      have hp : MemPlace.cell b off ∈ p := by simpa using hp
      rw [hb.frozen (hlt _ hp)]
      exact hz b off hp
    · intro ha
      simpa using hn ha
    · intro p hp _
      simpa using hp
end
end Go.Bw

namespace Go.Bw
open Go.Proofs

abbrev IntOk (n : Int) : Prop := (Lit.int .i64 n).wf = true
structure Val.Ok (v : Val) : Prop where
  kind : IntOk v.kind
  int : IntOk v.int
  text : v.text.size ≤ reachBytes
structure Col.Ok (c : Col) : Prop where
  name : c.name.size ≤ reachBytes
  kind : IntOk c.kind
structure Tbl.Ok (t : Tbl) : Prop where
  name : t.name.size ≤ reachBytes
  cols : t.cols.length * 32 ≤ reachBytes ∧ ∀ c ∈ t.cols, c.Ok
  pk : t.pk.length * 8 ≤ reachBytes ∧ ∀ n ∈ t.pk, IntOk n
structure FK.Ok (f : FK) : Prop where
  table : f.table.size ≤ reachBytes
  cols : f.cols.length * 8 ≤ reachBytes ∧ ∀ n ∈ f.cols, IntOk n
  ref : f.ref.size ≤ reachBytes
structure Con.Ok (c : Con) : Prop where
  table : c.table.size ≤ reachBytes
  left : IntOk c.left
  op : c.op.size ≤ reachBytes
  right : IntOk c.right
  value : c.value.Ok
structure Sch.Ok (s : Sch) : Prop where
  tables : s.tables.length * 64 ≤ reachBytes ∧ ∀ t ∈ s.tables, t.Ok
  fks : s.fks.length * 56 ≤ reachBytes ∧ ∀ f ∈ s.fks, f.Ok
  cons : s.cons.length * 80 ≤ reachBytes ∧ ∀ c ∈ s.cons, c.Ok
def Row.Ok (r : Row) : Prop := r.length * 32 ≤ reachBytes ∧ ∀ v ∈ r, v.Ok
def RowsOk (rs : List Row) : Prop := rs.length * 24 ≤ reachBytes ∧ ∀ r ∈ rs, Row.Ok r
structure Rel.Ok (r : Rel) : Prop where
  table : r.table.size ≤ reachBytes
  rows : RowsOk r.rows
def InstOk (i : Inst) : Prop := i.length * 40 ≤ reachBytes ∧ ∀ r ∈ i, r.Ok
structure Chg.Ok (c : Chg) : Prop where
  kind : IntOk c.kind
  table : c.table.size ≤ reachBytes
  key : Row.Ok c.key
  row : Row.Ok c.row
def ChgsOk (l : List Chg) : Prop := l.length * 72 ≤ reachBytes ∧ ∀ c ∈ l, c.Ok

variable {w : World}
theorem rd_I : Rd Try.prog w 3 (fun n => [.int .i64 n]) IntOk := rd_int Try.underlying3
theorem rd_S : Rd Try.prog w 9 (fun s => [.str s]) fun s => s.size ≤ reachBytes := rd_string Try.underlying9
theorem cells_int : Try.prog.cellsOf 3 = 1 := by kernel_rfl
theorem cells_string : Try.prog.cellsOf 9 = 1 := by kernel_rfl
theorem cells_bool : Try.prog.cellsOf 4 = 1 := by kernel_rfl
theorem cells_Value : Try.prog.cellsOf 59 = 3 := by kernel_rfl
theorem cells_s_Column : Try.prog.cellsOf 30 = 1 := by kernel_rfl
theorem cells_Column : Try.prog.cellsOf 38 = 3 := by kernel_rfl
theorem cells_s_int : Try.prog.cellsOf 31 = 1 := by kernel_rfl
theorem cells_Table : Try.prog.cellsOf 33 = 3 := by kernel_rfl
theorem cells_s_Table : Try.prog.cellsOf 22 = 1 := by kernel_rfl
theorem cells_ForeignKey : Try.prog.cellsOf 55 = 3 := by kernel_rfl
theorem cells_s_ForeignKey : Try.prog.cellsOf 23 = 1 := by kernel_rfl
theorem cells_Constraint : Try.prog.cellsOf 61 = 7 := by kernel_rfl
theorem cells_s_Constraint : Try.prog.cellsOf 24 = 1 := by kernel_rfl
theorem cells_Schema : Try.prog.cellsOf 26 = 3 := by kernel_rfl
theorem bytes_int : Try.prog.bytesOf 3 = 8 := by kernel_rfl
theorem bytes_Column : Try.prog.bytesOf 38 = 32 := by kernel_rfl
theorem bytes_Table : Try.prog.bytesOf 33 = 64 := by kernel_rfl
theorem bytes_ForeignKey : Try.prog.bytesOf 55 = 56 := by kernel_rfl
theorem bytes_Constraint : Try.prog.bytesOf 61 = 80 := by kernel_rfl
theorem rd_val : Rd Try.prog w 59 eVal Val.Ok :=
  (rd_struct3 Try.underlying59 ⟨rfl, rfl, rfl⟩ ⟨cells_int, cells_int, cells_string⟩ cells_Value rd_I rd_I rd_S).to (fun p => ⟨p.1, p.2.1, p.2.2.1⟩) (fun _ => by simp [eVal]) fun _ h => ⟨h.1, h.2.1, h.2.2.1⟩
theorem rd_col : Rd Try.prog w 38 eCol Col.Ok :=
  (rd_struct3 Try.underlying38 ⟨rfl, rfl, rfl⟩ ⟨cells_string, cells_int, cells_bool⟩ cells_Column rd_S rd_I (rd_bool Try.underlying4)).to (fun p => ⟨p.1, p.2.1, p.2.2.1⟩) (fun _ => by simp [eCol]) fun _ h => ⟨h.1, h.2.1⟩
theorem rd_cols : Rd Try.prog w 30 (fun l => [eCols l]) fun l => l.length * 32 ≤ reachBytes ∧ ∀ c ∈ l, Col.Ok c :=
  rd_slice Try.underlying30 cells_Column bytes_Column (fun _ => rfl) rd_col
theorem rd_ints : Rd Try.prog w 31 (fun l => [eInts l]) fun l => l.length * 8 ≤ reachBytes ∧ ∀ c ∈ l, IntOk c :=
  rd_slice Try.underlying31 cells_int bytes_int (fun _ => rfl) (eβ := eInt1) rd_I
theorem rd_tbl : Rd Try.prog w 33 eTbl Tbl.Ok :=
  (rd_struct3 Try.underlying33 ⟨rfl, rfl, rfl⟩ ⟨cells_string, cells_s_Column, cells_s_int⟩ cells_Table rd_S rd_cols rd_ints).to (fun p => ⟨p.1, p.2.1, p.2.2.1⟩) (fun _ => by simp [eTbl]) fun _ h => ⟨h.1, h.2.1, h.2.2.1⟩
theorem rd_tbls : Rd Try.prog w 22 (fun l => [eTbls l]) fun l => l.length * 64 ≤ reachBytes ∧ ∀ c ∈ l, Tbl.Ok c :=
  rd_slice Try.underlying22 cells_Table bytes_Table (fun _ => rfl) rd_tbl
theorem rd_fk : Rd Try.prog w 55 eFK FK.Ok :=
  (rd_struct3 Try.underlying55 ⟨rfl, rfl, rfl⟩ ⟨cells_string, cells_s_int, cells_string⟩ cells_ForeignKey rd_S rd_ints rd_S).to (fun p => ⟨p.1, p.2.1, p.2.2.1⟩) (fun _ => by simp [eFK]) fun _ h => ⟨h.1, h.2.1, h.2.2.1⟩
theorem rd_fks : Rd Try.prog w 23 (fun l => [eFKs l]) fun l => l.length * 56 ≤ reachBytes ∧ ∀ c ∈ l, FK.Ok c :=
  rd_slice Try.underlying23 cells_ForeignKey bytes_ForeignKey (fun _ => rfl) rd_fk
theorem rd_con : Rd Try.prog w 61 eCon Con.Ok :=
  (rd_struct5 Try.underlying61 ⟨rfl, rfl, rfl, rfl, rfl⟩ ⟨cells_string, cells_int, cells_string, cells_int, cells_Value⟩ cells_Constraint rd_S rd_I rd_S rd_I rd_val).to (fun p => ⟨p.1, p.2.1, p.2.2.1, p.2.2.2.1, p.2.2.2.2.1⟩) (fun _ => by simp [eCon, eVal]) fun _ h => ⟨h.1, h.2.1, h.2.2.1, h.2.2.2.1, h.2.2.2.2.1⟩
theorem rd_cons : Rd Try.prog w 24 (fun l => [eCons l]) fun l => l.length * 80 ≤ reachBytes ∧ ∀ c ∈ l, Con.Ok c :=
  rd_slice Try.underlying24 cells_Constraint bytes_Constraint (fun _ => rfl) rd_con
theorem rd_sch : Rd Try.prog w 26 eSch Sch.Ok :=
  (rd_struct3 Try.underlying26 ⟨rfl, rfl, rfl⟩ ⟨cells_s_Table, cells_s_ForeignKey, cells_s_Constraint⟩ cells_Schema rd_tbls rd_fks rd_cons).to (fun p => ⟨p.1, p.2.1, p.2.2.1⟩) (fun _ => by simp [eSch]) fun _ h => ⟨h.1, h.2.1, h.2.2.1⟩
theorem reachBytes_eq : reachBytes = 140737488351232 := rfl
theorem Sch.Ok.fits {s : Sch} (h : s.Ok) : s.Fits := by
  obtain ⟨⟨a1, a2⟩, ⟨b1, b2⟩, ⟨c1, c2⟩⟩ := h
  rw [reachBytes_eq] at a1 b1 c1
  refine ⟨by omega, fun t ht => ?_, by omega, fun f hf => ?_, by omega⟩
  · obtain ⟨_, ⟨h1, _⟩, ⟨h2, _⟩⟩ := a2 t ht
    rw [reachBytes_eq] at h1 h2
    exact ⟨by omega, by omega⟩
  · obtain ⟨_, ⟨h1, _⟩, _⟩ := b2 f hf
    rw [reachBytes_eq] at h1
    omega
end Go.Bw

namespace Go.Bw
open Go.Proofs

theorem laid : laidOutB Try.prog = true := by kernel_rfl
theorem ownK : ownKnob Try.prog.godebug = none := by kernel_rfl

/-- A value that is no struct: it is its one cell. -/
def oneDesc : TypeDesc → Bool
  | .slice _ => true
  | .string => true
  | .bool => true
  | .int _ => true
  | _ => false
theorem cells_oneC {P : Program} {w : World} {base : Nat} {t : TypeId} {v : Value} {d : TypeDesc} (hu : P.underlying t = some d) (hd : oneDesc d = true) (h : Value.okWide P w .any base t v) : v.cells.toList = [v] := by
  have hne : ∀ cs, v ≠ .agg cs := by
    rintro cs rfl
    cases d <;> simp [oneDesc] at hd <;> simp [Value.okWide, hu, Cell.okWide, Cell.ok] at h
  cases v with
  | agg cs => exact absurd rfl (hne cs)
  | _ => rfl

variable {w : World}
theorem cells_Row : Try.prog.cellsOf 43 = 1 := by kernel_rfl
theorem cells_s_Row : Try.prog.cellsOf 41 = 1 := by kernel_rfl
theorem bytes_Value : Try.prog.bytesOf 59 = 32 := by kernel_rfl
theorem bytes_Row : Try.prog.bytesOf 43 = 24 := by kernel_rfl
theorem rd_row : Rd Try.prog w 43 (fun l => [eRow l]) Row.Ok :=
  rd_slice Try.underlying43 cells_Value bytes_Value (fun _ => rfl) rd_val
theorem rd_rows : Rd Try.prog w 41 (fun l => [eRows l]) RowsOk :=
  rd_slice Try.underlying41 cells_Row bytes_Row (fun _ => rfl) (eβ := eRow1) rd_row
end Go.Bw
