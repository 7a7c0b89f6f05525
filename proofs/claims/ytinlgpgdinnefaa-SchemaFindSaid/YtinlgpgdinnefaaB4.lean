/-
  THE LAYER, 4: the operations that only compute (and may make a new row): what they give, and that they give it.
-/
import Derived.Test.YtinlgpgdinnefaaB3
set_option linter.unusedSimpArgs false
set_option linter.unusedVariables false
namespace Go.Bw
open Go.RowKit

section
variable {P : Program} {w0 : World} {m0 : Mem} {s : St} {a : Act} {w : World} {m : Mem} {ω : Wh} {F0 : Home} {T : TypeId → Option TI}

/-- The operation gives a value, in a world, of which R holds. -/
def Gives (P : Program) (o : Oper) (a : Act) (w : World) (R : Value → World → Prop) : Prop :=
  ∀ next Q, (∀ v w', R v w' → next (a.put o.dst v) w') → o.wp P a w next Q

theorem gives_of_run {o : Oper} {v : Value} {w' : World} {R : Value → World → Prop} (h : (execOp a.eval o).run P w = .ok (.value v) w') (hR : R v w') : Gives P o a w R := by
  intro next Q hn
  unfold Oper.wp
  rw [h, Oper.upon_value]
  exact hn v w' hR

theorem gives_of_skip {o : Oper} {w' : World} {R : Value → World → Prop} (h : (execOp a.eval o).run P w = .ok .skip w') (hR : R undef w') : Gives P o a w R := by
  intro next Q hn
  unfold Oper.wp
  rw [h, Oper.upon_skip]
  exact hn undef w' hR

theorem Gives.mono {o : Oper} {R R' : Value → World → Prop} (h : Gives P o a w R) (hR : ∀ v w', R v w' → R' v w') : Gives P o a w R' :=
  fun next Q hn => h next Q fun v w' hv => hn v w' (hR v w' hv)

def GivesA (P : Program) (w0 : World) (m0 : Mem) (F0 : Home) (s : St) (o : Oper) (x : A) (a : Act) (w : World) (ω : Wh) : Prop :=
  Gives P o a w fun v w' => ∃ m', CI P w0 m0 F0 s a w' m' ω ∧ ARep m' ω v x

theorem givesA_of_value {o : Oper} {v : Value} {x : A} (h : CI P w0 m0 F0 s a w m ω) (hrun : (execOp a.eval o).run P w = .ok (.value v) w) (hx : ARep m ω v x) : GivesA P w0 m0 F0 s o x a w ω :=
  gives_of_run hrun ⟨m, h, hx⟩

/-! ### One by one -/
def intBin (op : BinOp) (k : IntKind) (x y : Int) : Option L :=
  match op with
  | .add => some (.int k (k.wrap (x + y)))
  | .sub => some (.int k (k.wrap (x - y)))
  | .mul => some (.int k (k.wrap (x * y)))
  | .eql => some (.bool (x == y))
  | .neq => some (.bool (x != y))
  | .lss => some (.bool (x < y))
  | .leq => some (.bool (x ≤ y))
  | .gtr => some (.bool (x > y))
  | .geq => some (.bool (x ≥ y))
  | _ => none
def strBin (op : BinOp) (x y : ByteArray) : Option L :=
  match op with
  | .eql => some (.bool (x.toList == y.toList))
  | .neq => some (.bool !(x.toList == y.toList))
  | .lss => some (.bool (Op.bytesLess x.toList y.toList))
  | .leq => some (.bool (Op.bytesLess x.toList y.toList || x.toList == y.toList))
  | .gtr => some (.bool !(Op.bytesLess x.toList y.toList || x.toList == y.toList))
  | .geq => some (.bool !Op.bytesLess x.toList y.toList)
  | _ => none
def intDivL (op : BinOp) (k : IntKind) (x y : Int) : Option (Prop × L) :=
  match op with
  | .rem => some (y ≠ 0, .int k (x.tmod y))
  | .quo => some (y ≠ 0, .int k (k.wrap (x.tdiv y)))
  | _ => none
def boolBin (op : BinOp) (x y : Bool) : Option Bool :=
  match op with
  | .eql => some (x == y)
  | .neq => some !(x == y)
  | _ => none
def shrL (op : BinOp) (k : IntKind) (x y : Int) : Option (Prop × L) :=
  match op with
  | .shr => some (0 ≤ y ∧ y ≤ k.bits, .int k (x / 2 ^ y.toNat))
  | _ => none
def boolTy (P : Program) (t : TypeId) : Bool := match P.underlying t with | some .bool => true | _ => false
def binL (P : Program) (t : TypeId) (op : BinOp) : L → L → Option (Prop × L)
  | .int k x, .int k' y => if k = k' then (match intBin op k x y with | some l => some (True, l) | none => (match intDivL op k x y with | some l => some l | none => shrL op k x y)) else shrL op k x y
  | .str x, .str y => (strBin op x y).map fun l => (True, l)
  | .bool x, .bool y => (boolBin op x y).map fun b => (boolTy P t = true, .bool b)
  | _, _ => none

theorem intBin_run (op : BinOp) (t : TypeId) (k : IntKind) (x y : Int) (l : L) (h : intBin op k x y = some l) : ∃ v, (binOp op t (.int k x) (.int k y)) = pure v ∧ Rep m v l := by
  cases op <;> simp only [intBin, Option.some.injEq, reduceCtorEq] at h <;> subst h <;> simp only [binOp_add, binOp_sub, binOp_mul, binOp_eql, binOp_neq, binOp_lss, binOp_leq, binOp_gtr, binOp_geq, Op.intArith] <;>
    exact ⟨_, rfl, by first | exact .int _ _ | exact .bool _⟩

theorem strBin_run (op : BinOp) (t : TypeId) (x y : ByteArray) (l : L) (h : strBin op x y = some l) : ∃ v, (binOp op t (.string x) (.string y)) = pure v ∧ Rep m v l := by
  cases op <;> simp only [strBin, Option.some.injEq, reduceCtorEq] at h <;> subst h <;> simp only [binOp, Op.stringOp] <;> exact ⟨_, rfl, .bool _⟩

theorem boolTy_under {t : TypeId} (h : boolTy P t = true) : P.underlying t = some .bool := by
  unfold boolTy at h
  split at h
  · assumption
  · cases h
theorem shrL_run {op : BinOp} {t : TypeId} {k k' : IntKind} {x y : Int} {p : Prop} {l : L} (h : shrL op k x y = some (p, l)) (hp : p) : ∃ v, (binOp op t (.int k x) (.int k' y)).run P w = .ok v w ∧ Rep m v l := by
  cases op <;> simp only [shrL, Option.some.injEq, Prod.mk.injEq, reduceCtorEq] at h
  obtain ⟨rfl, rfl⟩ := h
  refine ⟨.int k (x / 2 ^ y.toNat), ?_, .int _ _⟩
  rw [binOp_shr, shift_shr _ _ _ _ hp.1 hp.2]
  rfl

theorem givesA_binOp {o : Oper} {op : BinOp} {t t' : TypeId} {x y : Operand} {l1 l2 l : L} {p : Prop} (ho : o.op = .binOp op t x y t') (h : CI P w0 m0 F0 s a w m ω)
    (hx : evalO T s t x = some (.v (.one l1))) (hy : evalO T s t y = some (.v (.one l2))) (hb : binL P t op l1 l2 = some (p, l)) (hp : p) : GivesA P w0 m0 F0 s o (.v (.one l)) a w ω := by
  have h1 := evalO_sound h hx
  have h2 := evalO_sound h hy
  have key : ∀ u1 u2, ERep m ω u1 l1 → ERep m ω u2 l2 → eqGuard op t x y u1 u2 = pure () ∧ ∃ v, (binOp op t u1 u2).run P w = .ok v w ∧ Rep m v l := by
    clear h1 h2
    unfold binL at hb
    split at hb
    · rename_i k q k' r
      intro u1 u2 h1 h2
      have h1 : Rep m u1 (.int k q) := h1
      have h2 : Rep m u2 (.int k' r) := h2
      cases h1; cases h2
      refine ⟨eqGuard_at_int .., ?_⟩
      split at hb
      · rename_i hk
        subst hk
        split at hb
        · rename_i l' hl
          simp only [Option.some.injEq, Prod.mk.injEq] at hb
          obtain ⟨_, rfl⟩ := hb
          obtain ⟨v, h3, h4⟩ := intBin_run (m := m) op t k q r l' hl
          exact ⟨v, by rw [h3]; rfl, h4⟩
        · split at hb
          · rename_i l' hl
            simp only [Option.some.injEq] at hb
            subst hb
            cases op <;> simp only [intDivL, Option.some.injEq, Prod.mk.injEq, reduceCtorEq] at hl
            · obtain ⟨rfl, rfl⟩ := hl
              refine ⟨.int k (k.wrap (q.tdiv r)), ?_, .int _ _⟩
              simp only [binOp_quo, Op.intDiv]
              simp [hp]
            · obtain ⟨rfl, rfl⟩ := hl
              refine ⟨.int k (q.tmod r), ?_, .int _ _⟩
              simp only [binOp_rem, Op.intDiv]
              simp [hp]
          · exact shrL_run hb hp
      · exact shrL_run hb hp
    · rename_i q r
      intro u1 u2 h1 h2
      have h1 : Rep m u1 (.str q) := h1
      have h2 : Rep m u2 (.str r) := h2
      cases h1; cases h2
      refine ⟨eqGuard_at_string .., ?_⟩
      cases hs : strBin op q r with
      | none => rw [hs] at hb; simp at hb
      | some l' =>
        rw [hs] at hb
        simp only [Option.map_some, Option.some.injEq, Prod.mk.injEq] at hb
        obtain ⟨_, rfl⟩ := hb
        obtain ⟨v, h3, h4⟩ := strBin_run (m := m) op t q r l' hs
        exact ⟨v, by rw [h3]; rfl, h4⟩
    · rename_i q r
      intro u1 u2 h1 h2
      have h1 : Rep m u1 (.bool q) := h1
      have h2 : Rep m u2 (.bool r) := h2
      cases h1; cases h2
      refine ⟨eqGuard_at_bool .., ?_⟩
      cases hs : boolBin op q r with
      | none => rw [hs] at hb; simp at hb
      | some l' =>
        rw [hs] at hb
        simp only [Option.map_some, Option.some.injEq, Prod.mk.injEq] at hb
        obtain ⟨rfl, rfl⟩ := hb
        have hu := boolTy_under hp
        have he := run_equal_bool (P := P) w t q r hu
        cases op <;> simp only [boolBin, Option.some.injEq, reduceCtorEq] at hs
        · subst hs
          exact ⟨.bool (q == r), run_eql_bool (P := P) w t q r hu, .bool _⟩
        · subst hs
          refine ⟨.bool !(q == r), ?_, .bool _⟩
          show (do pure (Value.bool (!(← Op.equal t (.bool q) (.bool r)))) : Sem Value).run P w = _
          simp only [Sem.run_bind, he, Result.andThen_ok, Sem.run_pure]
    · cases hb
  obtain ⟨h0, v, h3, h4⟩ := key _ _ h1 h2
  refine givesA_of_value h (v := v) ?_ h4.erep
  unfold execOp
  simp only [ho, h0, Sem.run_bind, Sem.run_pure, Result.andThen_ok, h3]
end
end Go.Bw
