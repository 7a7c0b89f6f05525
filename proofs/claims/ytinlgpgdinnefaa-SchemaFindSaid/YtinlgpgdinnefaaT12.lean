/-
  WHAT IS PROVED HERE, of this translation: idx_cases, scan_none, mx0_nat, mx0_neg, okTbl_of.
  A theorem that ends in sat says what the function it names returns, whatever the state it is called in; the bounds on its arguments stand ahead of it.
-/
import Derived.Test.YtinlgpgdinnefaaT11
set_option linter.unusedSimpArgs false
set_option linter.unusedVariables false
namespace Go.Bw
open Go.Proofs

theorem idx_cases {α : Type} (p : α → Bool) : ∀ (l : List α) (k : Nat), (idx p l k = -1 ∧ ∀ x ∈ l, p x = false) ∨ ∃ j, ∃ h : j < l.length, idx p l k = ((k + j : Nat) : Int) ∧ p l[j] = true ∧ ∀ i, ∀ hi : i < j, p (l[i]'(by omega)) = false
  | [], k => .inl ⟨rfl, fun x hx => by cases hx⟩
  | x :: l, k => by
    cases hx : p x with
    | true => exact .inr ⟨0, by simp, by simp [idx, hx], by simpa using hx, fun i hi => by omega⟩
    | false =>
      rcases idx_cases p l (k + 1) with ⟨h1, h2⟩ | ⟨j, hj, h1, h2, h3⟩
      · refine .inl ⟨by simp [idx, hx, h1], fun y hy => ?_⟩
        rcases List.mem_cons.1 hy with rfl | hy
        · exact hx
        · exact h2 y hy
      · refine .inr ⟨j + 1, by simpa using hj, ?_, by simpa using h2, fun i hi => ?_⟩
        · simp only [idx, hx, Bool.false_eq_true, if_false, h1]
          omega
        · cases i with
          | zero => simpa using hx
          | succ i => simpa using h3 i (by omega)

theorem scan_none {α : Type} {f : Nat → α → Option Int} : ∀ {l : List α} {k : Nat}, scan f l k = none → ∀ j, ∀ h : j < l.length, f (k + j) l[j] = none
  | [], k, _, j, h => by simp at h
  | x :: l, k, hs, j, h => by
    unfold scan at hs
    split at hs
    · cases hs
    · rename_i hx
      cases j with
      | zero => simpa using hx
      | succ j =>
        have := scan_none hs j (by simpa using h)
        rw [show k + (j + 1) = k + 1 + j by omega]
        simpa using this

theorem mx0_nat (i : Nat) : mx0 (i : Int) = i := by simp [mx0]; omega
theorem mx0_neg : mx0 (-1) = 0 := rfl

/-- A table that is well formed. -/
structure OkTbl (t : Tbl) : Prop where
  name : validName t.name = true
  cols0 : t.cols.length ≠ 0
  cols6 : t.cols.length ≤ 6
  col : ∀ k, ∀ h : k < t.cols.length, validName t.cols[k].name = true ∧ (k : Int) ≤ mx0 (colAt t.cols t.cols[k].name) ∧ 1 ≤ t.cols[k].kind ∧ t.cols[k].kind ≤ 3
  key : ∀ k, ∀ h : k < t.pk.length, 0 ≤ t.pk[k] ∧ t.pk[k] < t.cols.length ∧ (t.cols.getD t.pk[k].toNat zCol).nullable = false ∧ ∀ h0 : 0 < k, t.pk[k - 1] < t.pk[k]
  pk0 : t.pk.length ≠ 0

theorem okTbl_of {t : Tbl} (h : tblE t = 0) : OkTbl t := by
  unfold tblE at h
  split at h
  · cases h
  split at h
  · cases h
  split at h
  · cases h
  rename_i h1 h2 h3
  cases hc : scan (colE t) t.cols 0 with
  | some e =>
    rw [hc] at h
    simp only at h
    subst h
    exfalso
    -- no code of a column is 0
    have : ∀ (l : List Col) (k : Nat) (e : Int), scan (colE t) l k = some e → e ≠ 0 := by
      intro l
      induction l with
      | nil => intro k e he; cases he
      | cons x l ih =>
        intro k e he
        unfold scan at he
        split at he
        · rename_i e' he'
          injection he with he
          subst he
          unfold colE at he'
          split at he'
          · injection he' with he'; omega
          split at he'
          · injection he' with he'; omega
          split at he'
          · injection he' with he'; omega
          · cases he'
        · exact ih _ _ he
    exact this _ _ _ hc rfl
  | none =>
    rw [hc] at h
    simp only at h
    cases hp : scan (pkE t) t.pk 0 with
    | some e =>
      rw [hp] at h
      simp only at h
      subst h
      exfalso
      have : ∀ (l : List Int) (k : Nat) (e : Int), scan (pkE t) l k = some e → e ≠ 0 := by
        intro l
        induction l with
        | nil => intro k e he; cases he
        | cons x l ih =>
          intro k e he
          unfold scan at he
          split at he
          · rename_i e' he'
            injection he with he
            subst he
            unfold pkE at he'
            split at he'
            · injection he' with he'; omega
            · cases he'
          · exact ih _ _ he
      exact this _ _ _ hp rfl
    | none =>
      rw [hp] at h
      simp only at h
      split at h
      · cases h
      rename_i h4
      refine ⟨by simpa using h1, h2, by omega, fun k hk => ?_, fun k hk => ?_, h4⟩
      · have := scan_none hc k hk
        simp only [Nat.zero_add, colE] at this
        split at this
        · cases this
        split at this
        · cases this
        split at this
        · cases this
        rename_i a b c
        exact ⟨by simpa using a, by omega, by omega, by omega⟩
      · have := scan_none hp k hk
        simp only [Nat.zero_add, pkE] at this
        split at this
        · cases this
        rename_i a
        simp only [not_or, Int.not_lt, Int.not_le, Bool.not_eq_true, not_and] at a
        refine ⟨a.1, a.2.1, a.2.2.1, fun h0 => ?_⟩
        have := a.2.2.2 (by omega)
        rw [show ((k : Int) - 1).toNat = k - 1 by omega, List.getD_eq_getElem?_getD, List.getElem?_eq_getElem (by omega)] at this
        simpa using this

def zTbl : Tbl := ⟨ByteArray.empty, [], []⟩
end Go.Bw
