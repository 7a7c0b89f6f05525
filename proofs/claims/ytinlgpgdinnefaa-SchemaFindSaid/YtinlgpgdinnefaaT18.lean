/-
  WHAT IS PROVED HERE, of this translation: bl_irrefl, bl_cons, bl_trans, bl_total, chain_lt, idx_first, okSch_of, OkSch, OkTbl.
  A theorem that ends in sat says what the function it names returns, whatever the state it is called in; the bounds on its arguments stand ahead of it.
-/
import Derived.Test.YtinlgpgdinnefaaT17
set_option linter.unusedSimpArgs false
set_option linter.unusedVariables false
namespace Go.Bw
open Go.Proofs

/-! ### names in order -/
theorem bl_irrefl : ∀ a : List UInt8, Op.bytesLess a a = false
  | [] => rfl
  | x :: a => by simp [Op.bytesLess, bl_irrefl a]
theorem bl_cons (x y : UInt8) (a b : List UInt8) : Op.bytesLess (x :: a) (y :: b) = true ↔ x.toNat < y.toNat ∨ (x = y ∧ Op.bytesLess a b = true) := by
  simp [Op.bytesLess, UInt8.lt_iff_toNat_lt]
theorem bl_trans : ∀ {a b c : List UInt8}, Op.bytesLess a b = true → Op.bytesLess b c = true → Op.bytesLess a c = true
  | [], [], _, h, _ => by simp [Op.bytesLess] at h
  | _ :: _, [], _, h, _ => by simp [Op.bytesLess] at h
  | _, _ :: _, [], _, h => by simp [Op.bytesLess] at h
  | [], _ :: _, _ :: _, _, _ => by simp [Op.bytesLess]
  | x :: a, y :: b, z :: c, h1, h2 => by
    rw [bl_cons] at h1 h2 ⊢
    rcases h1 with h1 | ⟨rfl, h1⟩
    · rcases h2 with h2 | ⟨rfl, h2⟩
      · exact .inl (by omega)
      · exact .inl h1
    · rcases h2 with h2 | ⟨rfl, h2⟩
      · exact .inl h2
      · exact .inr ⟨rfl, bl_trans h1 h2⟩
theorem bl_total : ∀ {a b : List UInt8}, Op.bytesLess a b = false → a ≠ b → Op.bytesLess b a = true
  | [], [], _, h => absurd rfl h
  | [], _ :: _, h, _ => by simp [Op.bytesLess] at h
  | _ :: _, [], _, _ => by simp [Op.bytesLess]
  | x :: a, y :: b, h, hne => by
    have h' : ¬ (x.toNat < y.toNat ∨ (x = y ∧ Op.bytesLess a b = true)) := fun e => by rw [← bl_cons, h] at e; cases e
    rw [bl_cons]
    by_cases hxy : x = y
    · subst hxy
      refine .inr ⟨rfl, bl_total ?_ (fun e => hne (by rw [e]))⟩
      cases hb : Op.bytesLess a b with
      | false => rfl
      | true => exact absurd (.inr ⟨rfl, hb⟩) h'
    · refine .inl ?_
      have : x.toNat ≠ y.toNat := fun e => hxy (UInt8.toNat_inj.1 e)
      have : ¬ x.toNat < y.toNat := fun e => h' (.inl e)
      omega

theorem chain_lt {ns : List (List UInt8)} (h : ∀ k, ∀ h : k + 1 < ns.length, Op.bytesLess ns[k] ns[k + 1] = true) : ∀ d i, ∀ h : i + d + 1 < ns.length, Op.bytesLess ns[i] ns[i + d + 1] = true
  | 0, i, hi => h i hi
  | d + 1, i, hi => bl_trans (chain_lt h d i (by omega)) (h (i + d + 1) hi)

theorem idx_first {α : Type} {p : α → Bool} {l : List α} {k : Nat} (hk : k < l.length) (hp : p l[k] = true) (hb : ∀ i, ∀ h : i < k, p (l[i]'(by omega)) = false) : idx p l 0 = (k : Int) := by
  rcases idx_cases p l 0 with ⟨_, h⟩ | ⟨j, hj, h1, h2, h3⟩
  · rw [h _ (List.getElem_mem hk)] at hp
    cases hp
  · rcases Nat.lt_trichotomy j k with hlt | heq | hgt
    · rw [hb j hlt] at h2
      cases h2
    · rw [h1, heq]; simp
    · rw [h3 k hgt] at hp
      cases hp

/-- A schema that is well formed. -/
structure OkSch (s : Sch) : Prop where
  tbl : ∀ t ∈ s.tables, OkTbl t
  lt : ∀ i j, ∀ h : i < j, ∀ hj : j < s.tables.length, Op.bytesLess s.tables[i].name.toList s.tables[j].name.toList = true
  n6 : s.tables.length ≤ 6
  n8 : s.fks.length ≤ 8
  m8 : s.cons.length ≤ 8

theorem okSch_of {s : Sch} (h : schE s = 0) : OkSch s := by
  unfold schE at h
  split at h
  · cases h
  rename_i h0
  cases hs : scan (tblsE s.tables) s.tables 0 with
  | some e =>
    rw [hs] at h
    simp only at h
    subst h
    exfalso
    have : ∀ (l : List Tbl) (k : Nat) (e : Int), scan (tblsE s.tables) l k = some e → e ≠ 0 := by
      intro l
      induction l with
      | nil => intro k e he; cases he
      | cons x l ih =>
        intro k e he
        unfold scan at he
        split at he
        · rename_i e' he'
          injection he with he
          subst he
          unfold tblsE at he'
          split at he'
          · rename_i hne
            injection he' with he'
            rw [← he']
            exact hne
          · split at he'
            · injection he' with he'; omega
            · cases he'
        · exact ih _ _ he
    exact this _ _ _ hs rfl
  | none =>
    have hk : ∀ k, ∀ h : k < s.tables.length, tblE s.tables[k] = 0 ∧ (0 < k → ¬ (Op.bytesLess s.tables[k].name.toList s.tables[k - 1].name.toList = true ∨ s.tables[k].name.toList = s.tables[k - 1].name.toList)) := by
      intro k hk
      have h1 := scan_none hs k hk
      rw [Nat.zero_add, tblsE] at h1
      split at h1
      · cases h1
      rename_i h2
      split at h1
      · cases h1
      rename_i h3
      refine ⟨by simpa using h2, fun h0 h4 => h3 ⟨by omega, ?_⟩⟩
      rw [show ((k : Int) - 1).toNat = k - 1 by omega, List.getD_eq_getElem?_getD, List.getElem?_eq_getElem (by omega)]
      exact h4
    have hstep : ∀ k, ∀ h : k + 1 < s.tables.length, Op.bytesLess s.tables[k].name.toList s.tables[k + 1].name.toList = true := by
      intro k h1
      have h2 := (hk (k + 1) h1).2 (by omega)
      simp only [not_or, Bool.not_eq_true, Nat.add_sub_cancel] at h2
      exact bl_total h2.1 h2.2
    refine ⟨fun t ht => ?_, fun i j hij hj => ?_, by omega, by omega, by omega⟩
    · obtain ⟨j, hj, rfl⟩ := List.mem_iff_getElem.1 ht
      exact okTbl_of (hk j hj).1
    · have h1 := chain_lt (ns := s.tables.map fun t => t.name.toList) (fun k h => by simpa using hstep k (by simpa using h)) (j - i - 1) i (by simp; omega)
      simp only [List.getElem_map] at h1
      have e : i + (j - i - 1) + 1 = j := by omega
      simpa only [e] using h1

theorem OkSch.at_self {s : Sch} (h : OkSch s) {k : Nat} (hk : k < s.tables.length) : tblAt s.tables s.tables[k].name = (k : Int) := by
  refine idx_first hk (by simp [sEq]) fun i hi => ?_
  have h1 := h.lt i k hi hk
  cases hb : sEq s.tables[i].name s.tables[k].name with
  | false => rfl
  | true =>
    have e : s.tables[i].name.toList = s.tables[k].name.toList := by simpa [sEq] using hb
    rw [e, bl_irrefl] at h1
    cases h1
theorem OkTbl.at_self {t : Tbl} (h : OkTbl t) {k : Nat} (hk : k < t.cols.length) : colAt t.cols t.cols[k].name = (k : Int) := by
  obtain ⟨_, h1, _⟩ := h.col k hk
  rcases idx_cases (fun c => sEq c.name t.cols[k].name) t.cols 0 with ⟨_, h2⟩ | ⟨j, hj, h2, h3, h4⟩
  · have := h2 _ (List.getElem_mem hk)
    simp [sEq] at this
  · have h2 : colAt t.cols t.cols[k].name = ((0 + j : Nat) : Int) := h2
    rw [h2] at h1 ⊢
    rw [mx0_nat] at h1
    rcases Nat.lt_trichotomy j k with hlt | heq | hgt
    · omega
    · omega
    · have := h4 k hgt
      simp [sEq] at this
end Go.Bw
