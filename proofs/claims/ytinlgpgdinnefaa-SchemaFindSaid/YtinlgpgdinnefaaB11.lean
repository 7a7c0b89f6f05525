/-
  THE LAYER, 11: what is owned is frozen, renamed; slices that the body builds.
-/
import Derived.Test.YtinlgpgdinnefaaB10
set_option linter.unusedSimpArgs false
set_option linter.unusedVariables false
namespace Go.Bw
open Go.RowKit

section
variable {P : Program} {w0 : World} {m0 : Mem} {s s' : St} {a : Act} {w w' : World} {m m' : Mem} {ω ω' : Wh} {F0 : Home} {T : TypeId → Option TI}

/-! ### frozen views -/
def frzRow (fr : L → L) (r : RowC) : List (List L) := match r.ov with
  | [] => r.xs.map fun x => x.map (L.frzN 4)
  | ov => r.xs.zipIdx.map fun p => p.1.zipIdx.map fun q => match ovGet ov p.2 q.2 with | some l => fr l | none => q.1.frzN 4
def frzV : Nat → St → L → L
  | n + 1, s, .ref id lo k => match look s.row id with
    | some r => if lo + k ≤ r.xs.length then .sl r.sz (((frzRow (frzV n s) r).drop lo).take k) else .any
    | none => .any
  | n + 1, s, .eptr id i o => match look s.row id with
    | some r => if i < r.xs.length then .fz (((frzRow (frzV n s) r).getD i []).drop o) else .any
    | none => .any
  | n + 1, s, .ptr id o => match look s.box id with
    | some ls => .fz ((ls.map (frzV n s)).drop o)
    | none => .any
  | n + 1, s, .clo f caps => .clo f (caps.map (frzV n s))
  | 0, _, .ref _ _ _ => .any
  | 0, _, .eptr _ _ _ => .any
  | 0, _, .ptr _ _ => .any
  | 0, _, .clo _ _ => .any
  | _, _, l => l.frzN 4

theorem frzRow_length (fr : L → L) (r : RowC) : (frzRow fr r).length = r.xs.length := by
  unfold frzRow; split <;> simp
theorem frzRow_cell (fr : L → L) (r : RowC) {i j : Nat} {u : L} (h : cellOf (frzRow fr r) i j = some u) : ∃ u0, cellOf r.xs i j = some u0 ∧ u = (match ovGet r.ov i j with | some l => fr l | none => u0.frzN 4) := by
  unfold frzRow at h
  split at h
  · rename_i hov
    obtain ⟨u0, h1, h2⟩ := cellOf_map r.xs (L.frzN 4) i j u h
    exact ⟨u0, h1, by rw [hov]; exact h2⟩
  · unfold cellOf at h ⊢
    rw [List.getElem?_map, List.getElem?_zipIdx] at h
    cases hx : r.xs[i]? with
    | none => rw [hx] at h; simp at h
    | some x =>
      rw [hx] at h
      simp only [Option.map_some, Option.bind_some, List.getElem?_map, List.getElem?_zipIdx, Option.map_eq_some_iff, Nat.zero_add] at h
      obtain ⟨q, ⟨u0, h1, rfl⟩, h2⟩ := h
      exact ⟨u0, by simpa using h1, h2.symm⟩
theorem frzRow_size (fr : L → L) (r : RowC) {sz : Nat} (h : ∀ x ∈ r.xs, x.length = sz) : ∀ x ∈ frzRow fr r, x.length = sz := by
  intro x hx
  unfold frzRow at hx
  split at hx
  · obtain ⟨y, hy, rfl⟩ := List.mem_map.1 hx
    simpa using h y hy
  · obtain ⟨y, hy, rfl⟩ := List.mem_map.1 hx
    simp only [List.length_map, List.length_zipIdx]
    exact h _ (by
      obtain ⟨q, i⟩ := y
      have := List.mem_zipIdx_iff_getElem?.1 hy
      exact List.mem_of_getElem? this)

theorem frzV_sound (h : CI P w0 m0 F0 s a w m ω) (hm : Mem.le m m') (hF : ∀ κ id, s.live κ id → ∀ x : Addr, ω.f κ id x.block → m' x = w.cell? x) : ∀ (n : Nat) (v : Value) (l : L), ERep m ω v l → Rep m' v (frzV n s l) := by
  intro n
  induction n with
  | zero =>
    intro v l hl
    cases l with
    | ref => exact .any v (ERep.oneCell (m := m) (ω := ω) hl)
    | eptr => exact .any v (ERep.oneCell (m := m) (ω := ω) hl)
    | ptr => exact .any v (ERep.oneCell (m := m) (ω := ω) hl)
    | clo => exact .any v (ERep.oneCell (m := m) (ω := ω) hl)
    | own => cases hl
    | _ => exact (Rep.mono hm hl)
  | succ n ih =>
    intro v l hl
    have hrow : ∀ id r, look s.row id = some r → ∀ b, (ω.row id).blk = some b → ∃ cs e, w.heap[b]? = some (.cells cs e (0, 0)) ∧ ω.f true id b ∧ (∀ i j u, cellOf (frzRow (frzV n s) r) i j = some u → ∃ v, m' ((⟨b, 0, none⟩ : Addr).add (i * r.sz + j)) = some v ∧ Rep m' v u) := by
      intro id r hr b hblk
      have hlive : s.live true id := by show (look s.row id).isSome; rw [hr]; rfl
      obtain ⟨g1, g2, g3⟩ := h.row id r hr
      rw [hblk] at g3
      obtain ⟨cs, e, k1, k2, k3, k4, k5, G, k6, k7, k8⟩ := g3
      refine ⟨cs, e, k1, k5, fun i j u hu => ?_⟩
      obtain ⟨u0, hu0, rfl⟩ := frzRow_cell _ r hu
      obtain ⟨v, h3, h4⟩ := k8 i j u0 hu0
      refine ⟨v, ?_, ?_⟩
      · rw [hF true id hlive _ (by rw [block_add]; exact k5), cell_row k1]
        exact h3
      · cases hov : ovGet r.ov i j with
        | some l => rw [hov] at h4; exact ih v l h4
        | none =>
          rw [hov] at h4
          exact CRep.frz h4 hm (fun x hx => hF true id hlive x (k6 i j _ hx).1) 4
    cases l with
    | ref id lo k =>
      simp only [frzV]
      cases hr : look s.row id with
      | none => exact .any v (ERep.oneCell (m := m) (ω := ω) hl)
      | some r =>
        simp only
        split
        · rename_i hlen
          have hl' : RefAt (ω.row id) lo k v := hl
          rcases hl' with ⟨_, rfl, rfl, rfl⟩ | ⟨b, ad, k1, k2, rfl, k4⟩
          · simp only [List.drop_zero, List.take_zero]
            exact .slNil _
          · obtain ⟨cs, e, q1, q2, q3⟩ := hrow id r hr b k1
            obtain ⟨g1, g2, _⟩ := h.row id r hr
            have hcell : ∀ i j u, cellOf (((frzRow (frzV n s) r).drop lo).take k) i j = some u → i < k ∧ cellOf (frzRow (frzV n s) r) (lo + i) j = some u := by
              intro i j u hu
              unfold cellOf at hu ⊢
              rw [List.getElem?_take] at hu
              split at hu
              · rename_i hi
                rw [List.getElem?_drop] at hu
                exact ⟨hi, hu⟩
              · simp at hu
            refine .sl ad k _ r.sz _ (fun i j => (m' (ad.add (i * r.sz + j))).getD default) (by simp [frzRow_length]; omega) (by omega) (fun x hx => frzRow_size _ r g2 x (List.mem_of_mem_drop (List.mem_of_mem_take hx))) (fun i j u hu => ?_) (fun i j u hu => ?_)
            · obtain ⟨hi, hu⟩ := hcell i j u hu
              obtain ⟨v, h3, _⟩ := q3 _ j u hu
              rw [k4 (.inl (by omega)), g1, Addr.add_lit, show lo * r.sz + (i * r.sz + j) = (lo + i) * r.sz + j by rw [Nat.add_mul]; omega]
              rw [Addr.add_lit, Nat.zero_add] at h3
              rw [h3]; rfl
            · obtain ⟨hi, hu⟩ := hcell i j u hu
              obtain ⟨v, h3, h4⟩ := q3 _ j u hu
              rw [k4 (.inl (by omega)), g1, Addr.add_lit, show lo * r.sz + (i * r.sz + j) = (lo + i) * r.sz + j by rw [Nat.add_mul]; omega]
              rw [Addr.add_lit, Nat.zero_add] at h3
              rw [h3]; exact h4
        · exact .any v (ERep.oneCell (m := m) (ω := ω) hl)
    | eptr id i o =>
      simp only [frzV]
      cases hr : look s.row id with
      | none => exact .any v (ERep.oneCell (m := m) (ω := ω) hl)
      | some r =>
        simp only
        split
        · rename_i hlen
          obtain ⟨b, k1, rfl⟩ := hl
          obtain ⟨cs, e, q1, q2, q3⟩ := hrow id r hr b k1
          obtain ⟨g1, g2, _⟩ := h.row id r hr
          refine FRep.rep fun j u hu => ?_
          rw [List.getElem?_drop] at hu
          have hlt : i < (frzRow (frzV n s) r).length := by rw [frzRow_length]; exact hlen
          have hu' : cellOf (frzRow (frzV n s) r) i (o + j) = some u := by
            rw [cellOf_row hlt]; exact hu
          obtain ⟨v, h3, h4⟩ := q3 _ _ u hu'
          refine ⟨v, ?_, h4⟩
          rw [Addr.add_lit] at h3 ⊢
          rw [← h3, g1]
          congr 2
          omega
        · exact .any v (ERep.oneCell (m := m) (ω := ω) hl)
    | ptr id o =>
      simp only [frzV]
      cases hr : look s.box id with
      | none => exact .any v (ERep.oneCell (m := m) (ω := ω) hl)
      | some ls =>
        simp only
        have hlive : s.live false id := by show (look s.box id).isSome; rw [hr]; rfl
        obtain ⟨cs, e, k1, k2, k3, G, k4, k5, k6⟩ := h.box id ls hr
        have hl : v = _ := hl
        subst hl
        refine FRep.rep fun j u hu => ?_
        rw [List.getElem?_drop, List.getElem?_map, Option.map_eq_some_iff] at hu
        obtain ⟨l0, hl0, rfl⟩ := hu
        obtain ⟨v, h3, h4⟩ := k6 _ l0 hl0
        refine ⟨v, ?_, ?_⟩
        · rw [Addr.add_lit, hF false id hlive _ k3]
          simp only [World.cell?, k1]
          exact h3
        · rcases h4.cases with ⟨sz, xs, rfl, h4⟩ | ⟨_, h4⟩
          · have : frzV n s (.own sz xs) = (L.own sz xs).frzN 4 := by cases n <;> rfl
            rw [this]
            exact CRep.frz h4 hm (fun x hx => hF false id hlive x (k4 _ _ hx).1) 4
          · exact ih v l0 h4
    | clo f caps =>
      obtain ⟨vs, rfl, h2, h3⟩ := hl
      simp only [frzV]
      refine .clo f _ vs (fun i => (vs[i]?).getD default) (by simpa using h2) (fun i u hu => ?_) (fun i u hu => ?_)
      · simp only [List.getElem?_map, Option.map_eq_some_iff] at hu
        obtain ⟨u0, hu, rfl⟩ := hu
        obtain ⟨x, h4, _⟩ := h3 i u0 hu
        rw [h4]; rfl
      · simp only [List.getElem?_map, Option.map_eq_some_iff] at hu
        obtain ⟨u0, hu, rfl⟩ := hu
        obtain ⟨x, h4, h5⟩ := h3 i u0 hu
        rw [h4]
        refine ih _ _ ?_
        rcases h5 with h5 | h5
        · exact h5.erep
        · cases u0 with
          | ptr => exact h5
          | eptr => exact h5
          | _ => cases h5
    | own => cases hl
    | _ => exact (Rep.mono hm hl)

def keepL {α : Type} (k : List Nat) (e : List (Nat × α)) : List (Nat × α) := e.filter fun p => k.elem p.1
def dropL {α : Type} (k : List Nat) (e : List (Nat × α)) : List (Nat × α) := e.filter fun p => !k.elem p.1
theorem look_keepL {α : Type} (k : List Nat) : ∀ (e : List (Nat × α)) (i : Nat), look (keepL k e) i = if k.elem i then look e i else none
  | [], i => by simp [keepL, look]
  | (t, x) :: e, i => by
    have ih := look_keepL k e i
    simp only [keepL, List.filter_cons] at ih ⊢
    cases ht : k.elem t with
    | true =>
      simp only [if_true, look]
      by_cases h : t = i
      · subst h; rw [if_pos rfl, if_pos rfl, ht]; rfl
      · rw [if_neg h, if_neg h]; exact ih
    | false =>
      simp only [Bool.false_eq_true, if_false, look]
      rw [ih]
      by_cases h : t = i
      · subst h; rw [ht]; rfl
      · rw [if_neg h]
theorem look_dropL {α : Type} (k : List Nat) : ∀ (e : List (Nat × α)) (i : Nat), look (dropL k e) i = if k.elem i then none else look e i
  | [], i => by simp [dropL, look]
  | (t, x) :: e, i => by
    have ih := look_dropL k e i
    simp only [dropL, List.filter_cons] at ih ⊢
    cases ht : k.elem t with
    | true =>
      simp only [Bool.not_true, Bool.false_eq_true, if_false, look]
      rw [ih]
      by_cases h : t = i
      · subst h; rw [ht]; rfl
      · rw [if_neg h]
    | false =>
      simp only [Bool.not_false, if_true, look]
      by_cases h : t = i
      · subst h; rw [if_pos rfl, if_pos rfl, ht]; rfl
      · rw [if_neg h, if_neg h]; exact ih

/-- All but what is kept is frozen: what a cell then holds. -/
def St.rest (s : St) (kb kr : List Nat) : St := { s with box := dropL kb s.box, row := dropL kr s.row }
def topL (kb kr : List Nat) (s1 : St) : L → L
  | .ref id lo k => if kr.elem id then .ref id lo k else frzV 4 s1 (.ref id lo k)
  | .eptr id i o => if kr.elem id then .eptr id i o else frzV 4 s1 (.eptr id i o)
  | .ptr id o => if kb.elem id then .ptr id o else frzV 4 s1 (.ptr id o)
  | .own sz xs => .own sz xs
  | .clo f caps => .clo f (caps.map fun l => match l with
    | .ptr id o => if kb.elem id then .ptr id o else frzV 4 s1 (.ptr id o)
    | .eptr id i o => if kr.elem id then .eptr id i o else frzV 4 s1 (.eptr id i o)
    | l => l)
  | l => l
def St.freeze (s : St) (kb kr : List Nat) : St :=
  { n := s.n, env := s.env.map fun p => (p.1, p.2.map (topL kb kr (s.rest kb kr))), box := (keepL kb s.box).map fun p => (p.1, p.2.map (topL kb kr (s.rest kb kr))), row := (keepL kr s.row).map fun p => (p.1, p.2.map (topL kb kr (s.rest kb kr))) }

theorem CI.freeze (h : CI P w0 m0 F0 s a w m ω) (kb kr : List Nat) : ∃ m', CI P w0 m0 F0 (s.freeze kb kr) a w m' ω ∧ Mem.le m m' ∧ ∀ v l, ERep m ω v l → ERep m' ω v (topL kb kr (s.rest kb kr) l) := by
  have h1 : CI P w0 m0 F0 (s.rest kb kr) a w m ω := h.weaken rfl (fun _ _ h => h) (fun i ls hi => by
    simp only [St.rest] at hi
    rw [look_dropL] at hi
    split at hi
    · cases hi
    · exact hi) (fun i ls hi => by
    simp only [St.rest] at hi
    rw [look_dropL] at hi
    split at hi
    · cases hi
    · exact hi)
  let F : Nat → Prop := fun k => ∃ κ id, (s.rest kb kr).live κ id ∧ ω.f κ id k
  have hF : ∀ x v, m x = some v → ¬ F x.block := by
    rintro x v hx ⟨κ, id, hl, hk⟩
    exact (h1.fresh κ id hl _ hk).2.2 x v hx rfl
  have hle := frzMem_le (w := w) hF
  have hS := fun n v l hl => frzV_sound h1 hle (fun κ id hl x hx => frzMem_in (m := m) ⟨κ, id, hl, hx⟩) n v l hl
  have hg : ∀ v l, ERep m ω v l → ERep (frzMem m w F) ω v (topL kb kr (s.rest kb kr) l) := by
    have hcap : ∀ x u, (Rep m x u ∨ PRep ω x u) → Rep (frzMem m w F) x (match u with
        | .ptr id o => if kb.elem id then .ptr id o else frzV 4 (s.rest kb kr) (.ptr id o)
        | .eptr id i o => if kr.elem id then .eptr id i o else frzV 4 (s.rest kb kr) (.eptr id i o)
        | l => l) ∨ PRep ω x (match u with
        | .ptr id o => if kb.elem id then .ptr id o else frzV 4 (s.rest kb kr) (.ptr id o)
        | .eptr id i o => if kr.elem id then .eptr id i o else frzV 4 (s.rest kb kr) (.eptr id i o)
        | l => l) := by
      intro x u hu
      cases u with
      | ptr id o =>
        rcases hu with hu | hu
        · cases hu
        · simp only
          split
          · exact .inr hu
          · exact .inl (hS 4 x _ hu)
      | eptr id i o =>
        rcases hu with hu | hu
        · cases hu
        · simp only
          split
          · exact .inr hu
          · exact .inl (hS 4 x _ hu)
      | _ =>
        rcases hu with hu | hu
        · exact .inl (hu.mono hle)
        · cases hu
    intro v l hl
    cases l with
    | ref id lo k =>
      simp only [topL]
      split
      · exact hl
      · exact (hS 4 v _ hl).erep
    | eptr id i o =>
      simp only [topL]
      split
      · exact hl
      · exact (hS 4 v _ hl).erep
    | ptr id o =>
      simp only [topL]
      split
      · exact hl
      · exact (hS 4 v _ hl).erep
    | own => cases hl
    | clo f caps =>
      obtain ⟨vs, rfl, h2, h3⟩ := hl
      refine ⟨vs, rfl, by simpa using h2, fun i u hu => ?_⟩
      simp only [List.getElem?_map, Option.map_eq_some_iff] at hu
      obtain ⟨u0, hu, rfl⟩ := hu
      obtain ⟨x, h4, h5⟩ := h3 i u0 hu
      exact ⟨x, h4, hcap x u0 h5⟩
    | _ => exact Rep.mono hle hl
  refine ⟨_, h.remap (g := topL kb kr (s.rest kb kr)) ⟨hle, hg, fun _ _ => rfl⟩ rfl (fun t x hx => map_look hx) (fun i ls hi => ?_) (fun i r hi => ?_) (frzMem_ok h.ok) (fun x => ?_), hle, hg⟩
  · obtain ⟨y, hy, rfl⟩ := map_look hi
    rw [look_keepL] at hy
    split at hy
    · exact ⟨y, hy, rfl, rfl, rfl⟩
    · cases hy
  · obtain ⟨y, hy, rfl⟩ := map_look hi
    rw [look_keepL] at hy
    split at hy
    · exact ⟨y, hy, rfl, rfl, rfl⟩
    · cases hy
  · by_cases hx : F x.block
    · refine .inr ?_
      obtain ⟨κ, id, hl, hk⟩ := hx
      refine ⟨(h1.fresh κ id hl _ hk).2.1, fun κ' id' hl' hk' => ?_⟩
      -- what is kept isn't what is frozen
      have hk1 : s.live κ' id' ∧ (if κ' then kr.elem id' else kb.elem id') = true := by
        cases κ' with
        | false =>
          simp only [St.live, St.freeze] at hl'
          obtain ⟨z, hz⟩ := Option.isSome_iff_exists.1 hl'
          obtain ⟨y, hy, _⟩ := map_look hz
          rw [look_keepL] at hy
          split at hy
          · rename_i hq; exact ⟨by show (look s.box id').isSome; rw [hy]; rfl, hq⟩
          · cases hy
        | true =>
          simp only [St.live, St.freeze] at hl'
          obtain ⟨z, hz⟩ := Option.isSome_iff_exists.1 hl'
          obtain ⟨y, hy, _⟩ := map_look hz
          rw [look_keepL] at hy
          split at hy
          · rename_i hq; exact ⟨by show (look s.row id').isSome; rw [hy]; rfl, hq⟩
          · cases hy
      have hk2 : s.live κ id ∧ (if κ then kr.elem id else kb.elem id) = false := by
        cases κ with
        | false =>
          simp only [St.live, St.rest] at hl
          rw [look_dropL] at hl
          split at hl
          · cases hl
          · rename_i hq; exact ⟨hl, by simpa using hq⟩
        | true =>
          simp only [St.live, St.rest] at hl
          rw [look_dropL] at hl
          split at hl
          · cases hl
          · rename_i hq; exact ⟨hl, by simpa using hq⟩
      obtain ⟨rfl, rfl⟩ := h.apart _ _ _ _ hk1.1 hk2.1 _ hk' hk
      rw [hk1.2] at hk2
      cases hk2.2
    · exact .inl (frzMem_out hx)

/-! ### a variable takes over a row -/
def St.takeRow (s : St) (id d lo n : Nat) (r : RowC) : St := (s.newRow0 (some id) d r).put d (.v (.one (.ref d lo n)))
theorem moves_takeRow {o : Oper} {x : Operand} {d id lo n : Nat} {r : RowC} (ho : o.op = .assign x) (hd : o.dst = some d) (hn : d < s.n) (h : CI P w0 m0 F0 s a w m ω)
    (hx : evalO T s o.type x = some (.v (.one (.ref id lo n)))) (hb : look s.row id = some r) : Moves P w0 m0 F0 o a w (s.takeRow id d lo n r) := by
  have hlive : s.live true id := by show (look s.row id).isSome; rw [hb]; rfl
  obtain ⟨ω', hC, hri, _⟩ := h.rowNew (some id) d hn (ω.row id) (ω.f true id) (.inl (Below.refl _ _)) (fun k hk => .inl ⟨id, rfl, hlive, hk⟩) (h.row id r hb)
  refine gives_of_run (v := a.eval x) (w' := w) (by unfold execOp; simp only [ho, Sem.run_pure]) ?_
  rw [hd]
  refine ⟨m, ω', hC.put (by rw [newRow0_n]; exact hn) ?_⟩
  show RefAt (ω'.row d) lo n _
  rw [hri]
  exact evalO_sound h hx
def St.nilRow (s : St) (d z : Nat) : St := (s.newRow0 none d ⟨z, [], []⟩).put d (.v (.one (.ref d 0 0)))
theorem moves_nilRow {o : Oper} {x : Operand} {d z : Nat} (ho : o.op = .assign x) (hd : o.dst = some d) (hn : d < s.n) (h : CI P w0 m0 F0 s a w m ω)
    (hx : evalO T s o.type x = some (.v (.one (.nil z)))) : Moves P w0 m0 F0 o a w (s.nilRow d z) := by
  obtain ⟨ω', hC, hri, _⟩ := h.rowNew (r := ⟨z, [], []⟩) none d hn ⟨none, 0, z⟩ (fun _ => False) (.inl (Below.refl _ _)) (fun k hk => hk.elim) ⟨rfl, (fun x hx => by cases hx), rfl, rfl⟩
  refine gives_of_run (v := a.eval x) (w' := w) (by unfold execOp; simp only [ho, Sem.run_pure]) ?_
  rw [hd]
  refine ⟨m, ω', hC.put (by rw [newRow0_n]; exact hn) ?_⟩
  show RefAt (ω'.row d) 0 0 _
  rw [hri]
  have hv : Rep m (a.eval x) (.nil z) := evalO_sound h hx
  generalize a.eval x = u at hv
  cases hv
  exact .inl ⟨rfl, rfl, rfl, rfl⟩

/-! ### a slice that the body builds -/
def ovAll : Nat → List (List L) → List (Nat × Nat × L)
  | _, [] => []
  | i, x :: r => ovAdd i 0 x (ovAll (i + 1) r)
theorem ovGet_all : ∀ (X : List (List L)) (i0 i j : Nat), ovGet (ovAll i0 X) i j = if i0 ≤ i then (match cellOf X (i - i0) j with | some l => if l.isFz then none else some l | none => none) else none
  | [], i0, i, j => by simp [ovAll, ovGet, cellOf]
  | x :: r, i0, i, j => by
    simp only [ovAll]
    rw [ovGet_add, ovGet_all r]
    by_cases h1 : i = i0
    · subst h1
      simp only [Nat.le_refl, if_true, Nat.sub_self, Nat.not_succ_le_self, if_false, true_and, Nat.zero_le, Nat.zero_add, Nat.sub_zero, cellOf, List.getElem?_cons_zero, Option.bind_some]
      by_cases hj : j < x.length
      · rw [if_pos hj]
        cases x[j]? <;> rfl
      · rw [if_neg hj, List.getElem?_eq_none (by omega)]
    · rw [if_neg (fun e => h1 e.1)]
      by_cases h2 : i0 ≤ i
      · rw [if_pos (by omega), if_pos h2]
        have : i - i0 = (i - (i0 + 1)) + 1 := by omega
        simp only [cellOf, this, List.getElem?_cons_succ]
      · rw [if_neg (by omega), if_neg h2]
def rowOf (sz len : Nat) (ls : List L) : RowC := ⟨sz, (chunks sz len ls).map fun x => x.map L.clos, ovAll 0 (chunks sz len ls)⟩

theorem moves_buildSlice {o : Oper} {t e : TypeId} {i j : TI} {len d : Nat} {parts : Array (Nat × Operand)} {z ls : List L} {ty : TypeId} (ho : o.op = .buildSlice t len parts) (hd : o.dst = some d) (hn : d < s.n) (hTab : TabOk P T) (hi : T t = some i) (he : i.elem = some e) (hj : T e = some j)
    (hz : j.zero = some z) (hzl : z.length = j.size) (hsz : 0 < j.size) (hbig : len * j.size ≤ 16777216) (h : CI P w0 m0 F0 s a w m ω)
    (hf : fillL T s ty (fun k => some (k * j.size, j.size)) (repL z len) parts.toList = some ls) : Moves P w0 m0 F0 o a w ((s.newRow0 none d (rowOf j.size len ls)).put d (.v (.one (.ref d 0 len)))) := by
  have F := tiFacts (hTab _ _ hj)
  have hu := (tiFacts (hTab _ _ hi)).elem e he
  obtain ⟨inf, g1, g2, _⟩ := F.info
  obtain ⟨inf', zv, g3, g4, g5, _⟩ := F.zero z hz
  rw [g1] at g3
  injection g3 with g3
  subst g3
  obtain ⟨g7, g8⟩ := matchAll_rep (m := m) zv.cells.toList z g5
  have hzs : zv.cells.size = j.size := by simpa [hzl] using g7
  let init : Array Value := (Array.range (len * j.size)).map (zv.cells[· % zv.cells.size]!)
  have hinit : init.size = (repL z len).length := by simp [init, repL_length, hzl]
  have hir : ∀ (k : Nat) (l : L), (repL z len)[k]? = some l → ∃ v, init[k]? = some v ∧ ERep m ω v l := by
    intro k l hk
    have hlt : k < len * j.size := by
      have := (List.getElem?_eq_some_iff.1 hk).1
      rwa [repL_length, hzl] at this
    rw [repL_get z len k (by rw [hzl]; exact hlt)] at hk
    obtain ⟨v, h1, h2⟩ := g8 _ l hk
    refine ⟨v, ?_, h2.erep⟩
    simp only [init, Array.getElem?_map, Array.getElem?_range, if_pos hlt, Option.map_some]
    rw [hzs, ← hzl]
    have : k % z.length < zv.cells.size := by rw [hzs, ← hzl]; exact Nat.mod_lt _ (by omega)
    rw [getElem!_pos zv.cells (k % z.length) this]
    have h1' : zv.cells[k % z.length]? = some v := by simpa using h1
    rw [Array.getElem?_eq_getElem this] at h1'
    exact h1'
  obtain ⟨cs, h1, h2, h3, h4⟩ := fill_sound h parts.toList init (repL z len) ls hinit hir hf
  have hll : ls.length = len * j.size := by rw [h3, repL_length, hzl]
  have hh : (w.alloc (.cells cs e (0, 0))).heap[w.heap.size]? = some (.cells cs e (0, 0)) := heap_alloc_new w _
  have hlt := (Array.getElem?_eq_some_iff.1 hh).1
  obtain ⟨ω', hC, hri, _⟩ := h.rowNew (w' := w.alloc (.cells cs e (0, 0))) (r := rowOf j.size len ls) none d hn ⟨some w.heap.size, len, j.size⟩ (fun k => k = w.heap.size) (.inl (Below.alloc (Below.refl _ _) (Nat.le_refl _) _)) (fun k hk => .inr ⟨by omega, by omega⟩) (by
    refine ⟨rfl, fun x hx => ?_, ?_⟩
    · obtain ⟨y, hy, rfl⟩ := List.mem_map.1 hx
      simpa [rowOf] using chunks_size j.size len ls hll y hy
    · have hlen : len ≤ maxLen := by
        have : len * 1 ≤ len * j.size := Nat.mul_le_mul_left _ hsz
        unfold maxLen
        omega
      refine ⟨cs, e, hh, by rw [h2, hll]; rfl, by simp [rowOf, chunks_length], hlen, rfl, fun _ _ _ => False, fun i j k hk => hk.elim, fun i j i' j' k hk => hk.elim, fun p q u hu => ?_⟩
      obtain ⟨u0, hu0, rfl⟩ := cellOf_map _ _ _ _ _ hu
      obtain ⟨k1, k2⟩ := chunks_cell j.size len ls p q u0 hu0
      obtain ⟨v, h5, h6⟩ := h4 _ u0 k1
      refine ⟨v, h5, ?_⟩
      simp only [rowOf]
      rw [ovGet_all, if_pos (Nat.zero_le _), Nat.sub_zero, hu0]
      simp only
      by_cases hz : u0.isFz = true
      · rw [if_pos hz]
        show CRep m _ _ v u0.clos
        rw [L.clos, if_pos hz]
        exact .fr (h6.rep hz)
      · rw [if_neg hz]
        exact h6)
  refine gives_of_run (v := .slice (some ⟨w.heap.size, 0, none⟩) len len) (w' := w.alloc (.cells cs e (0, 0))) ?_ ⟨m, ω', ?_⟩
  · have hmap : (parts.map fun x => (x.1, a.eval x.2)).toList = parts.toList.map fun p => (p.1, a.eval p.2) := by simp
    have h1' : Instr.fill (fun i => some (i * inf.size, inf.size)) ((Array.range (len * inf.size)).map (zv.cells[· % zv.cells.size]!)) (parts.toList.map fun p => (p.1, a.eval p.2)) = some cs := by rw [g2]; exact h1
    unfold execOp
    by_cases h0 : len * inf.size = 0
    · have hr0 : Array.range (len * inf.size) = #[] := by rw [h0]; rfl
      rw [hr0] at h1'
      simp only [List.map_toArray, List.map_nil] at h1'
      have hr1 : ∀ f : Nat → Value, (Array.range 0).map f = #[] := fun f => by simp
      simp only [ho, Instr.buildSlice, Sem.run_bind, run_underlying hu, Result.andThen_ok, run_sizeOf g1, hmap]
      rw [if_neg (by omega), if_pos h0]
      simp only [Sem.run_pure, Sem.run_bind, Result.andThen_ok, h0, hr1, h1', newRow, newObj]
      rfl
    · simp only [ho, Instr.buildSlice, Sem.run_bind, run_underlying hu, Result.andThen_ok, run_sizeOf g1, hmap]
      rw [if_neg (by rw [g2]; omega), if_neg h0]
      simp only [zeroValue, typeInfo, Sem.run_bind, Sem.run, g1, g4, Result.andThen_ok, Sem.run_pure, h1', newRow, newObj, program]
      rfl
  · rw [hd]
    refine hC.put (by rw [newRow0_n]; exact hn) ?_
    show RefAt (ω'.row d) 0 len _
    rw [hri]
    exact .inr ⟨w.heap.size, ⟨w.heap.size, 0, none⟩, rfl, by simp, by simp, fun _ => by simp⟩
end
end Go.Bw
