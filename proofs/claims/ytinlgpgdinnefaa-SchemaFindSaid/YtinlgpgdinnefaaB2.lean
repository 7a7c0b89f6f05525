/-
  THE LAYER, 2: how the meaning of a state is kept when the state, the memory or the world is changed.
-/
import Derived.Test.YtinlgpgdinnefaaB1
set_option linter.unusedSimpArgs false
set_option linter.unusedVariables false
namespace Go.Bw
open Go.RowKit

section
variable {P : Program} {w0 : World} {m0 : Mem} {F0 : Home} {s s' : St} {a : Act} {w w' : World} {m m' : Mem} {ω ω' : Wh}

theorem Keeps.refl (F : Nat → Prop) (w : World) : Keeps F w w := ⟨rfl, rfl, rfl, Nat.le_refl _, fun _ _ _ => rfl⟩
theorem Keeps.below {F : Nat → Prop} (h : Keeps F w0 w) (hb : Below w.heap.size w w') : Keeps F w0 w' :=
  ⟨hb.os.trans h.os, hb.tape.trans h.tape, hb.output.trans h.output, Nat.le_trans h.size hb.size, fun k hk hF => (hb.block k (Nat.lt_of_lt_of_le hk h.size)).trans (h.block k hk hF)⟩
theorem Keeps.grown {F : Nat → Prop} (h : Keeps F w0 w) {b : Nat} (hg : w.grownBy w' (some b)) (hb : w0.heap.size ≤ b ∨ F b) : Keeps F w0 w' :=
  ⟨hg.os.trans h.os, hg.tape.trans h.tape, hg.output.trans h.output, Nat.le_trans h.size hg.size, fun k hk hF => (hg.block k (Nat.lt_of_lt_of_le hk h.size) (fun e => by
    injection e with e
    subst e
    rcases hb with hb | hb
    · omega
    · exact hF hb)).trans (h.block k hk hF)⟩

theorem m_lt (hok : ∀ x v, m x = some v → w.cell? x = some v) {x : Addr} (h : w.heap.size ≤ x.block) : m x = none := by
  cases hm : m x with
  | none => rfl
  | some v => exact absurd (World.block_lt_of_cell? w x (hok x v hm)) (by omega)

theorem BoxRep.keep {id : Nat} {ls : List L} (h : BoxRep m w ω id ls) (hm : Mem.le m m') (hw : ∀ k, ω.f false id k → w'.heap[k]? = w.heap[k]?) : BoxRep m' w' ω id ls := by
  obtain ⟨cs, e, h1, h2, h3, G, h4, h5, h6⟩ := h
  exact ⟨cs, e, (hw _ h3).trans h1, h2, h3, G, h4, h5, fun j l hj => let ⟨v, h7, h8⟩ := h6 j l hj; ⟨v, h7, h8.keep hm fun k hk => hw k (h4 j k hk).1⟩⟩
theorem RCell.keep {G : Nat → Prop} {v : Value} {u : L} {o : Option L} (h : RCell m w ω G v u o) (hm : Mem.le m m') (hw : ∀ k, G k → w'.heap[k]? = w.heap[k]?) : RCell m' w' ω G v u o := by
  cases o with
  | none => exact CRep.keep hm h hw
  | some l => exact ERep.mono hm h
theorem RowRep.keep {id : Nat} {r : RowC} (h : RowRep m w ω id r) (hm : Mem.le m m') (hw : ∀ k, ω.f true id k → w'.heap[k]? = w.heap[k]?) : RowRep m' w' ω id r := by
  obtain ⟨h1, h2, h3⟩ := h
  refine ⟨h1, h2, ?_⟩
  split at h3
  · exact h3
  · obtain ⟨cs, e, g1, g2, g3, g4, g5, G, g6, g7, g8⟩ := h3
    exact ⟨cs, e, (hw _ g5).trans g1, g2, g3, g4, g5, G, g6, g7, fun i j u hu => let ⟨v, g9, g10⟩ := g8 i j u hu; ⟨v, g9, g10.keep hm fun k hk => hw k (g6 i j k hk).1⟩⟩

/-- Only new blocks. -/
theorem CI.grow (h : CI P w0 m0 F0 s a w m ω) (hb : Below w.heap.size w w') (hm : Mem.le m m')
    (hmo : ∀ x : Addr, x.block < w.heap.size → m' x = m x) (hok : ∀ x v, m' x = some v → w'.cell? x = some v) : CI P w0 m0 F0 s a w' m' ω where
  size := h.size
  defers := h.defers
  keeps := h.keeps.below hb
  mle := Mem.le_trans h.mle hm
  mold := fun x hx hF => (hmo x (Nat.lt_of_lt_of_le hx h.keeps.size)).trans (h.mold x hx hF)
  ok := hok
  env := fun t x hx => (h.env t x hx).mono hm
  box := fun id ls hl => (h.box id ls hl).keep hm fun k hk => hb.block k (h.fresh false id (by show (look s.box id).isSome; rw [hl]; rfl) k hk).1
  row := fun id r hl => (h.row id r hl).keep hm fun k hk => hb.block k (h.fresh true id (by show (look s.row id).isSome; rw [hl]; rfl) k hk).1
  fresh := fun κ id hl k hk => by
    obtain ⟨h1, h2, h3⟩ := h.fresh κ id hl k hk
    refine ⟨Nat.lt_of_lt_of_le h1 hb.size, h2, fun x v hx he => h3 x v ?_ he⟩
    rw [← hmo x (by omega)]
    exact hx
  apart := h.apart
  home := h.home

theorem CI.draw (h : CI P w0 m0 F0 s a w m ω) : CI P w0 m0 F0 s a w.drew m ω :=
  h.grow ⟨rfl, rfl, rfl, Nat.le_refl _, fun _ _ => rfl⟩ (Mem.le_refl m) (fun _ _ => rfl) (fun x v hx => h.ok x v hx)

theorem getD_set (a : Array Value) (d : Nat) (v : Value) (hd : d < a.size) (t : Nat) : (a.setIfInBounds d v).getD t undef = if t = d then v else a.getD t undef := by
  by_cases h : t = d
  · subst h
    simp [Array.getD, hd]
  · rw [if_neg h]
    simp only [Array.getD_eq_getD_getElem?]
    rw [Array.getElem?_setIfInBounds_ne (fun e => h e.symm)]

/-- A slot is written. -/
theorem CI.put (h : CI P w0 m0 F0 s a w m ω) {d : Nat} {v : Value} {x : A} (hd : d < s.n) (hx : ARep m ω v x) : CI P w0 m0 F0 (s.put d x) (a.put (some d) v) w m ω where
  size := by simpa [Act.put, St.put] using h.size
  defers := h.defers
  keeps := h.keeps
  mle := h.mle
  mold := h.mold
  ok := h.ok
  env := fun t y hy => by
    simp only [Act.put]
    rw [getD_set _ _ _ (by rw [h.size]; exact hd)]
    simp only [St.put, look] at hy
    by_cases ht : d = t
    · rw [if_pos ht] at hy
      injection hy with hy
      subst hy
      rw [if_pos ht.symm]
      exact hx
    · rw [if_neg ht] at hy
      rw [if_neg (fun e => ht e.symm)]
      exact h.env t y hy
  box := h.box
  row := h.row
  fresh := fun κ id hl => h.fresh κ id (by cases κ <;> exact hl)
  apart := fun κ id κ' id' hl hl' => h.apart κ id κ' id' (by cases κ <;> exact hl) (by cases κ' <;> exact hl')
  home := ⟨h.home.big, h.home.box, h.home.row⟩

theorem CI.put_none (h : CI P w0 m0 F0 s a w m ω) (v : Value) : CI P w0 m0 F0 s (a.put none v) w m ω := h

theorem arep_undef {m : Mem} {ω : Wh} : ARep m ω undef (.tup []) := ⟨#[], rfl, rfl, fun j x hx => by simp at hx⟩

/-! ### all at once -/
structure Remap (m m' : Mem) (ω ω' : Wh) (g : L → L) : Prop where
  le : Mem.le m m'
  e : ∀ v l, ERep m ω v l → ERep m' ω' v (g l)
  own : ∀ sz xs, g (.own sz xs) = .own sz xs

theorem XRep.remap {g : L → L} (R : Remap m m' ω ω' g) {G : Nat → Prop} {v : Value} {l : L} (h : XRep m w ω G v l) : XRep m' w ω' G v (g l) := by
  rcases h.cases with ⟨sz, xs, rfl, h⟩ | ⟨_, h⟩
  · rw [R.own]
    exact CRep.keep R.le h fun _ _ => rfl
  · exact (R.e _ _ h).xrep
theorem BoxRep.remap {g : L → L} (R : Remap m m' ω ω' g) {id id' : Nat} {ls : List L} (h : BoxRep m w ω id ls) (hb : ω'.box id' = ω.box id) (hf : ω'.f false id' = ω.f false id) : BoxRep m' w ω' id' (ls.map g) := by
  obtain ⟨cs, e, h1, h2, h3, G, h4, h5, h6⟩ := h
  refine ⟨cs, e, by rw [hb]; exact h1, by simpa using h2, by rw [hb, hf]; exact h3, G, fun j k hk => by rw [hb, hf]; exact h4 j k hk, h5, fun j l hj => ?_⟩
  simp only [List.getElem?_map, Option.map_eq_some_iff] at hj
  obtain ⟨l0, hj, rfl⟩ := hj
  obtain ⟨v, h7, h8⟩ := h6 j l0 hj
  exact ⟨v, h7, h8.remap R⟩
theorem RowRepG.remap {g : L → L} (R : Remap m m' ω ω' g) {ri : RowI} {F : Nat → Prop} {r : RowC} (h : RowRepG m w ω ri F r) : RowRepG m' w ω' ri F (r.map g) := by
  obtain ⟨h1, h2, h3⟩ := h
  refine ⟨h1, h2, ?_⟩
  split
  · rename_i hq
    rw [hq] at h3
    exact h3
  · rename_i b hq
    rw [hq] at h3
    obtain ⟨cs, e, g1, g2, g3, g4, g5, G, g6, g7, g8⟩ := h3
    refine ⟨cs, e, g1, g2, g3, g4, g5, G, g6, g7, fun i j u hu => ?_⟩
    obtain ⟨v, g9, g10⟩ := g8 i j u hu
    refine ⟨v, g9, ?_⟩
    simp only [RowC.map]
    rw [ovGet_map]
    cases hov : ovGet r.ov i j with
    | none => rw [hov] at g10; exact CRep.keep R.le g10 fun _ _ => rfl
    | some l => rw [hov] at g10; exact R.e _ _ g10
theorem RowRep.remap {g : L → L} (R : Remap m m' ω ω' g) {id id' : Nat} {r : RowC} (h : RowRep m w ω id r) (hb : ω'.row id' = ω.row id) (hf : ω'.f true id' = ω.f true id) : RowRep m' w ω' id' (r.map g) := by
  unfold RowRep
  rw [hb, hf]
  exact RowRepG.remap R h

theorem CI.remap (h : CI P w0 m0 F0 s a w m ω) {g : L → L} (R : Remap m m' ω ω' g) (hn : s'.n = s.n)
    (henv : ∀ t x, look s'.env t = some x → ∃ y, look s.env t = some y ∧ x = y.map g)
    (hbox : ∀ id ls, look s'.box id = some ls → ∃ ls0, look s.box id = some ls0 ∧ ls = ls0.map g ∧ ω'.box id = ω.box id ∧ ω'.f false id = ω.f false id)
    (hrow : ∀ id r, look s'.row id = some r → ∃ r0, look s.row id = some r0 ∧ r = r0.map g ∧ ω'.row id = ω.row id ∧ ω'.f true id = ω.f true id)
    (hok : ∀ x v, m' x = some v → w.cell? x = some v)
    (hm : ∀ x, m' x = m x ∨ ((w0.heap.size ≤ x.block ∨ F0 x.block) ∧ ∀ κ id, s'.live κ id → ¬ ω'.f κ id x.block)) : CI P w0 m0 F0 s' a w m' ω' := by
  have hlive : ∀ κ id, s'.live κ id → s.live κ id ∧ ω'.f κ id = ω.f κ id := by
    intro κ id hl
    cases κ with
    | false =>
      obtain ⟨ls, hls⟩ := Option.isSome_iff_exists.1 hl
      obtain ⟨ls0, h1, _, _, h2⟩ := hbox id ls hls
      exact ⟨by show (look s.box _).isSome; rw [h1]; rfl, h2⟩
    | true =>
      obtain ⟨ls, hls⟩ := Option.isSome_iff_exists.1 hl
      obtain ⟨ls0, h1, _, _, h2⟩ := hrow id ls hls
      exact ⟨by show (look s.row _).isSome; rw [h1]; rfl, h2⟩
  refine { size := hn ▸ h.size, defers := h.defers, keeps := h.keeps, mle := Mem.le_trans h.mle R.le, mold := ?_, ok := hok, env := ?_, box := ?_, row := ?_, fresh := ?_, apart := ?_, home := ?_ }
  · intro x hx hF
    rcases hm x with he | ⟨he, _⟩
    · rw [he]; exact h.mold x hx hF
    · rcases he with he | he
      · omega
      · exact absurd he hF
  · intro t x hx
    obtain ⟨y, hy, rfl⟩ := henv t x hx
    exact (h.env t y hy).map R.e
  · intro id ls hls
    obtain ⟨ls0, h1, rfl, h2, h3⟩ := hbox id ls hls
    exact (h.box _ _ h1).remap R h2 h3
  · intro id r hr
    obtain ⟨r0, h1, rfl, h2, h3⟩ := hrow id r hr
    exact (h.row _ _ h1).remap R h2 h3
  · intro κ id hl k hk
    obtain ⟨h1, h2⟩ := hlive κ id hl
    have hk' := hk
    rw [h2] at hk'
    obtain ⟨h3, h4, h5⟩ := h.fresh κ _ h1 k hk'
    refine ⟨h3, h4, fun x v hx he => ?_⟩
    rcases hm x with hmx | ⟨_, hmx⟩
    · exact h5 x v (by rw [← hmx]; exact hx) he
    · exact hmx κ id hl (by rw [he]; exact hk)
  · intro κ id κ' id' hl hl' k hk hk'
    obtain ⟨h1, h2⟩ := hlive κ id hl
    obtain ⟨h1', h2'⟩ := hlive κ' id' hl'
    rw [h2] at hk
    rw [h2'] at hk'
    exact h.apart _ _ _ _ h1 h1' k hk hk'
  · refine ⟨fun id hid => hn ▸ h.home.big id hid, fun id b hb hl => ?_, fun id b hb hl => ?_⟩
    · obtain ⟨ls, hls⟩ := Option.isSome_iff_exists.1 hl
      obtain ⟨ls0, h1, _, h2, _⟩ := hbox id ls hls
      rw [h2]
      exact h.home.box id b hb (by rw [h1]; rfl)
    · obtain ⟨ls, hls⟩ := Option.isSome_iff_exists.1 hl
      obtain ⟨ls0, h1, _, h2, _⟩ := hrow id ls hls
      rw [h2]
      exact h.home.row id b hb (by rw [h1]; rfl)

/-- Less is known. -/
theorem CI.weaken (h : CI P w0 m0 F0 s a w m ω) (hn : s'.n = s.n) (he : ∀ t x, look s'.env t = some x → look s.env t = some x)
    (hb : ∀ i ls, look s'.box i = some ls → look s.box i = some ls) (hr : ∀ i r, look s'.row i = some r → look s.row i = some r) : CI P w0 m0 F0 s' a w m ω := by
  have hl : ∀ κ id, s'.live κ id → s.live κ id := by
    intro κ id hl
    cases κ with
    | false => obtain ⟨x, hx⟩ := Option.isSome_iff_exists.1 hl; show (look s.box id).isSome; rw [hb _ _ hx]; rfl
    | true => obtain ⟨x, hx⟩ := Option.isSome_iff_exists.1 hl; show (look s.row id).isSome; rw [hr _ _ hx]; rfl
  exact { size := hn ▸ h.size, defers := h.defers, keeps := h.keeps, mle := h.mle, mold := h.mold, ok := h.ok, env := fun t x hx => h.env t x (he t x hx), box := fun i ls hi => h.box i ls (hb i ls hi), row := fun i r hi => h.row i r (hr i r hi),
          fresh := fun κ id hx => h.fresh κ id (hl κ id hx), apart := fun κ id κ' id' hx hx' => h.apart κ id κ' id' (hl κ id hx) (hl κ' id' hx'),
          home := ⟨fun id hid => hn ▸ h.home.big id hid, fun id b hb hi => h.home.box id b hb (hl false id hi), fun id b hb hi => h.home.row id b hb (hl true id hi)⟩ }

/-- What the ids that are not live own is of no matter; nor where they lie, if nothing points there. -/
theorem CI.reF (h : CI P w0 m0 F0 s a w m ω) (f : Bool → Nat → Nat → Prop) (hf : ∀ κ id, s.live κ id → f κ id = ω.f κ id) : CI P w0 m0 F0 s a w m { ω with f := f } := by
  have hE : ∀ v l, ERep m ω v l → ERep m { ω with f := f } v l := by
    intro v l hl
    cases l with
    | clo f' caps => obtain ⟨vs, h1, h2, h3⟩ := hl; exact ⟨vs, h1, h2, fun i u hu => let ⟨x, h4, h5⟩ := h3 i u hu; ⟨x, h4, h5.imp id (fun hp => by cases u <;> exact hp)⟩⟩
    | _ => exact hl
  have hid : ∀ x : A, x = x.map id := by
    intro x
    cases x with
    | v x => cases x <;> simp [A.map, V.map]
    | tup xs =>
      simp only [A.map]
      congr 1
      have : V.map id = id := by funext x; cases x <;> simp [V.map]
      rw [this]; simp
  refine h.remap (g := id) ⟨Mem.le_refl m, hE, fun _ _ => rfl⟩ rfl (fun t x hx => ⟨x, hx, hid x⟩) (fun i ls hi => ⟨ls, hi, by simp, rfl, hf false i (by show (look s.box i).isSome; rw [hi]; rfl)⟩)
    (fun i r hi => ⟨r, hi, by cases r; simp [RowC.map], rfl, hf true i (by show (look s.row i).isSome; rw [hi]; rfl)⟩) h.ok (fun x => .inl rfl)

/-- A block that nothing of the state owns, and that nobody sees, is written. -/
theorem CI.touch (h : CI P w0 m0 F0 s a w m ω) {b : Nat} (hg : w.grownBy w' (some b)) (hb : w0.heap.size ≤ b ∨ F0 b) (hno : ∀ κ id, s.live κ id → ¬ ω.f κ id b) (hm : ∀ x v, m x = some v → x.block ≠ b) : CI P w0 m0 F0 s a w' m ω where
  size := h.size
  defers := h.defers
  keeps := h.keeps.grown hg hb
  mle := h.mle
  mold := h.mold
  ok := fun x v hx => hg.cell (h.ok x v hx) (fun e => hm x v hx (by injection e))
  env := h.env
  box := fun id ls hl => by
    have hlive : s.live false id := by show (look s.box id).isSome; rw [hl]; rfl
    exact (h.box id ls hl).keep (Mem.le_refl m) fun k hk => hg.block k (h.fresh false id hlive k hk).1 (fun e => by injection e with e; subst e; exact hno _ _ hlive hk)
  row := fun id ls hl => by
    have hlive : s.live true id := by show (look s.row id).isSome; rw [hl]; rfl
    exact (h.row id ls hl).keep (Mem.le_refl m) fun k hk => hg.block k (h.fresh true id hlive k hk).1 (fun e => by injection e with e; subst e; exact hno _ _ hlive hk)
  fresh := fun κ id hl k hk => by
    obtain ⟨h1, h2, h3⟩ := h.fresh κ id hl k hk
    exact ⟨Nat.lt_of_lt_of_le h1 hg.size, h2, h3⟩
  apart := h.apart
  home := h.home

/-! ### Something new is owned -/
theorem CI.addBox (h : CI P w0 m0 F0 s a w m ω) (id : Nat) (ls : List L) (hid : look s.box id = none) (hH : ∀ b, F0.box id = some b → ω.box id = b) (hB : BoxRep m w ω id ls)
    (hf : ∀ k, ω.f false id k → k < w.heap.size ∧ (w0.heap.size ≤ k ∨ F0 k) ∧ ∀ x v, m x = some v → x.block ≠ k) (hd : ∀ κ id', s.live κ id' → ∀ k, ω.f κ id' k → ¬ ω.f false id k) :
    CI P w0 m0 F0 { s with box := (id, ls) :: s.box } a w m ω := by
  have hlive : ∀ κ i, ({ s with box := (id, ls) :: s.box } : St).live κ i → (κ = false ∧ i = id) ∨ s.live κ i := by
    intro κ i hl
    cases κ with
    | true => exact .inr hl
    | false =>
      simp only [St.live, look] at hl
      by_cases hi : id = i
      · exact .inl ⟨rfl, hi.symm⟩
      · rw [if_neg hi] at hl; exact .inr hl
  refine { size := h.size, defers := h.defers, keeps := h.keeps, mle := h.mle, mold := h.mold, ok := h.ok, env := h.env, box := ?_, row := h.row, fresh := ?_, apart := ?_, home := ⟨h.home.big, fun i b hb hi => ?_, h.home.row⟩ }
  · intro i ls' hl
    simp only [look] at hl
    by_cases hi : id = i
    · rw [if_pos hi] at hl; injection hl with hl; subst hl; subst hi; exact hB
    · rw [if_neg hi] at hl; exact h.box i ls' hl
  · intro κ i hl k hk
    rcases hlive κ i hl with ⟨rfl, rfl⟩ | hl
    · exact hf k hk
    · exact h.fresh κ i hl k hk
  · intro κ i κ' i' hl hl' k hk hk'
    have g1 := hlive κ i hl
    have g2 := hlive κ' i' hl'
    clear hl hl'
    rcases g1 with ⟨rfl, rfl⟩ | g1 <;> rcases g2 with ⟨rfl, rfl⟩ | g2
    · exact ⟨rfl, rfl⟩
    · exact absurd hk (hd _ _ g2 k hk')
    · exact absurd hk' (hd _ _ g1 k hk)
    · exact h.apart _ _ _ _ g1 g2 k hk hk'
  · simp only [look] at hi
    by_cases hid' : id = i
    · subst hid'; exact hH b hb
    · rw [if_neg hid'] at hi; exact h.home.box i b hb hi
theorem CI.addRow (h : CI P w0 m0 F0 s a w m ω) (id : Nat) (r : RowC) (hid : look s.row id = none) (hH : ∀ b, F0.row id = some b → ω.row id = b) (hB : RowRep m w ω id r)
    (hf : ∀ k, ω.f true id k → k < w.heap.size ∧ (w0.heap.size ≤ k ∨ F0 k) ∧ ∀ x v, m x = some v → x.block ≠ k) (hd : ∀ κ id', s.live κ id' → ∀ k, ω.f κ id' k → ¬ ω.f true id k) :
    CI P w0 m0 F0 { s with row := (id, r) :: s.row } a w m ω := by
  have hlive : ∀ κ i, ({ s with row := (id, r) :: s.row } : St).live κ i → (κ = true ∧ i = id) ∨ s.live κ i := by
    intro κ i hl
    cases κ with
    | false => exact .inr hl
    | true =>
      simp only [St.live, look] at hl
      by_cases hi : id = i
      · exact .inl ⟨rfl, hi.symm⟩
      · rw [if_neg hi] at hl; exact .inr hl
  refine { size := h.size, defers := h.defers, keeps := h.keeps, mle := h.mle, mold := h.mold, ok := h.ok, env := h.env, box := h.box, row := ?_, fresh := ?_, apart := ?_, home := ⟨h.home.big, h.home.box, fun i b hb hi => ?_⟩ }
  · intro i ls' hl
    simp only [look] at hl
    by_cases hi : id = i
    · rw [if_pos hi] at hl; injection hl with hl; subst hl; subst hi; exact hB
    · rw [if_neg hi] at hl; exact h.row i ls' hl
  · intro κ i hl k hk
    rcases hlive κ i hl with ⟨rfl, rfl⟩ | hl
    · exact hf k hk
    · exact h.fresh κ i hl k hk
  · intro κ i κ' i' hl hl' k hk hk'
    have g1 := hlive κ i hl
    have g2 := hlive κ' i' hl'
    clear hl hl'
    rcases g1 with ⟨rfl, rfl⟩ | g1 <;> rcases g2 with ⟨rfl, rfl⟩ | g2
    · exact ⟨rfl, rfl⟩
    · exact absurd hk (hd _ _ g2 k hk')
    · exact absurd hk' (hd _ _ g1 k hk)
    · exact h.apart _ _ _ _ g1 g2 k hk hk'
  · simp only [look] at hi
    by_cases hid' : id = i
    · subst hid'; exact hH b hb
    · rw [if_neg hid'] at hi; exact h.home.row i b hb hi

/-! ### What points to something is forgotten -/
def L.noPtr0 (id : Nat) : L → L
  | .ptr i o => if i = id then .any else .ptr i o
  | l => l
def L.noPtr (id : Nat) : L → L
  | .clo f caps => .clo f (caps.map (L.noPtr0 id))
  | l => l.noPtr0 id
def L.noRow0 (id : Nat) : L → L
  | .eptr i k o => if i = id then .any else .eptr i k o
  | .ref i lo n => if i = id then .any else .ref i lo n
  | l => l
def L.noRow (id : Nat) : L → L
  | .clo f caps => .clo f (caps.map (L.noRow0 id))
  | l => l.noRow0 id

theorem noPtr_e {id : Nat} (hb : ∀ i, i ≠ id → ω'.box i = ω.box i) (hr : ω'.row = ω.row) {v : Value} {l : L} (h : ERep m ω v l) : ERep m ω' v (l.noPtr id) := by
  have hP : ∀ x u, PRep ω x u → Rep m x (u.noPtr0 id) ∨ PRep ω' x (u.noPtr0 id) := by
    intro x u hu
    cases u with
    | ptr i o =>
      simp only [L.noPtr0]
      split
      · exact .inl (.any _ hu.oneCell)
      · rename_i hi
        refine .inr ?_
        show x = _
        rw [hb i hi]
        exact hu
    | eptr i k o => exact .inr (by show ∃ b, _; rw [hr]; exact hu)
    | _ => cases hu
  have hR : ∀ x u, Rep m x u → Rep m x (u.noPtr0 id) := by
    intro x u hu
    cases u with
    | ptr => cases hu
    | _ => exact hu
  cases l with
  | ptr i o =>
    rcases hP v (.ptr i o) h with h | h
    · exact h.erep
    · simp only [L.noPtr, L.noPtr0] at h ⊢
      by_cases hi : i = id
      · rw [if_pos hi] at h; cases h
      · rw [if_neg hi] at h ⊢; exact h
  | eptr i k o => show ∃ b, _; rw [hr]; exact h
  | ref i lo n => show RefAt (ω'.row i) lo n v; rw [hr]; exact h
  | clo f caps =>
    obtain ⟨vs, h1, h2, h3⟩ := h
    refine ⟨vs, h1, by simpa using h2, fun i u hu => ?_⟩
    simp only [List.getElem?_map, Option.map_eq_some_iff] at hu
    obtain ⟨u0, hu, rfl⟩ := hu
    obtain ⟨x, h4, h5⟩ := h3 i u0 hu
    refine ⟨x, h4, ?_⟩
    rcases h5 with h5 | h5
    · exact .inl (hR _ _ h5)
    · exact hP _ _ h5
  | _ => exact h
theorem noRow_e {id : Nat} (hb : ∀ i, i ≠ id → ω'.row i = ω.row i) (hr : ω'.box = ω.box) {v : Value} {l : L} (h : ERep m ω v l) : ERep m ω' v (l.noRow id) := by
  have hP : ∀ x u, PRep ω x u → Rep m x (u.noRow0 id) ∨ PRep ω' x (u.noRow0 id) := by
    intro x u hu
    cases u with
    | eptr i k o =>
      simp only [L.noRow0]
      split
      · exact .inl (.any _ hu.oneCell)
      · rename_i hi
        refine .inr ?_
        show ∃ b, _
        rw [hb i hi]
        exact hu
    | ptr i o => exact .inr (by show x = _; rw [hr]; exact hu)
    | _ => cases hu
  have hR : ∀ x u, Rep m x u → Rep m x (u.noRow0 id) := by
    intro x u hu
    cases u with
    | eptr => cases hu
    | ref => cases hu
    | _ => exact hu
  cases l with
  | eptr i k o =>
    rcases hP v (.eptr i k o) h with h | h
    · exact h.erep
    · simp only [L.noRow, L.noRow0] at h ⊢
      by_cases hi : i = id
      · rw [if_pos hi] at h; cases h
      · rw [if_neg hi] at h ⊢; exact h
  | ptr i o => show v = _; rw [hr]; exact h
  | ref i lo n =>
    simp only [L.noRow, L.noRow0]
    split
    · exact Rep.any v (ERep.oneCell (ω := ω) (m := m) (l := .ref i lo n) h)
    · rename_i hi
      show RefAt (ω'.row i) lo n v
      rw [hb i hi]
      exact h
  | clo f caps =>
    obtain ⟨vs, h1, h2, h3⟩ := h
    refine ⟨vs, h1, by simpa using h2, fun i u hu => ?_⟩
    simp only [List.getElem?_map, Option.map_eq_some_iff] at hu
    obtain ⟨u0, hu, rfl⟩ := hu
    obtain ⟨x, h4, h5⟩ := h3 i u0 hu
    refine ⟨x, h4, ?_⟩
    rcases h5 with h5 | h5
    · exact .inl (hR _ _ h5)
    · exact hP _ _ h5
  | _ => exact h

/-- Box id is gone, and whatever points to it. -/
def St.noBox (s : St) (id : Nat) : St := { s.map (L.noPtr id) with box := (Bw.del id s.box).map fun p => (p.1, p.2.map (L.noPtr id)) }
def St.noRow (s : St) (id : Nat) : St := { s.map (L.noRow id) with row := (Bw.del id s.row).map fun p => (p.1, p.2.map (L.noRow id)) }

theorem map_look {α β : Type} {f : α → β} {e : List (Nat × α)} {t : Nat} {x : β} (h : look (e.map fun p => (p.1, f p.2)) t = some x) : ∃ y, look e t = some y ∧ x = f y := by
  rw [look_map f] at h
  obtain ⟨y, h1, h2⟩ := Option.map_eq_some_iff.1 h
  exact ⟨y, h1, h2.symm⟩

theorem CI.noBox (h : CI P w0 m0 F0 s a w m ω) (id : Nat) (b : Nat) (f : Nat → Prop) : CI P w0 m0 F0 (s.noBox id) a w m { box := upd ω.box id b, row := ω.row, f := fun κ i => if κ = false ∧ i = id then f else ω.f κ i } := by
  have hdel : ∀ i ls, look ((Bw.del id s.box).map fun p => (p.1, p.2.map (L.noPtr id))) i = some ls → i ≠ id ∧ ∃ ls0, look s.box i = some ls0 ∧ ls = ls0.map (L.noPtr id) := by
    intro i ls hi
    obtain ⟨y, h1, h2⟩ := map_look hi
    rw [look_del] at h1
    split at h1
    · cases h1
    · rename_i hne; exact ⟨hne, y, h1, h2⟩
  refine h.remap (g := L.noPtr id) ⟨Mem.le_refl m, fun v l hl => (by refine noPtr_e (ω := ω) (fun i hi => ?_) ?_ hl; simp [upd, hi]; rfl), fun _ _ => rfl⟩ rfl (fun t x hx => map_look hx)
    (fun i ls hi => ?_) (fun i r hi => ?_) h.ok (fun x => .inl rfl)
  · obtain ⟨hne, ls0, h1, h2⟩ := hdel i ls hi
    exact ⟨ls0, h1, h2, by simp [upd, hne], by simp [hne]⟩
  · obtain ⟨r0, h1, h2⟩ := map_look hi
    exact ⟨r0, h1, h2, rfl, by simp⟩
theorem CI.noRow (h : CI P w0 m0 F0 s a w m ω) (id : Nat) (b : RowI) (f : Nat → Prop) : CI P w0 m0 F0 (s.noRow id) a w m { box := ω.box, row := upd ω.row id b, f := fun κ i => if κ = true ∧ i = id then f else ω.f κ i } := by
  have hdel : ∀ i ls, look ((Bw.del id s.row).map fun p => (p.1, p.2.map (L.noRow id))) i = some ls → i ≠ id ∧ ∃ ls0, look s.row i = some ls0 ∧ ls = ls0.map (L.noRow id) := by
    intro i ls hi
    obtain ⟨y, h1, h2⟩ := map_look hi
    rw [look_del] at h1
    split at h1
    · cases h1
    · rename_i hne; exact ⟨hne, y, h1, h2⟩
  refine h.remap (g := L.noRow id) ⟨Mem.le_refl m, fun v l hl => (by refine noRow_e (ω := ω) (fun i hi => ?_) ?_ hl; simp [upd, hi]; rfl), fun _ _ => rfl⟩ rfl (fun t x hx => map_look hx)
    (fun i ls hi => ?_) (fun i r hi => ?_) h.ok (fun x => .inl rfl)
  · obtain ⟨r0, h1, h2⟩ := map_look hi
    exact ⟨r0, h1, h2, rfl, by simp⟩
  · obtain ⟨hne, ls0, h1, h2⟩ := hdel i r hi
    exact ⟨ls0, h1, h2, by simp [upd, hne], by simp [hne]⟩
theorem noBox_none (s : St) (id : Nat) : look (s.noBox id).box id = none := by
  simp only [St.noBox]
  rw [look_map (List.map (L.noPtr id)), look_del, if_pos rfl]
  rfl
theorem noRow_none (s : St) (id : Nat) : look (s.noRow id).row id = none := by
  simp only [St.noRow]
  rw [look_map (RowC.map (L.noRow id)), look_del, if_pos rfl]
  rfl

/-- A new box, of number id, in the newest block. -/
def St.newBox0 (s : St) (id : Nat) (ls : List L) : St := { s.noBox id with box := (id, ls.map (L.noPtr id)) :: (s.noBox id).box }
theorem CI.newBox (h : CI P w0 m0 F0 s a w m ω) (id : Nat) (hid : id < s.n) (cs : Array Value) (e : TypeId) (ls : List L) (hs : cs.size = ls.length)
    (hr : ∀ (j : Nat) (l : L), ls[j]? = some l → ∃ v, cs[j]? = some v ∧ ERep m ω v l) :
    ∃ ω', CI P w0 m0 F0 (s.newBox0 id ls) a (w.alloc (.cells cs e (0, 0))) m ω' ∧ ω'.box id = w.heap.size := by
  have hb : Below w.heap.size w (w.alloc (.cells cs e (0, 0))) := (Below.refl _ w).alloc (Nat.le_refl _) _
  have hok : ∀ x v, m x = some v → (w.alloc (.cells cs e (0, 0))).cell? x = some v := fun x v hx => by
    rw [World.cell?_alloc_lt w _ x (World.block_lt_of_cell? w x (h.ok x v hx))]
    exact h.ok x v hx
  have h1 := h.grow hb (Mem.le_refl m) (fun _ _ => rfl) hok
  have h2 := h1.noBox id w.heap.size (fun k => k = w.heap.size)
  refine ⟨_, h2.addBox id (ls.map (L.noPtr id)) (noBox_none s id) (fun b hb => by have := (h.home.big id (.inl (by rw [hb]; rfl))).1; omega) ?_ ?_ ?_, by simp [upd]⟩
  · refine ⟨cs, e, ?_, by simpa using hs, by simp [upd], fun _ _ => False, fun j k hk => hk.elim, fun j j' k hk => hk.elim, fun j l hj => ?_⟩
    · simp only [upd, if_true]; exact heap_alloc_new w _
    · have hj' := hj
      simp only [List.getElem?_map, Option.map_eq_some_iff] at hj'
      obtain ⟨l0, hj', rfl⟩ := hj'
      obtain ⟨v, h3, h4⟩ := hr j l0 hj'
      refine ⟨v, h3, ERep.xrep ?_⟩
      refine noPtr_e (ω := ω) (fun i hi => ?_) ?_ h4
      · simp [upd, hi]
      · rfl
  · intro k hk
    simp only [true_and, if_true] at hk
    subst hk
    refine ⟨by show _ < (w.heap.push _).size; simp, .inl h.keeps.size, fun x v hx he => ?_⟩
    rw [m_lt h.ok (by omega)] at hx
    cases hx
  · intro κ id' hl k hk hk'
    simp only [true_and, if_true] at hk'
    subst hk'
    have hne : ¬ (κ = false ∧ id' = id) := by
      rintro ⟨rfl, rfl⟩
      simp only [St.live] at hl
      rw [noBox_none] at hl
      cases hl
    simp only [if_neg hne] at hk
    have hl' : s.live κ id' := by
      cases κ with
      | false =>
        simp only [St.live] at hl ⊢
        obtain ⟨x, hx⟩ := Option.isSome_iff_exists.1 hl
        obtain ⟨y, hy, _⟩ := map_look hx
        rw [look_del] at hy
        split at hy
        · cases hy
        · rw [hy]; rfl
      | true =>
        simp only [St.live] at hl ⊢
        obtain ⟨x, hx⟩ := Option.isSome_iff_exists.1 hl
        obtain ⟨y, hy, _⟩ := map_look hx
        rw [hy]; rfl
    have := (h.fresh κ id' hl' _ hk).1
    omega
end
end Go.Bw
