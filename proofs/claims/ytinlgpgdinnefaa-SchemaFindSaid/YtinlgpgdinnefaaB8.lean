/-
  THE LAYER, 8: what writes: boxes made and written, rows made and written.
-/
import Derived.Test.YtinlgpgdinnefaaB7
set_option linter.unusedSimpArgs false
set_option linter.unusedVariables false
namespace Go.Bw
open Go.RowKit

section
variable {P : Program} {w0 : World} {m0 : Mem} {s s' : St} {a : Act} {w w' : World} {m : Mem} {ω : Wh} {F0 : Home} {T : TypeId → Option TI}

/-- The operation leads from state s into state s'. -/
def Moves (P : Program) (w0 : World) (m0 : Mem) (F0 : Home) (o : Oper) (a : Act) (w : World) (s' : St) : Prop := Gives P o a w fun v w' => Conc P w0 m0 F0 s' (a.put o.dst v) w'

def St.putO (s : St) (d : Option Tmp) (x : A) : St := match d with | some d => s.put d x | none => s
def St.okD (s : St) (d : Option Tmp) : Prop := match d with | some d => d < s.n | none => True

theorem CI.putO (h : CI P w0 m0 F0 s a w m ω) {d : Option Tmp} {v : Value} {x : A} (hd : s.okD d) (hx : ARep m ω v x) : CI P w0 m0 F0 (s.putO d x) (a.put d v) w m ω := by
  cases d with
  | none => exact h
  | some d => exact h.put hd hx

theorem GivesA.moves {o : Oper} {x : A} (h : GivesA P w0 m0 F0 s o x a w ω) (hd : s.okD o.dst) : Moves P w0 m0 F0 o a w (s.putO o.dst x) :=
  Gives.mono h fun _ _ ⟨m', hc, hx⟩ => ⟨m', ω, hc.putO hd hx⟩

/-! ### boxes -/
def St.newBox (s : St) (d : Nat) (ls : List L) : St := (s.newBox0 d ls).put d (.v (.one (.ptr d 0)))

theorem moves_box {o : Oper} {e : TypeId} {x : Operand} {ty : TypeId} {d : Nat} {ls : List L} (ho : o.op = .box e x) (hd : o.dst = some d) (hn : d < s.n) (h : CI P w0 m0 F0 s a w m ω) (hx : partCells T s ty x = some ls) : Moves P w0 m0 F0 o a w (s.newBox d ls) := by
  obtain ⟨h1, h2⟩ := partCells_sound h hx
  obtain ⟨ω', hb, hbb⟩ := h.newBox d hn (a.eval x).cells e ls h1 h2
  refine gives_of_run (v := .pointer (some ⟨w.heap.size, 0, none⟩)) (w' := w.alloc (.cells (a.eval x).cells e (0, 0))) ?_ ⟨m, ω', ?_⟩
  · unfold execOp
    simp only [ho, Instr.box, newVar, newRow, newObj, Sem.run_bind, Sem.run, Result.andThen_ok, Sem.run_pure]
    rfl
  · rw [hd]
    exact hb.put hn (by show _ = _; rw [hbb])

theorem moves_alloc {o : Oper} {e : TypeId} {i : TI} {d : Nat} {ls : List L} (ho : o.op = .alloc e) (hd : o.dst = some d) (hn : d < s.n) (hT : tiOk P e i = true) (hz : i.zero = some ls) (h : CI P w0 m0 F0 s a w m ω) :
    Moves P w0 m0 F0 o a w (s.newBox d ls) := by
  obtain ⟨inf, z, g1, g2, g3, _⟩ := (tiFacts hT).zero ls hz
  obtain ⟨h1, h2⟩ := matchAll_rep (m := m) z.cells.toList ls g3
  obtain ⟨ω', hb, hbb⟩ := h.newBox d hn z.cells e ls (by simpa using h1) (fun j l hj => let ⟨v, h5, h6⟩ := h2 j l hj; ⟨v, by simpa using h5, h6.erep⟩)
  refine gives_of_run (v := .pointer (some ⟨w.heap.size, 0, none⟩)) (w' := w.alloc (.cells z.cells e (0, 0))) ?_ ⟨m, ω', ?_⟩
  · unfold execOp
    simp only [ho, Instr.alloc, zeroValue, typeInfo, program, newVar, newRow, newObj, Sem.run_bind, Sem.run, Result.andThen_ok, Sem.run_pure, g1, g2]
    rfl
  · rw [hd]
    exact hb.put hn (by show _ = _; rw [hbb])

theorem XRep.grown {G : Nat → Prop} {v : Value} {l : L} {b : Nat} (h : XRep m w ω G v l) (hg : w.grownBy w' (some b)) (hG : ∀ k, G k → k < w.heap.size ∧ k ≠ b) : XRep m w' ω G v l :=
  h.keep (Mem.le_refl m) fun k hk => hg.block k (hG k hk).1 fun e => (hG k hk).2 (by injection e)
theorem RCell.grown {G : Nat → Prop} {v : Value} {u : L} {o : Option L} {b : Nat} (h : RCell m w ω G v u o) (hg : w.grownBy w' (some b)) (hG : ∀ k, G k → k < w.heap.size ∧ k ≠ b) : RCell m w' ω G v u o :=
  h.keep (Mem.le_refl m) fun k hk => hg.block k (hG k hk).1 fun e => (hG k hk).2 (by injection e)

/-- A box is written. -/
theorem CI.boxUpd (h : CI P w0 m0 F0 s a w m ω) {id : Nat} {ls0 ls : List L} (hb : look s.box id = some ls0) (hg : w.grownBy w' (some (ω.box id))) {cs : Array Value} {e : TypeId}
    (hh : w'.heap[ω.box id]? = some (.cells cs e (0, 0))) (hs : cs.size = ls.length) (G : Nat → Nat → Prop) (hG : ∀ j k, G j k → ω.f false id k ∧ k ≠ ω.box id) (hD : ∀ j j' k, G j k → G j' k → j = j')
    (hc : ∀ (j : Nat) (l : L), ls[j]? = some l → ∃ v, cs[j]? = some v ∧ XRep m w' ω (G j) v l) : CI P w0 m0 F0 { s with box := sput id ls s.box } a w' m ω := by
  obtain ⟨cs0, e0, g1, g2, g3, _⟩ := h.box id ls0 hb
  have hlive : s.live false id := by show (look s.box id).isSome; rw [hb]; rfl
  have hf := h.fresh false id hlive
  have hdel : ∀ κ i, ({ s with box := Bw.del id s.box } : St).live κ i → s.live κ i ∧ ¬ (κ = false ∧ i = id) := by
    intro κ i hl
    cases κ with
    | true => exact ⟨hl, fun e => by cases e.1⟩
    | false =>
      simp only [St.live] at hl
      rw [look_del] at hl
      split at hl
      · cases hl
      · rename_i hne; exact ⟨hl, fun e => hne e.2⟩
  have h1 : CI P w0 m0 F0 { s with box := Bw.del id s.box } a w m ω := h.weaken rfl (fun _ _ h => h) (fun i l hi => by
    rw [look_del] at hi
    split at hi
    · cases hi
    · exact hi) (fun _ _ h => h)
  have h2 := h1.touch hg (hf _ g3).2.1 (fun κ i hl hk => by
    obtain ⟨h3, h4⟩ := hdel κ i hl
    exact h4 (h.apart κ i false id h3 hlive _ hk g3)) (hf _ g3).2.2
  refine h2.addBox id ls (by show look (Bw.del id s.box) id = none; rw [look_del, if_pos rfl]) (fun b hb' => h.home.box id b hb' (by rw [hb]; rfl)) ⟨cs, e, hh, hs, g3, G, hG, hD, hc⟩ (fun k hk => ?_) (fun κ i hl k hk hk' => ?_)
  · obtain ⟨h3, h4, h5⟩ := hf k hk
    exact ⟨Nat.lt_of_lt_of_le h3 hg.size, h4, h5⟩
  · obtain ⟨h3, h4⟩ := hdel κ i hl
    exact h4 (h.apart κ i false id h3 hlive _ hk hk')

/-- A row is written. -/
theorem CI.rowUpd (h : CI P w0 m0 F0 s a w m ω) {id : Nat} {r r' : RowC} (hb : look s.row id = some r) {b : Nat} (hblk : (ω.row id).blk = some b) (hg : w.grownBy w' (some b)) {cs : Array Value} {e : TypeId}
    (hh : w'.heap[b]? = some (.cells cs e (0, 0))) (hs : cs.size = (ω.row id).cap * r'.sz) (hsz : (ω.row id).sz = r'.sz) (hx : ∀ x ∈ r'.xs, x.length = r'.sz) (hl : r'.xs.length ≤ (ω.row id).cap)
    (G : Nat → Nat → Nat → Prop) (hG : ∀ i j k, G i j k → ω.f true id k ∧ k ≠ b) (hD : ∀ i j i' j' k, G i j k → G i' j' k → i = i' ∧ j = j')
    (hc : ∀ i j u, cellOf r'.xs i j = some u → ∃ v, cs[i * r'.sz + j]? = some v ∧ RCell m w' ω (G i j) v u (ovGet r'.ov i j)) : CI P w0 m0 F0 { s with row := sput id r' s.row } a w' m ω := by
  obtain ⟨g1, g2, g3⟩ := h.row id r hb
  rw [hblk] at g3
  obtain ⟨cs0, e0, k1, k2, k3, k4, k5, _⟩ := g3
  have hlive : s.live true id := by show (look s.row id).isSome; rw [hb]; rfl
  have hf := h.fresh true id hlive
  have hdel : ∀ κ i, ({ s with row := Bw.del id s.row } : St).live κ i → s.live κ i ∧ ¬ (κ = true ∧ i = id) := by
    intro κ i hl
    cases κ with
    | false => exact ⟨hl, fun e => by cases e.1⟩
    | true =>
      simp only [St.live] at hl
      rw [look_del] at hl
      split at hl
      · cases hl
      · rename_i hne; exact ⟨hl, fun e => hne e.2⟩
  have h1 : CI P w0 m0 F0 { s with row := Bw.del id s.row } a w m ω := h.weaken rfl (fun _ _ h => h) (fun _ _ h => h) (fun i l hi => by
    rw [look_del] at hi
    split at hi
    · cases hi
    · exact hi)
  have h2 := h1.touch hg (hf _ k5).2.1 (fun κ i hl hk => by
    obtain ⟨h3, h4⟩ := hdel κ i hl
    exact h4 (h.apart κ i true id h3 hlive _ hk k5)) (hf _ k5).2.2
  refine h2.addRow id r' (by show look (Bw.del id s.row) id = none; rw [look_del, if_pos rfl]) (fun b hb' => h.home.row id b hb' (by rw [hb]; rfl)) ⟨hsz, hx, ?_⟩ (fun k hk => ?_) (fun κ i hl k hk hk' => ?_)
  · rw [hblk]
    exact ⟨cs, e, hh, hs, hl, k4, k5, G, hG, hD, hc⟩
  · obtain ⟨h3, h4, h5⟩ := hf k hk
    exact ⟨Nat.lt_of_lt_of_le h3 hg.size, h4, h5⟩
  · obtain ⟨h3, h4⟩ := hdel κ i hl
    exact h4 (h.apart κ i true id h3 hlive _ hk hk')

/-! ### storing -/
theorem store_get {cur : Array Value} {off : Nat} {vs : List Value} (hfit : off + vs.length ≤ cur.size) (k : Nat) :
    ((cur.toList.take off ++ vs ++ cur.toList.drop (off + vs.length)).toArray)[k]? = if off ≤ k ∧ k < off + vs.length then vs[k - off]? else cur[k]? := by
  have hto : (cur.toList.take off).length = off := by simp; omega
  simp only [List.getElem?_toArray]
  by_cases c1 : k < off
  · rw [if_neg (by omega), List.append_assoc, List.getElem?_append_left (by omega), List.getElem?_take, if_pos c1]
    simp
  · by_cases c2 : k < off + vs.length
    · rw [if_pos ⟨by omega, c2⟩, List.append_assoc, List.getElem?_append_right (by omega), hto, List.getElem?_append_left (by omega)]
    · rw [if_neg (by omega), List.getElem?_append_right (by simp only [List.length_append, hto]; omega), List.getElem?_drop]
      simp only [List.length_append, hto, Array.getElem?_toList]
      congr 1
      omega
theorem store_size {cur : Array Value} {off : Nat} {vs : List Value} (hfit : off + vs.length ≤ cur.size) : (cur.toList.take off ++ vs ++ cur.toList.drop (off + vs.length)).toArray.size = cur.size := by
  simp; omega
theorem grownBy_setRow (w : World) (b : Nat) (cs : Array Value) : w.grownBy (w.setRow b cs) (some b) :=
  ⟨rfl, rfl, rfl, by simp, fun k _ hk => setRow_other w _ k _ (fun e => hk (by rw [e]))⟩

theorem store_box (h : CI P w0 m0 F0 s a w m ω) {id off : Nat} {ls vs : List L} {cs : Array Value} (hb : look s.box id = some ls) (hfit : off + vs.length ≤ ls.length) (hl : cs.size = vs.length)
    (hr : ∀ (j : Nat) (l : L), vs[j]? = some l → ∃ v, cs[j]? = some v ∧ ERep m ω v l) :
    ∃ w', (storeCells ⟨ω.box id, off, none⟩ cs.toList).run P w = .ok () w' ∧ CI P w0 m0 F0 { s with box := sput id (setL off vs ls) s.box } a w' m ω := by
  obtain ⟨cur, e, h1, h2, h3, G, h4, h5, h6⟩ := h.box id ls hb
  have hlive : s.live false id := by show (look s.box id).isSome; rw [hb]; rfl
  have hone : ∀ v ∈ cs.toList, v.oneCell' = true := by
    intro v hv
    obtain ⟨j, hj, rfl⟩ := List.mem_iff_getElem.1 hv
    have hj' : j < vs.length := by simp at hj; omega
    obtain ⟨u, h6, h7⟩ := hr j vs[j] (List.getElem?_eq_getElem hj')
    have : cs.toList[j] = u := by
      have h8 : cs.toList[j]? = some u := by simpa using h6
      rw [List.getElem?_eq_getElem hj] at h8
      injection h8
    rw [this]
    exact h7.oneCell
  have hst := run_storeCells_at P (ω.box id) off e cs.toList 0 cur w h1 (by simp; omega) hone
  simp only [Nat.add_zero] at hst
  refine ⟨_, hst, ?_⟩
  clear hst
  have hfit' : off + cs.toList.length ≤ cur.size := by simp; omega
  have hget := fun k => store_get hfit' k
  have hsize := store_size hfit'
  generalize (cur.toList.take off ++ cs.toList ++ cur.toList.drop (off + cs.toList.length)).toArray = cs' at hget hsize
  have hg := grownBy_setRow w (ω.box id) cs'
  refine h.boxUpd hb hg (setRow_heap w _ cur _ e _ h1) ?_ G h4 h5 (fun j l hj => ?_)
  · rw [hsize, setL_length]; exact h2
  · have hjl : j < ls.length := by
      have := (List.getElem?_eq_some_iff.1 hj).1
      rwa [setL_length] at this
    rw [setL_get off vs ls j hjl] at hj
    rw [hget]
    simp only [Array.length_toList, hl]
    split at hj
    · rename_i hc
      rw [if_pos hc]
      obtain ⟨v, h7, h8⟩ := hr _ l hj
      exact ⟨v, by simpa using h7, h8.xrep⟩
    · rename_i hc
      rw [if_neg hc]
      obtain ⟨v, h7, h8⟩ := h6 j l hj
      exact ⟨v, h7, h8.grown hg fun k hk => ⟨(h.fresh false id hlive k (h4 j k hk).1).1, (h4 j k hk).2⟩⟩

theorem moves_store {o : Oper} {t : TypeId} {i : TI} {x y : Operand} {ty ty' : TypeId} {id off : Nat} {ls vs : List L} (ho : o.op = .store t x y) (hd : o.dst = none) (hT : tiOk P t i = true) (h : CI P w0 m0 F0 s a w m ω)
    (hx : evalO T s ty x = some (.v (.one (.ptr id off)))) (hb : look s.box id = some ls) (hy : partCells T s ty' y = some vs) (hsz : vs.length = i.size) (hfit : off + vs.length ≤ ls.length) :
    Moves P w0 m0 F0 o a w { s with box := sput id (setL off vs ls) s.box } := by
  have had : a.eval x = _ := evalO_sound h hx
  obtain ⟨h1, h2⟩ := partCells_sound h hy
  obtain ⟨inf, g1, g2, _⟩ := (tiFacts hT).info
  obtain ⟨w', h3, h4⟩ := store_box h hb hfit h1 h2
  refine gives_of_skip (w' := w') ?_ ⟨m, ω, ?_⟩
  · unfold execOp
    simp only [ho, had, Instr.storeAt, Instr.sureAddr, storeVar, Sem.run_bind, Sem.run_pure, Result.andThen_ok, run_sizeOf g1]
    rw [if_neg (by omega)]
    simp only [h3, Result.andThen_ok]
  · rw [hd]
    exact h4

/-- What stands closed in a row, of a cell that may point to what is owned. -/
def L.clos (l : L) : L := if l.isFz then l else .any
def ovDel (i o n : Nat) : List (Nat × Nat × L) → List (Nat × Nat × L)
  | [] => []
  | p :: r => if p.1 = i ∧ o ≤ p.2.1 ∧ p.2.1 < o + n then ovDel i o n r else p :: ovDel i o n r
def ovAdd (i : Nat) : Nat → List L → List (Nat × Nat × L) → List (Nat × Nat × L)
  | _, [], r => r
  | o, l :: ls, r => if l.isFz then ovAdd i (o + 1) ls r else (i, o, l) :: ovAdd i (o + 1) ls r
theorem ovGet_del (i o n : Nat) : ∀ (ov : List (Nat × Nat × L)) (i' j' : Nat), ovGet (ovDel i o n ov) i' j' = if i' = i ∧ o ≤ j' ∧ j' < o + n then none else ovGet ov i' j'
  | [], i', j' => by simp [ovDel, ovGet]
  | (p, q, l) :: r, i', j' => by
    simp only [ovDel]
    split
    · rename_i hc
      rw [ovGet_del i o n r]
      simp only [ovGet]
      by_cases h1 : i' = i ∧ o ≤ j' ∧ j' < o + n
      · rw [if_pos h1, if_pos h1]
      · rw [if_neg h1, if_neg h1, if_neg]
        rintro ⟨rfl, rfl⟩
        exact h1 hc
    · rename_i hc
      simp only [ovGet]
      by_cases h1 : p = i' ∧ q = j'
      · rw [if_pos h1, if_neg]
        · simp [h1]
        · rintro h2
          obtain ⟨rfl, rfl⟩ := h1
          exact hc h2
      · rw [if_neg h1, ovGet_del i o n r, if_neg h1]
theorem ovGet_add (i : Nat) (ov : List (Nat × Nat × L)) : ∀ (ls : List L) (o i' j' : Nat), ovGet (ovAdd i o ls ov) i' j' = if i' = i ∧ o ≤ j' ∧ j' < o + ls.length then (match ls[j' - o]? with | some l => if l.isFz then ovGet ov i' j' else some l | none => ovGet ov i' j') else ovGet ov i' j'
  | [], o, i', j' => by
    rw [if_neg (by simp only [List.length_nil]; omega)]
    rfl
  | l :: ls, o, i', j' => by
    have ih := ovGet_add i ov ls (o + 1) i' j'
    by_cases hz : l.isFz = true
    · simp only [ovAdd, hz, if_true]
      rw [ih]
      by_cases h0 : i' = i ∧ j' = o
      · obtain ⟨rfl, rfl⟩ := h0
        rw [if_neg (by omega), if_pos (by simp)]
        simp [hz]
      · by_cases h1 : i' = i ∧ o + 1 ≤ j' ∧ j' < o + 1 + ls.length
        · rw [if_pos h1, if_pos (by simp; omega)]
          have : j' - o = (j' - (o + 1)) + 1 := by omega
          rw [this, List.getElem?_cons_succ]
        · rw [if_neg h1, if_neg (by simp; omega)]
    · have hz : l.isFz = false := by simpa using hz
      simp only [ovAdd, hz, Bool.false_eq_true, if_false, ovGet]
      by_cases h0 : i = i' ∧ o = j'
      · obtain ⟨rfl, rfl⟩ := h0
        rw [if_pos ⟨rfl, rfl⟩, if_pos (by simp)]
        simp [hz]
      · rw [if_neg h0, ih]
        by_cases h1 : i' = i ∧ o + 1 ≤ j' ∧ j' < o + 1 + ls.length
        · rw [if_pos h1, if_pos (by simp; omega)]
          have : j' - o = (j' - (o + 1)) + 1 := by omega
          rw [this, List.getElem?_cons_succ]
        · rw [if_neg h1, if_neg (by simp; omega)]

def RowC.store (r : RowC) (i o : Nat) (vs : List L) : RowC :=
  { sz := r.sz, xs := r.xs.set i (setL o (vs.map L.clos) (r.xs.getD i [])), ov := ovAdd i o vs (ovDel i o vs.length r.ov) }

theorem mul_add_inj {n i j i' j' : Nat} (hj : j < n) (hj' : j' < n) (h : i * n + j = i' * n + j') : i = i' ∧ j = j' := by
  have h1 : (i * n + j) / n = i := by rw [Nat.mul_comm, Nat.mul_add_div (by omega), Nat.div_eq_of_lt hj]; simp
  have h2 : (i' * n + j') / n = i' := by rw [Nat.mul_comm, Nat.mul_add_div (by omega), Nat.div_eq_of_lt hj']; simp
  have h3 : (i * n + j) % n = j := by rw [Nat.mul_comm, Nat.mul_add_mod, Nat.mod_eq_of_lt hj]
  have h4 : (i' * n + j') % n = j' := by rw [Nat.mul_comm, Nat.mul_add_mod, Nat.mod_eq_of_lt hj']
  exact ⟨by rw [← h1, h, h2], by rw [← h3, h, h4]⟩

theorem store_row (h : CI P w0 m0 F0 s a w m ω) {id i off : Nat} {r : RowC} {vs : List L} {cs : Array Value} (hb : look s.row id = some r) (hi : i < r.xs.length) (hfit : off + vs.length ≤ r.sz) (hl : cs.size = vs.length)
    (hr : ∀ (j : Nat) (l : L), vs[j]? = some l → ∃ v, cs[j]? = some v ∧ ERep m ω v l) :
    ∃ b w', (ω.row id).blk = some b ∧ (ω.row id).sz = r.sz ∧ (storeCells ⟨b, i * r.sz + off, none⟩ cs.toList).run P w = .ok () w' ∧ CI P w0 m0 F0 { s with row := sput id (r.store i off vs) s.row } a w' m ω := by
  obtain ⟨g1, g2, g3⟩ := h.row id r hb
  have hlive : s.live true id := by show (look s.row id).isSome; rw [hb]; rfl
  split at g3
  · rw [g3.1] at hi; simp at hi
  rename_i b hblk
  obtain ⟨cur, e, k1, k2, k3, k4, k5, G, k6, k7, k8⟩ := g3
  have hone : ∀ v ∈ cs.toList, v.oneCell' = true := by
    intro v hv
    obtain ⟨j, hj, rfl⟩ := List.mem_iff_getElem.1 hv
    have hj' : j < vs.length := by simp at hj; omega
    obtain ⟨u, h6, h7⟩ := hr j vs[j] (List.getElem?_eq_getElem hj')
    have : cs.toList[j] = u := by
      have h8 : cs.toList[j]? = some u := by simpa using h6
      rw [List.getElem?_eq_getElem hj] at h8
      injection h8
    rw [this]
    exact h7.oneCell
  have hsz : i * r.sz + r.sz ≤ cur.size := by
    have : (i + 1) * r.sz ≤ (ω.row id).cap * r.sz := Nat.mul_le_mul_right _ (by omega)
    rw [Nat.add_mul] at this
    omega
  have hst := run_storeCells_at P b (i * r.sz + off) e cs.toList 0 cur w k1 (by simp; omega) hone
  simp only [Nat.add_zero] at hst
  refine ⟨b, _, hblk, g1, hst, ?_⟩
  clear hst
  have hfit' : i * r.sz + off + cs.toList.length ≤ cur.size := by simp; omega
  have hget := fun k => store_get hfit' k
  have hsize := store_size hfit'
  generalize (cur.toList.take (i * r.sz + off) ++ cs.toList ++ cur.toList.drop (i * r.sz + off + cs.toList.length)).toArray = cs' at hget hsize
  have hg := grownBy_setRow w b cs'
  have hxi : (r.xs.getD i []).length = r.sz := by
    rw [show r.xs.getD i [] = r.xs[i] by simp [List.getD, hi]]
    exact g2 _ (List.getElem_mem hi)
  refine h.rowUpd hb hblk hg (setRow_heap w _ cur _ e _ k1) ?_ g1 ?_ ?_ G k6 k7 (fun i' j u hu => ?_)
  · rw [hsize]; exact k2
  · intro x hx
    rcases List.mem_or_eq_of_mem_set hx with hx | hx
    · exact g2 x hx
    · rw [hx, setL_length]; exact hxi
  · simpa [RowC.store] using k3
  · rw [hget]
    simp only [RowC.store, Array.length_toList, hl]
    have hj : j < r.sz := by
      unfold cellOf at hu
      simp only [RowC.store] at hu
      rw [List.getElem?_set] at hu
      split at hu
      · rename_i he
        subst he
        simp only [hi, if_true, Option.bind_some] at hu
        have := (List.getElem?_eq_some_iff.1 hu).1
        rwa [setL_length, hxi] at this
      · cases hq : r.xs[i']? with
        | none => rw [hq] at hu; simp at hu
        | some x =>
          rw [hq] at hu
          simp only [Option.bind_some] at hu
          have := g2 x (List.mem_of_getElem? hq)
          rw [← this]
          exact (List.getElem?_eq_some_iff.1 hu).1
    rw [ovGet_add, ovGet_del]
    by_cases hc : i' = i ∧ off ≤ j ∧ j < off + vs.length
    · obtain ⟨rfl, hc1, hc2⟩ := hc
      rw [if_pos (by omega), if_pos ⟨rfl, hc1, hc2⟩]
      have hlt : j - off < vs.length := by omega
      obtain ⟨v, h7, h8⟩ := hr (j - off) vs[j - off] (List.getElem?_eq_getElem hlt)
      refine ⟨v, by rw [show i' * r.sz + j - (i' * r.sz + off) = j - off by omega]; simpa using h7, ?_⟩
      rw [List.getElem?_eq_getElem hlt]
      simp only
      have hu' : u = (vs[j - off]).clos := by
        unfold cellOf at hu
        simp only [RowC.store] at hu
        rw [List.getElem?_set_self (by simpa using hi)] at hu
        simp only [Option.bind_some] at hu
        rw [setL_get _ _ _ _ (by rw [hxi]; exact hj), if_pos (by simp; omega)] at hu
        simpa [List.getElem?_eq_getElem hlt] using hu.symm
      by_cases hz : (vs[j - off]).isFz = true
      · rw [if_pos hz]
        simp only [hc1, hc2, and_self, if_true]
        rw [hu', L.clos, if_pos hz]
        exact .fr (h8.rep hz)
      · rw [if_neg hz]
        exact h8
    · have hne : ¬ (i * r.sz + off ≤ i' * r.sz + j ∧ i' * r.sz + j < i * r.sz + off + vs.length) := by
        rintro ⟨h1, h2⟩
        have hoff : i' * r.sz + j - i * r.sz < r.sz := by omega
        obtain ⟨he1, he2⟩ := mul_add_inj hj hoff (show i' * r.sz + j = i * r.sz + (i' * r.sz + j - i * r.sz) by omega)
        subst he1
        exact hc ⟨rfl, by omega, by omega⟩
      rw [if_neg hne, if_neg hc, if_neg hc]
      have hu' : cellOf r.xs i' j = some u := by
        unfold cellOf at hu ⊢
        simp only [RowC.store] at hu
        rw [List.getElem?_set] at hu
        split at hu
        · rename_i he
          subst he
          simp only [hi, if_true, Option.bind_some] at hu
          rw [setL_get _ _ _ _ (by rw [hxi]; exact hj), if_neg (by simp; omega)] at hu
          rw [List.getElem?_eq_getElem hi]
          simpa [List.getD, hi] using hu
        · exact hu
      obtain ⟨v, h7, h8⟩ := k8 i' j u hu'
      exact ⟨v, h7, h8.grown hg fun k hk => ⟨(h.fresh true id hlive k (k6 _ _ _ hk).1).1, (k6 _ _ _ hk).2⟩⟩

theorem moves_storeRow {o : Oper} {t : TypeId} {ti : TI} {x y : Operand} {ty ty' : TypeId} {id i off : Nat} {r : RowC} {vs : List L} (ho : o.op = .store t x y) (hd : o.dst = none) (hT : tiOk P t ti = true) (h : CI P w0 m0 F0 s a w m ω)
    (hx : evalO T s ty x = some (.v (.one (.eptr id i off)))) (hb : look s.row id = some r) (hy : partCells T s ty' y = some vs) (hsz : vs.length = ti.size) (hi : i < r.xs.length) (hfit : off + vs.length ≤ r.sz) :
    Moves P w0 m0 F0 o a w { s with row := sput id (r.store i off vs) s.row } := by
  obtain ⟨b, hblk, had⟩ := evalO_sound h hx
  obtain ⟨h1, h2⟩ := partCells_sound h hy
  obtain ⟨inf, g1, g2, _⟩ := (tiFacts hT).info
  obtain ⟨b', w', h3, h4, h5, h6⟩ := store_row h hb hi hfit h1 h2
  rw [hblk] at h3
  injection h3 with hbb
  subst hbb
  rw [h4] at had
  refine gives_of_skip (w' := w') ?_ ⟨m, ω, ?_⟩
  · unfold execOp
    simp only [ho, had, Instr.storeAt, Instr.sureAddr, storeVar, Sem.run_bind, Sem.run_pure, Result.andThen_ok, run_sizeOf g1]
    rw [if_neg (by omega)]
    simp only [h5, Result.andThen_ok]
  · rw [hd]
    exact h6
end
end Go.Bw
