/-
  WHAT IS PROVED HERE, of this translation: noRow_live, CI.rowNew, ovGet_shift, flat_cells, sliceRd_sl, sliceRd_nil, cellOf_mem, RCell.noOwn, RCell.noOwnF, RCell.oneCell, row_flat, sliceRd_ref, run_append_room', cellOf_append, newRow0_n, moves_append, frzRow_length, frzRow_cell, frzRow_size, frzV_sound, look_keepL, look_dropL, CI.freeze, moves_takeRow, moves_nilRow, ovGet_all, moves_buildSlice, cell_lt, CI.rowSet, CI.rowSame, .., pk_elim, ovIn_get, ysOf_sound, ysOf_in, dstOf_sound, ovOut_get, marked_get, ysC_sound, Moves.follows, follows_of_val, VOp_sound, getD_get, guardOf_sound, VOps_sound, Conc.le, St.le_refl, Conc.freeze, AWP.weak, AWP.frz, AWP.mono, qD, qM, qE, qA, AWP.cond, qC, AWP.loop, AWP.region0, AWP.region.
  A theorem that ends in sat says what the function it names returns, whatever the state it is called in; the bounds on its arguments stand ahead of it.
-/
import Derived.Lib.AppendZerosOnto
import Derived.Test.YtjjnchbfjbjemaaGreatDoorN21a
set_option linter.unusedSimpArgs false
set_option linter.unusedVariables false

namespace Go.Bw
open Go.RowKit
section
variable {P : Program} {w0 : World} {m0 : Mem} {s s' : St} {a : Act} {w w' : World} {m : Mem} {ω : Wh} {F0 : Home} {T : TypeId → Option TI}

theorem noRow_live {id : Nat} {κ : Bool} {i : Nat} (h : (s.noRow id).live κ i) : s.live κ i ∧ ¬ (κ = true ∧ i = id) := by
  cases κ with
  | false =>
    simp only [St.live] at h ⊢
    obtain ⟨x, hx⟩ := Option.isSome_iff_exists.1 h
    obtain ⟨y, hy, _⟩ := map_look hx
    exact ⟨by rw [hy]; rfl, fun e => by cases e.1⟩
  | true =>
    simp only [St.live] at h ⊢
    obtain ⟨x, hx⟩ := Option.isSome_iff_exists.1 h
    obtain ⟨y, hy, _⟩ := map_look hx
    rw [look_del] at hy
    split at hy
    · cases hy
    · rename_i hne; exact ⟨by rw [hy]; rfl, fun e => hne e.2⟩
def St.killRow (s : St) : Option Nat → St
  | none => s
  | some id => s.noRow id
def L.kill : Option Nat → L → L
  | none, l => l
  | some id, l => l.noRow id
def RowC.kill : Option Nat → RowC → RowC
  | none, r => r
  | some id, r => r.map (L.noRow id)
def St.newRow0 (s : St) (src : Option Nat) (d : Nat) (r : RowC) : St :=
  { (s.killRow src).noRow d with row := (d, (r.kill src).map (L.noRow d)) :: ((s.killRow src).noRow d).row }

theorem CI.rowNew (h : CI P w0 m0 F0 s a w m ω) (src : Option Nat) (d : Nat) (hd : d < s.n) (ri : RowI) (Fd : Nat → Prop) {r : RowC}
    (hw : Below w.heap.size w w' ∨ ∃ b id, src = some id ∧ s.live true id ∧ ω.f true id b ∧ w.grownBy w' (some b))
    (hF : ∀ k, Fd k → (∃ id, src = some id ∧ s.live true id ∧ ω.f true id k) ∨ (w.heap.size ≤ k ∧ k < w'.heap.size))
    (hR : RowRepG m w' ω ri Fd r) :
    ∃ ω', CI P w0 m0 F0 (s.newRow0 src d r) a w' m ω' ∧ ω'.row d = ri ∧ ∀ v l, ERep m ω v l → ERep m ω' v ((l.kill src).noRow d) := by
  have hwle : w.heap.size ≤ w'.heap.size := by
    rcases hw with hw | ⟨b, id, _, _, _, hw⟩
    · exact hw.size
    · exact hw.size
  -- the source is dropped
  have k1 : ∃ ω1, CI P w0 m0 F0 (s.killRow src) a w m ω1 ∧ (∀ v l, ERep m ω v l → ERep m ω1 v (l.kill src)) ∧ (∀ κ i, (s.killRow src).live κ i → s.live κ i ∧ ω1.f κ i = ω.f κ i ∧ ∀ id, src = some id → ¬ (κ = true ∧ i = id)) ∧ RowRepG m w' ω1 ri Fd (r.kill src) := by
    cases src with
    | none => exact ⟨ω, h, fun _ _ h => h, fun κ i hl => ⟨hl, rfl, fun id e => by cases e⟩, hR⟩
    | some id =>
      refine ⟨_, h.noRow id (ω.row id) (ω.f true id), fun v l hl => ?_, fun κ i hl => ?_, ?_⟩
      · refine noRow_e (ω := ω) (fun i hi => ?_) ?_ hl
        · simp [upd, hi]
        · rfl
      · obtain ⟨h1, h2⟩ := noRow_live hl
        exact ⟨h1, by simp only [if_neg h2], fun id' e => by injection e with e; subst e; exact h2⟩
      · refine RowRepG.remap (ω := ω) ⟨Mem.le_refl m, fun v l hl => ?_, fun _ _ => rfl, fun _ _ => rfl⟩ hR
        refine noRow_e (ω := ω) (fun i hi => ?_) ?_ hl
        · simp [upd, hi]
        · rfl
  obtain ⟨ω1, h1, e1, l1, r1⟩ := k1
  have h2 := h1.noRow d ri Fd
  have hlive : ∀ κ i, ((s.killRow src).noRow d).live κ i → s.live κ i ∧ (∀ id, src = some id → ¬ (κ = true ∧ i = id)) ∧ (if κ = true ∧ i = d then Fd else ω1.f κ i) = ω.f κ i := by
    intro κ i hl
    obtain ⟨g1, g2⟩ := noRow_live hl
    obtain ⟨g3, g4, g5⟩ := l1 κ i g1
    exact ⟨g3, g5, by rw [if_neg g2]; exact g4⟩
  have h3 : CI P w0 m0 F0 ((s.killRow src).noRow d) a w' m { box := ω1.box, row := upd ω1.row d ri, f := fun κ i => if κ = true ∧ i = d then Fd else ω1.f κ i } := by
    rcases hw with hw | ⟨b, id, hs, hl, hb, hw⟩
    · refine h2.grow hw (Mem.le_refl m) (fun _ _ => rfl) (fun x v hx => ?_)
      rw [hw.cell (World.block_lt_of_cell? w x (h.ok x v hx))]
      exact h.ok x v hx
    · have hf := h.fresh true id hl b hb
      refine h2.touch hw hf.2.1 (fun κ i hl' hk => ?_) hf.2.2
      obtain ⟨g1, g2, g3⟩ := hlive κ i hl'
      have hk' : ω.f κ i b := by rw [← g3]; exact hk
      exact g2 id hs (h.apart κ i true id g1 hl b hk' hb)
  refine ⟨_, h3.addRow d ((r.kill src).map (L.noRow d)) (noRow_none _ d) (fun b hb => by have := (h.home.big d (.inr (by rw [hb]; rfl))).1; omega) ?_ ?_ ?_, by simp [upd], fun v l hl => ?_⟩
  · have hRR : RowRepG m w' { box := ω1.box, row := upd ω1.row d ri, f := fun κ i => if κ = true ∧ i = d then Fd else ω1.f κ i } ri Fd ((r.kill src).map (L.noRow d)) := by
      refine RowRepG.remap (ω := ω1) ⟨Mem.le_refl m, fun v l hl => ?_, fun _ _ => rfl, fun _ _ => rfl⟩ r1
      refine noRow_e (ω := ω1) (fun i hi => ?_) ?_ hl
      · simp [upd, hi]
      · rfl
    have e2 : (upd ω1.row d ri) d = ri := by simp [upd]
    have e3 : (fun (κ : Bool) (i : Nat) => if κ = true ∧ i = d then Fd else ω1.f κ i) true d = Fd := by simp
    unfold RowRep
    simp only [e2, e3]
    exact hRR
  · intro k hk
    simp only [true_and, if_true] at hk
    rcases hF k hk with ⟨id, hs, hl, hk⟩ | ⟨g1, g2⟩
    · obtain ⟨g1, g2, g3⟩ := h.fresh true id hl k hk
      exact ⟨Nat.lt_of_lt_of_le g1 hwle, g2, g3⟩
    · refine ⟨g2, .inl (Nat.le_trans h.keeps.size g1), fun x v hx he => ?_⟩
      rw [m_lt h.ok (by omega)] at hx
      cases hx
  · intro κ i hl k hk hk'
    obtain ⟨g1, g2, g3⟩ := hlive κ i hl
    have hk : ω.f κ i k := by rw [← g3]; exact hk
    simp only [true_and, if_true] at hk'
    rcases hF k hk' with ⟨id, hs, hl', hk''⟩ | ⟨g4, _⟩
    · exact g2 id hs (h.apart κ i true id g1 hl' k hk hk'')
    · have := (h.fresh κ i g1 k hk).1
      omega
  · refine noRow_e (ω := ω1) (fun i hi => ?_) ?_ (e1 v l hl)
    · simp [upd, hi]
    · rfl

def ovShift (n : Nat) : List (Nat × Nat × L) → List (Nat × Nat × L)
  | [] => []
  | p :: r => (n + p.1, p.2.1, p.2.2) :: ovShift n r
theorem ovGet_shift (n : Nat) : ∀ (ov : List (Nat × Nat × L)) (i j : Nat), ovGet (ovShift n ov) i j = if n ≤ i then ovGet ov (i - n) j else none
  | [], i, j => by simp [ovShift, ovGet]
  | (p, q, l) :: r, i, j => by
    simp only [ovShift, ovGet]
    rw [ovGet_shift n r]
    by_cases hi : n ≤ i
    · rw [if_pos hi]
      by_cases h1 : n + p = i ∧ q = j
      · rw [if_pos h1, if_pos hi, if_pos ⟨by omega, h1.2⟩]
      · rw [if_neg h1, if_pos hi, if_neg (fun e => h1 ⟨by omega, e.2⟩)]
    · rw [if_neg hi, if_neg (fun e => hi (by omega)), if_neg hi]

def SliceRd (m : Mem) (w : World) (ω : Wh) (v : Value) (sz : Nat) (ys : List (List L)) (ov : List (Nat × Nat × L)) : Prop :=
  ∃ A c, v = .slice A ys.length c ∧ ys.length ≤ c ∧ (∀ y ∈ ys, y.length = sz) ∧ (A = none → ys = []) ∧ ∀ ad, A = some ad → ∃ news : List Value, news.length = ys.length * sz ∧ (∀ (j : Nat) (u : Value), news[j]? = some u → w.cell? (ad.add j) = some u) ∧
    (∀ u ∈ news, u.oneCell' = true) ∧ ∀ i j u, cellOf ys i j = some u → ∃ v, news[i * sz + j]? = some v ∧ RCell m w ω (fun _ => False) v u (ovGet ov i j)

theorem flat_cells (hok : ∀ x v, m x = some v → w.cell? x = some v) {ad : Addr} {n c sz : Nat} {ys : List (List L)} (h : Rep m (.slice (some ad) n c) (.sl sz ys)) :
    n = ys.length ∧ ∃ news : List Value, news.length = n * sz ∧ (∀ (j : Nat) (u : Value), news[j]? = some u → w.cell? (ad.add j) = some u) ∧ (∀ u ∈ news, u.oneCell' = true) ∧
      ∀ i j u, cellOf ys i j = some u → ∃ v, news[i * sz + j]? = some v ∧ Rep m v u := by
  cases h with
  | sl _ _ _ _ _ vals hlen hc hz hm hr =>
    refine ⟨hlen, ?_⟩
    have hcell : ∀ q, q < n * sz → ∃ u, cellOf ys (q / sz) (q % sz) = some u := by
      intro q hq
      have hsz : 0 < sz := by
        rcases Nat.eq_zero_or_pos sz with h0 | h0
        · rw [h0] at hq; simp at hq
        · exact h0
      have h1 : q / sz < ys.length := by rw [← hlen]; exact Nat.div_lt_of_lt_mul (by rw [Nat.mul_comm]; exact hq)
      have h2 : (ys[q / sz]).length = sz := hz _ (List.getElem_mem h1)
      have h3 : q % sz < (ys[q / sz]).length := by rw [h2]; exact Nat.mod_lt _ hsz
      exact ⟨ys[q / sz][q % sz], by simp [cellOf, h1, h3]⟩
    refine ⟨List.ofFn fun q : Fin (n * sz) => vals (q / sz) (q % sz), by simp, fun j u hj => ?_, fun u hu => ?_, fun i j u hu => ?_⟩
    · rw [List.getElem?_ofFn] at hj
      split at hj
      · rename_i hlt
        injection hj with hj
        subst hj
        obtain ⟨l, hl⟩ := hcell j hlt
        have := hok _ _ (hm _ _ _ hl)
        rwa [show j / sz * sz + j % sz = j from by rw [Nat.mul_comm]; exact Nat.div_add_mod j sz] at this
      · cases hj
    · obtain ⟨q, rfl⟩ := List.mem_ofFn.1 hu
      obtain ⟨l, hl⟩ := hcell q q.2
      exact (hr _ _ _ hl).oneCell
    · have hi : i < n := by
        unfold cellOf at hu
        cases h1 : ys[i]? with
        | none => rw [h1] at hu; simp at hu
        | some x => rw [hlen]; exact (List.getElem?_eq_some_iff.1 h1).1
      have hj : j < sz := by
        unfold cellOf at hu
        cases h1 : ys[i]? with
        | none => rw [h1] at hu; simp at hu
        | some x =>
          rw [h1] at hu
          have := hz x (List.mem_of_getElem? h1)
          rw [← this]
          exact (List.getElem?_eq_some_iff.1 hu).1
      have hlt : i * sz + j < n * sz := by
        have : (i + 1) * sz ≤ n * sz := Nat.mul_le_mul_right sz hi
        rw [Nat.add_mul] at this
        omega
      refine ⟨vals i j, ?_, hr _ _ _ hu⟩
      rw [List.getElem?_ofFn, dif_pos hlt]
      have hsz : 0 < sz := by omega
      have e1 : (i * sz + j) / sz = i := by
        rw [Nat.mul_comm, Nat.mul_add_div hsz, Nat.div_eq_of_lt hj]; simp
      have e2 : (i * sz + j) % sz = j := by
        rw [Nat.mul_comm, Nat.mul_add_mod, Nat.mod_eq_of_lt hj]
      simp only [e1, e2]

theorem sliceRd_sl (hok : ∀ x v, m x = some v → w.cell? x = some v) {v : Value} {sz : Nat} {ys : List (List L)} (h : Rep m v (.sl sz ys)) : SliceRd m w ω v sz ys [] := by
  cases h with
  | slNil => exact ⟨none, 0, rfl, Nat.le_refl _, (fun y hy => by cases hy), fun _ => rfl, fun ad h => by cases h⟩
  | sl ad len cap _ _ vals hlen hc hz hm hr =>
    obtain ⟨_, news, h1, h2, h3, h4⟩ := flat_cells hok (Rep.sl (m := m) ad len cap sz ys vals hlen hc hz hm hr)
    subst hlen
    refine ⟨some ad, cap, rfl, hc, hz, (fun h => by cases h), fun ad' e => ?_⟩
    injection e with e
    subst e
    exact ⟨news, h1, h2, h3, fun i j u hu => let ⟨v, h5, h6⟩ := h4 i j u hu; ⟨v, h5, CRep.fr h6⟩⟩
theorem sliceRd_nil {v : Value} {z : Nat} (h : Rep m v (.nil z)) (sz : Nat) : SliceRd m w ω v sz [] [] := by
  cases h
  exact ⟨none, 0, rfl, Nat.le_refl _, (fun y hy => by cases hy), fun _ => rfl, fun ad h => by cases h⟩

def L.isOwn : L → Bool | .own _ _ => true | _ => false
def noOwn (xs : List (List L)) : Prop := ∀ x ∈ xs, ∀ l ∈ x, l.isOwn = false
theorem cellOf_mem {xs : List (List L)} {i j : Nat} {u : L} (h : cellOf xs i j = some u) : ∃ x ∈ xs, u ∈ x := by
  unfold cellOf at h
  cases hx : xs[i]? with
  | none => rw [hx] at h; simp at h
  | some x => rw [hx] at h; exact ⟨x, List.mem_of_getElem? hx, List.mem_of_getElem? h⟩
theorem RCell.noOwn {G : Nat → Prop} {v : Value} {u : L} {o : Option L} (h : RCell m w ω G v u o) (hu : u.isOwn = false) (G' : Nat → Prop) : RCell m w ω G' v u o := by
  cases o with
  | some l => exact h
  | none =>
    have h : CRep m w G v u := h
    cases h with
    | fr h => exact CRep.fr h
    | ownNil => cases hu
    | own => cases hu
theorem RCell.noOwnF {v : Value} {u : L} {o : Option L} (h : RCell m w ω (fun _ => False) v u o) (_ G' : Nat → Prop) : RCell m w ω G' v u o := by
  cases o with
  | some l => exact h
  | none => exact CRep.sub h fun k hk => hk.elim
theorem RCell.oneCell {G : Nat → Prop} {v : Value} {u : L} {o : Option L} (h : RCell m w ω G v u o) : v.oneCell' = true := by
  cases o with
  | some l => exact ERep.oneCell h
  | none => exact CRep.oneCell h

theorem row_flat (h : CI P w0 m0 F0 s a w m ω) {id : Nat} {r : RowC} (hb : look s.row id = some r) {b : Nat} (hblk : (ω.row id).blk = some b) {lo n : Nat} (hn : lo + n ≤ r.xs.length) :
    ∃ (cs : Array Value) (e : TypeId) (G : Nat → Nat → Nat → Prop), w.heap[b]? = some (.cells cs e (0, 0)) ∧ cs.size = (ω.row id).cap * r.sz ∧ (∀ i j k, G i j k → ω.f true id k ∧ k ≠ b) ∧ (∀ i j i' j' k, G i j k → G i' j' k → i = i' ∧ j = j') ∧ ω.f true id b ∧
      ∃ news : List Value, news.length = n * r.sz ∧ news = (cs.toList.drop (lo * r.sz)).take (n * r.sz) ∧ (∀ u ∈ news, u.oneCell' = true) ∧ (∀ i j u, cellOf ((r.xs.drop lo).take n) i j = some u → ∃ v, news[i * r.sz + j]? = some v ∧ RCell m w ω (G (lo + i) j) v u (ovGet r.ov (lo + i) j)) := by
  obtain ⟨g1, g2, g3⟩ := h.row id r hb
  rw [hblk] at g3
  obtain ⟨cs, e, k1, k2, k3, k4, k5, G, k6, k7, k8⟩ := g3
  have hfit : lo * r.sz + n * r.sz ≤ cs.size := by
    rw [k2, ← Nat.add_mul]
    exact Nat.mul_le_mul_right _ (by omega)
  have hcell : ∀ i j u, cellOf ((r.xs.drop lo).take n) i j = some u → i < n ∧ j < r.sz ∧ cellOf r.xs (lo + i) j = some u := by
    intro i j u hu
    unfold cellOf at hu ⊢
    rw [List.getElem?_take] at hu
    split at hu
    · rename_i hi
      rw [List.getElem?_drop] at hu
      refine ⟨hi, ?_, hu⟩
      cases hx : r.xs[lo + i]? with
      | none => rw [hx] at hu; simp at hu
      | some x =>
        rw [hx] at hu
        rw [← g2 x (List.mem_of_getElem? hx)]
        exact (List.getElem?_eq_some_iff.1 hu).1
    · simp at hu
  have hget : ∀ k, ((cs.toList.drop (lo * r.sz)).take (n * r.sz))[k]? = if k < n * r.sz then cs[lo * r.sz + k]? else none := by
    intro k
    rw [List.getElem?_take]
    split
    · rw [List.getElem?_drop]; simp
    · rfl
  refine ⟨cs, e, G, k1, k2, k6, k7, k5, _, ?_, rfl, fun u hu => ?_, fun i j u hu => ?_⟩
  · simp only [List.length_take, List.length_drop, Array.length_toList]
    omega
  · obtain ⟨q, hq, rfl⟩ := List.mem_iff_getElem.1 hu
    have hq' : q < n * r.sz := by simp at hq; omega
    have hsz : 0 < r.sz := by
      rcases Nat.eq_zero_or_pos r.sz with h0 | h0
      · rw [h0] at hq'; simp at hq'
      · exact h0
    have h1 : q / r.sz < n := Nat.div_lt_of_lt_mul (by rw [Nat.mul_comm]; exact hq')
    have hlt : lo + q / r.sz < r.xs.length := by omega
    have h2 : (r.xs[lo + q / r.sz]).length = r.sz := g2 _ (List.getElem_mem hlt)
    have h3 : q % r.sz < (r.xs[lo + q / r.sz]).length := by rw [h2]; exact Nat.mod_lt _ hsz
    obtain ⟨v, h4, h5⟩ := k8 (lo + q / r.sz) (q % r.sz) (r.xs[lo + q / r.sz][q % r.sz]) (by simp [cellOf, hlt, h3])
    have h6 : (lo + q / r.sz) * r.sz + q % r.sz = lo * r.sz + q := by
      rw [Nat.add_mul, Nat.add_assoc, Nat.mul_comm (q / r.sz), Nat.div_add_mod]
    rw [h6] at h4
    have h7 := hget q
    rw [if_pos hq', h4, List.getElem?_eq_getElem hq] at h7
    injection h7 with h7
    rw [h7]
    exact h5.oneCell
  · obtain ⟨hi, hj, hu'⟩ := hcell i j u hu
    obtain ⟨v, h4, h5⟩ := k8 _ j u hu'
    refine ⟨v, ?_, h5⟩
    have hlt : i * r.sz + j < n * r.sz := by
      have : (i + 1) * r.sz ≤ n * r.sz := Nat.mul_le_mul_right r.sz hi
      rw [Nat.add_mul] at this
      omega
    rw [hget, if_pos hlt, ← h4]
    congr 1
    rw [Nat.add_mul]
    omega

theorem sliceRd_ref (h : CI P w0 m0 F0 s a w m ω) {v : Value} {id lo n : Nat} {r : RowC} (hv : RefAt (ω.row id) lo n v) (hb : look s.row id = some r) (hn : lo + n ≤ r.xs.length) (ho : noOwn r.xs) {ov : List (Nat × Nat × L)} (hov : ∀ i j, i < n → ovGet ov i j = ovGet r.ov (lo + i) j) :
    SliceRd m w ω v r.sz ((r.xs.drop lo).take n) ov := by
  obtain ⟨g1, g2, g3⟩ := h.row id r hb
  have hlen : ((r.xs.drop lo).take n).length = n := by simp; omega
  rcases hv with ⟨g0, rfl, rfl, rfl⟩ | ⟨b, ad, k1, k2, rfl, k4⟩
  · exact ⟨none, 0, rfl, by simp, by simp, fun _ => by simp, fun ad h => by cases h⟩
  · obtain ⟨cs, e, G, q1, q2, q3, q4, q5, news, q6, q7, q8, q9⟩ := row_flat h hb k1 hn
    refine ⟨some ad, _, by rw [hlen], by rw [hlen]; omega, (fun y hy => g2 y (List.mem_of_mem_drop (List.mem_of_mem_take hy))), (fun h => by cases h), fun ad' e => ?_⟩
    injection e with e
    subst e
    refine ⟨news, by rw [hlen]; exact q6, fun j u hu => ?_, q8, fun i j u hu => ?_⟩
    · have hj : j < n * r.sz := by rw [← q6]; exact (List.getElem?_eq_some_iff.1 hu).1
      have hlt : lo < (ω.row id).cap := by
        rcases Nat.eq_zero_or_pos n with h0 | h0
        · rw [h0] at hj; simp at hj
        · omega
      rw [k4 (.inl hlt), Addr.add_lit, cell_of_row w _ _ cs e (0, 0) q1, g1]
      rw [q7, List.getElem?_take, if_pos hj, List.getElem?_drop] at hu
      simpa using hu
    · obtain ⟨v, h5, h6⟩ := q9 i j u hu
      have hi : i < n := by
        unfold cellOf at hu
        rw [List.getElem?_take] at hu
        split at hu
        · assumption
        · simp at hu
      refine ⟨v, h5, ?_⟩
      rw [hov i j hi]
      have hu2 : u.isOwn = false := by
        obtain ⟨x, hx, hux⟩ := cellOf_mem hu
        exact ho x (List.mem_of_mem_drop (List.mem_of_mem_take hx)) u hux
      exact h6.noOwn hu2 _
end
end Go.Bw

namespace Go.Bw
open Go.RowKit
section
variable {P : Program} {w0 : World} {m0 : Mem} {s s' : St} {a : Act} {w w' : World} {m : Mem} {ω : Wh} {F0 : Home} {T : TypeId → Option TI}

theorem run_append_room' (t ty e e' : TypeId) (i : TypeInfo) (ht : P.underlying t = some (.slice e)) (hi : P.info? e = some i)
    (g sLen sCap : Nat) (cur : Array Value) (hg : w.heap[g]? = some (.cells cur e' (0, 0)))
    (ad : Addr) (k c : Nat) (news : List Value) (hl : news.length = k * i.size) (hnews : ∀ j u, news[j]? = some u → w.cell? (ad.add j) = some u) (h1 : ∀ u ∈ news, u.oneCell' = true)
    (hroom : sLen + k ≤ sCap) (hfit : sLen * i.size + news.length ≤ cur.size) :
    (Builtin.append_ #[t, t] ty #[.slice (some ⟨g, 0, none⟩) sLen sCap, .slice (some ad) k c]).run P w =
      .ok (.slice (some ⟨g, 0, none⟩) (sLen + k) sCap) (w.setRow g (cur.toList.take (sLen * i.size) ++ news ++ cur.toList.drop (sLen * i.size + news.length)).toArray) := by
  have hf := run_firstCells_some (P := P) w i.size k ad k c news hl hnews
  have hst := run_storeCells_at P g (sLen * i.size) e' news 0 cur w hg (by simpa using hfit) h1
  simp only [Nat.add_zero] at hst
  simp [Builtin.append_, run_underlying ht, sizeOf, typeInfo, hi, Builtin.lenOf, hroom, hf, Addr.add_lit, hst]

theorem cellOf_append {xs ys : List (List L)} {i j : Nat} {u : L} (h : cellOf (xs ++ ys) i j = some u) : (i < xs.length ∧ cellOf xs i j = some u) ∨ (xs.length ≤ i ∧ cellOf ys (i - xs.length) j = some u) := by
  unfold cellOf at h ⊢
  by_cases hi : i < xs.length
  · rw [List.getElem?_append_left hi] at h
    exact .inl ⟨hi, h⟩
  · rw [List.getElem?_append_right (by omega)] at h
    exact .inr ⟨by omega, h⟩


inductive Dst (s : St) : L → Nat → List (List L) → Option Nat → Prop
  | nil (z sz : Nat) : Dst s (.nil z) sz [] none
  | ref (id n : Nat) (r : RowC) (hb : look s.row id = some r) (hov : r.ov = []) (hn : n ≤ r.xs.length) : Dst s (.ref id 0 n) r.sz (r.xs.take n) (some id)

def St.appended (s : St) (src : Option Nat) (d sz : Nat) (xs : List (List L)) (ov : List (Nat × Nat × L)) : St :=
  (s.newRow0 src d ⟨sz, xs, ov⟩).put d (.v (.one (.ref d 0 xs.length)))

theorem newRow0_n (src : Option Nat) (d : Nat) (r : RowC) : (s.newRow0 src d r).n = s.n := by cases src <;> rfl

theorem moves_append {o : Oper} {t e : TypeId} {i j : TI} {x y : Operand} {ty : TypeId} {d sz : Nat} {l1 : L} {xs ys : List (List L)} {src : Option Nat} {z : List L} {ov : List (Nat × Nat × L)} (ho : o.op = .call { callee := .builtin .append, args := #[x, y], argTypes := #[t, t] })
    (hd : o.dst = some d) (hn : d < s.n) (hT : tiOk P t i = true) (he : i.elem = some e) (hE : tiOk P e j = true) (hz : j.zero = some z) (hsz : j.size = sz) (hzl : z.length = sz) (h : CI P w0 m0 F0 s a w m ω)
    (hx : evalO T s ty x = some (.v (.one l1))) (hs : Dst s l1 sz xs src) (hy : SliceRd m w ω (a.eval y) sz ys ov) (hov0 : ovGet ov ys.length 0 = none)
    (hb : (xs.length + ys.length) * j.bytes ≤ 140737488355328) (hm : xs.length + ys.length ≤ 9223372036854775807) : Moves P w0 m0 F0 o a w (s.appended src d sz (xs ++ ys) (ovShift xs.length ov)) := by
  have hu := (tiFacts hT).elem e he
  obtain ⟨inf, zv, g1, g2, g3, _⟩ := (tiFacts hE).zero z hz
  obtain ⟨inf', g4, g5, g6⟩ := (tiFacts hE).info
  rw [g1] at g4
  injection g4 with g4
  subst g4
  rw [hsz] at g5
  have hzs : zv.cells.size = sz := by
    have := (matchAll_rep (m := m) zv.cells.toList z g3).1
    simpa [hzl] using this
  have hz1 : ∀ (v : Value), v ∈ zv.cells → v.oneCell' = true := by
    intro v hv
    obtain ⟨k, hk, rfl⟩ := Array.mem_iff_getElem.1 hv
    obtain ⟨k1, k2⟩ := matchAll_rep (m := m) zv.cells.toList z g3
    have hk' : k < z.length := by simp at k1; omega
    obtain ⟨v', k3, k4⟩ := k2 k z[k] (List.getElem?_eq_getElem hk')
    have : v' = zv.cells[k] := by
      rw [List.getElem?_eq_getElem (by simpa using hk)] at k3
      injection k3 with k3
      rw [← k3]; simp
    rw [← this]
    exact k4.oneCell
  have hz0 : ∀ (k : Nat) (v : Value), v ∈ Builtin.zeroCells zv.cells k → v.oneCell' = true := by
    intro k v hv
    unfold Builtin.zeroCells at hv
    obtain ⟨q, hq, rfl⟩ := Array.mem_map.1 hv
    have hq : q < k * zv.cells.size := by simpa using hq
    have hpos : 0 < zv.cells.size := by
      rcases Nat.eq_zero_or_pos zv.cells.size with h0 | h0
      · rw [h0] at hq; simp at hq
      · exact h0
    rw [getElem!_pos zv.cells (q % zv.cells.size) (Nat.mod_lt _ hpos)]
    exact hz1 _ (Array.getElem_mem _)
  obtain ⟨q, hq⟩ := run_call_builtin (P := P) (a := a) (w := w) ho
  have hv1 : ERep m ω (a.eval x) l1 := evalO_sound h hx
  generalize hax : a.eval x = v1 at *
  generalize hay : a.eval y = v2 at *
  have hrun : (execOp a.eval o).run P w = ((Builtin.append_ #[t, t] o.type #[v1, v2]).run P w).andThen fun v w' => .ok (.value v) w' := by
    rw [hq]
    simp only [List.map_toArray, List.map_cons, List.map_nil, hax, hay, builtin, Sem.run_bind, Sem.run_pure]
  have hmaxw : maxLen = 9223372036854775807 := rfl
  obtain ⟨A2, c2, rfl, hc2, hys, hnone, hnews⟩ := hy
  -- the end, alike on all ways
  have fin : ∀ (v' : Value) (w' : World) (ri : RowI) (Fd : Nat → Prop), (Builtin.append_ #[t, t] o.type #[v1, .slice A2 ys.length c2]).run P w = .ok v' w' →
      (Below w.heap.size w w' ∨ ∃ b id, src = some id ∧ s.live true id ∧ ω.f true id b ∧ w.grownBy w' (some b)) →
      (∀ k, Fd k → (∃ id, src = some id ∧ s.live true id ∧ ω.f true id k) ∨ (w.heap.size ≤ k ∧ k < w'.heap.size)) →
      RowRepG m w' ω ri Fd ⟨sz, xs ++ ys, ovShift xs.length ov⟩ → RefAt ri 0 (xs ++ ys).length v' → Moves P w0 m0 F0 o a w (s.appended src d sz (xs ++ ys) (ovShift xs.length ov)) := by
    intro v' w' ri Fd hr hw hF hR hv'
    refine gives_of_run (v := v') (w' := w') (by rw [hrun, hr]; rfl) ?_
    obtain ⟨ω', hC, hri, _⟩ := h.rowNew src d hn ri Fd hw hF hR
    rw [hd]
    exact ⟨m, ω', hC.put (by rw [newRow0_n]; exact hn) (by show RefAt (ω'.row d) 0 _ v'; rw [hri]; exact hv')⟩
  -- a new row: whatever was there before
  have grown : ∀ (olds news : List Value) (old : Nat) (Fd : Nat → Prop) (G : Nat → Nat → Nat → Prop), olds.length = xs.length * sz → news.length = ys.length * sz → (∀ x ∈ xs, x.length = sz) →
      (∀ k, Fd k → ∃ id, src = some id ∧ s.live true id ∧ ω.f true id k) → (∀ i j k, G i j k → Fd k) → (∀ i j i' j' k, G i j k → G i' j' k → i = i' ∧ j = j') →
      (∀ i j u, cellOf xs i j = some u → ∃ v, olds[i * sz + j]? = some v ∧ CRep m w (G i j) v u) →
      (∀ i j u, cellOf ys i j = some u → ∃ v, news[i * sz + j]? = some v ∧ RCell m w ω (fun _ => False) v u (ovGet ov i j)) → old < xs.length + ys.length → (∀ v ∈ olds, v.oneCell' = true) → (∀ v ∈ news, v.oneCell' = true) →
      (Builtin.append_ #[t, t] o.type #[v1, .slice A2 ys.length c2]).run P w = .ok (.slice (some ⟨w.heap.size, 0, none⟩) (xs.length + ys.length) (grownCap w (xs.length + ys.length) old e))
        (w.drew.alloc (.cells (olds.toArray ++ news.toArray ++ Builtin.zeroCells zv.cells (grownCap w (xs.length + ys.length) old e - (xs.length + ys.length))) e)) →
      Moves P w0 m0 F0 o a w (s.appended src d sz (xs ++ ys) (ovShift xs.length ov)) := by
    intro olds news old Fd G ho' hnw hxs hFd hG hGD h1 h2 hlt hon hnn hr
    have hge := grownCap_ge w (xs.length + ys.length) old e
    have hcm : grownCap w (xs.length + ys.length) old e ≤ maxLen := grownCap_le_maxLen w _ old e (by rw [hmaxw]; exact hm)
    have hbl : Below w.heap.size w (w.drew.alloc (.cells (olds.toArray ++ news.toArray ++ Builtin.zeroCells zv.cells (grownCap w (xs.length + ys.length) old e - (xs.length + ys.length))) e)) :=
      ((Below.refl _ w).drew).alloc (Nat.le_refl _) _
    have hh : (w.drew.alloc (.cells (olds.toArray ++ news.toArray ++ Builtin.zeroCells zv.cells (grownCap w (xs.length + ys.length) old e - (xs.length + ys.length))) e)).heap[w.heap.size]? = _ := heap_alloc_new w.drew _
    have hsize : w.heap.size < (w.drew.alloc (.cells (olds.toArray ++ news.toArray ++ Builtin.zeroCells zv.cells (grownCap w (xs.length + ys.length) old e - (xs.length + ys.length))) e)).heap.size := (Array.getElem?_eq_some_iff.1 hh).1
    have hold : ∀ k, Fd k → k < w.heap.size := fun k hk => by
      obtain ⟨id, _, hl, hk⟩ := hFd k hk
      exact (h.fresh true id hl k hk).1
    refine fin _ _ ⟨some w.heap.size, grownCap w (xs.length + ys.length) old e, sz⟩ (fun k => Fd k ∨ k = w.heap.size) hr (.inl hbl) (fun k hk => ?_) ⟨rfl, fun x hx => ?_, ?_⟩ (.inr ⟨w.heap.size, ⟨w.heap.size, 0, none⟩, rfl, by simp; omega, by simp, fun _ => by simp⟩)
    · rcases hk with hk | rfl
      · exact .inl (hFd k hk)
      · exact .inr ⟨Nat.le_refl _, hsize⟩
    · rcases List.mem_append.1 hx with hx | hx
      · exact hxs x hx
      · exact hys x hx
    · refine ⟨_, e, hh, ?_, by simpa using hge, ⟨hcm, fun l hl => ?_, fun q v hq => ?_⟩, .inr rfl, G, (fun i j k hk => ⟨.inl (hG i j k hk), fun e => ?_⟩), hGD, fun i j u hu => ?_⟩
      · simp only [Array.size_append, List.size_toArray, size_zeroCells, hzs, ho', hnw, ← Nat.add_mul]
        congr 1
        omega
      · simp only [List.length_append] at hl
        rw [ovGet_shift, if_pos (by omega), Nat.add_sub_cancel_left, hov0] at hl
        cases hl
      · have hm' := Array.mem_of_getElem? hq
        simp only [Array.mem_append, List.mem_toArray] at hm'
        rcases hm' with (hm' | hm') | hm'
        · exact hon v hm'
        · exact hnn v hm'
        · exact hz0 _ v hm'
      · have := hold k (hG i j k hk)
        omega
      · simp only at hu
        have hszr : (⟨sz, xs ++ ys, ovShift xs.length ov⟩ : RowC).sz = sz := rfl
        rw [hszr]
        rcases cellOf_append hu with ⟨hi, hu⟩ | ⟨hi, hu⟩
        · obtain ⟨v, h3, h4⟩ := h1 i j u hu
          refine ⟨v, ?_, ?_⟩
          · have hlt' : i * sz + j < olds.length := (List.getElem?_eq_some_iff.1 h3).1
            rw [Array.getElem?_append_left (by simp; omega), Array.getElem?_append_left (by simpa using hlt')]
            simpa using h3
          · rw [ovGet_shift, if_neg (by omega)]
            exact CRep.keep (Mem.le_refl m) h4 fun k hk => hbl.block k (hold k (hG i j k hk))
        · obtain ⟨v, h3, h4⟩ := h2 _ j u hu
          refine ⟨v, ?_, ?_⟩
          · have hlt' := (List.getElem?_eq_some_iff.1 h3).1
            have he1 : i * sz + j - olds.length = (i - xs.length) * sz + j := by
              rw [ho', Nat.sub_mul]
              have : xs.length * sz ≤ i * sz := Nat.mul_le_mul_right _ hi
              omega
            have hge' : olds.length ≤ i * sz + j := by
              rw [ho']
              have : xs.length * sz ≤ i * sz := Nat.mul_le_mul_right _ hi
              omega
            rw [Array.getElem?_append_left (by simp; omega), Array.getElem?_append_right (by simpa using hge')]
            simp only [List.size_toArray, he1]
            simpa using h3
          · rw [ovGet_shift, if_pos hi]
            exact (h4.noOwnF (fun _ => False) (G i j)).keep (Mem.le_refl m) fun k hk => hbl.block k (hold k (hG i j k hk))
  -- onto nil
  have onnil : ∀ (_ : v1 = .slice none 0 0) (_ : xs = []), Moves P w0 m0 F0 o a w (s.appended src d sz (xs ++ ys) (ovShift xs.length ov)) := by
    intro e1 e2
    subst e1 e2
    rcases Nat.eq_zero_or_pos ys.length with h0 | h0
    · have hy0 : ys = [] := List.eq_nil_of_length_eq_zero h0
      subst hy0
      have hrun0 : (Builtin.append_ #[t, t] o.type #[.slice none 0 0, .slice A2 0 c2]).run P w = .ok (.slice none 0 0) w := by
        cases A2 with
        | none => simp [Builtin.append_, run_underlying hu, sizeOf, typeInfo, g1, Builtin.lenOf, Builtin.firstCells]
        | some ad2 => simp [Builtin.append_, run_underlying hu, sizeOf, typeInfo, g1, Builtin.lenOf, Builtin.firstCells, loadCells, loadCellsFrom]
      exact fin _ w ⟨none, 0, sz⟩ (fun _ => False) hrun0 (.inl (Below.refl _ _)) (fun k hk => hk.elim) ⟨rfl, fun x hx => by simp at hx, rfl, rfl⟩ (.inl ⟨rfl, rfl, rfl, rfl⟩)
    · cases A2 with
      | none => rw [hnone rfl] at h0; simp at h0
      | some ad2 =>
        obtain ⟨news, hnl, hnc, hn1, hnr⟩ := hnews ad2 rfl
        have hr := run_append_nil (P := P) w t o.type e inf zv hu g1 g2 ad2 ys.length c2 news (by rw [g5]; exact hnl) hnc h0 (by simp only [List.length_nil, Nat.zero_add] at hm; omega) (by simp only [List.length_nil, Nat.zero_add] at hb; rw [g6]; omega)
        refine grown [] news 0 (fun _ => False) (fun _ _ _ => False) (by simp) hnl (fun x hx => by cases hx) (fun k hk => hk.elim) (fun i j k hk => hk) (fun i j i' j' k hk => hk.elim) (fun i j u hu' => by simp [cellOf] at hu') hnr (by simp; omega) (by simp) hn1 ?_
        simp only [List.length_nil, Nat.zero_add]
        rw [hr]
        simp
  cases hs with
  | nil z sz =>
    have hv1 : Rep m v1 (.nil z) := hv1
    cases hv1
    exact onnil rfl rfl
  | ref id n r hrow hov hnr' =>
    rcases hv1 with ⟨_, _, rfl, rfl⟩ | ⟨b, ad, k1, k2, rfl, k4⟩
    · exact onnil rfl (by simp)
    · have had := k4 (.inr rfl)
      have hlive : s.live true id := by show (look s.row id).isSome; rw [hrow]; rfl
      obtain ⟨q1, q2, q3⟩ := h.row id r hrow
      simp only [Nat.zero_mul] at had
      subst had
      have hlx : (r.xs.take n).length = n := by simp; omega
      obtain ⟨cur, e', G, p1, p2, p3, p4, p5, olds, p6, p7, p8, p9⟩ := row_flat h hrow k1 (lo := 0) (n := n) (by omega)
      simp only [List.drop_zero, Nat.zero_mul, Nat.zero_add] at p7 p9
      have hxs : ∀ x ∈ r.xs.take n, x.length = r.sz := fun x hx => q2 x (List.mem_of_mem_take hx)
      have hcapo : CapOk (ω.row id).cap cur r := by
        rw [k1] at q3
        obtain ⟨cs0, e0, q5, _, _, q4, _⟩ := q3
        rw [p1] at q5
        injection (Option.some.inj q5) with q6
        rw [q6]
        exact q4
      have hcap : (ω.row id).cap ≤ maxLen := hcapo.1
      have holds : ∀ i j u, cellOf (r.xs.take n) i j = some u → ∃ v, olds[i * r.sz + j]? = some v ∧ CRep m w (G i j) v u := by
        intro i j u hu
        obtain ⟨v, h3, h4⟩ := p9 i j u hu
        rw [hov] at h4
        exact ⟨v, h3, h4⟩
      rw [hlx] at hb hm ⊢
      simp only [Nat.sub_zero] at *
      -- in place
      have inplace : ∀ (news : List Value) (w' : World) (cs' : Array Value), news.length = ys.length * r.sz → (∀ v ∈ news, v.oneCell' = true) → n + ys.length ≤ (ω.row id).cap → w'.heap[b]? = some (.cells cs' e' (0, 0)) → w.grownBy w' (some b) → cs'.size = cur.size →
          (∀ k, cs'[k]? = if n * r.sz ≤ k ∧ k < n * r.sz + news.length then news[k - n * r.sz]? else cur[k]?) →
          (∀ i j u, cellOf ys i j = some u → ∃ v, news[i * r.sz + j]? = some v ∧ RCell m w ω (fun _ => False) v u (ovGet ov i j)) →
          (Builtin.append_ #[t, t] o.type #[.slice (some ⟨b, 0, none⟩) n (ω.row id).cap, .slice A2 ys.length c2]).run P w = .ok (.slice (some ⟨b, 0, none⟩) (n + ys.length) (ω.row id).cap) w' →
          Moves P w0 m0 F0 o a w (s.appended (some id) d r.sz (r.xs.take n ++ ys) (ovShift n ov)) := by
        intro news w' cs' hnl hn1' hroom hhw hg hcs hget hnr hr
        have := fin _ w' (ω.row id) (ω.f true id) hr (.inr ⟨b, id, rfl, hlive, p5, hg⟩) (fun k hk => .inl ⟨id, rfl, hlive, hk⟩) ⟨q1, fun x hx => ?_, ?_⟩ (.inr ⟨b, ⟨b, 0, none⟩, k1, by simp; omega, by simp [hlx], fun _ => by simp⟩)
        · rw [hlx] at this
          exact this
        · rcases List.mem_append.1 hx with hx | hx
          · exact hxs x hx
          · exact hys x hx
        · rw [k1]
          refine ⟨cs', e', hhw, by rw [hcs]; exact p2, by simp; omega, ⟨hcap, fun l hl => ?_, fun q v hq => ?_⟩, p5, (fun i j k => i < n ∧ G i j k), (fun i j k hk => p3 i j k hk.2), (fun i j i' j' k hk hk' => p4 i j i' j' k hk.2 hk'.2), fun i j u hu => ?_⟩
          · simp only [List.length_append, hlx] at hl
            rw [ovGet_shift, if_pos (by omega), Nat.add_sub_cancel_left, hov0] at hl
            cases hl
          · rw [hget] at hq
            split at hq
            · exact hn1' v (List.mem_of_getElem? hq)
            · exact hcapo.2.2 q v hq
          simp only at hu
          have hszr : (⟨r.sz, r.xs.take n ++ ys, ovShift (r.xs.take n).length ov⟩ : RowC).sz = r.sz := rfl
          rw [hszr, hlx]
          rw [hget]
          rcases cellOf_append hu with ⟨hi, hu⟩ | ⟨hi, hu⟩
          · rw [hlx] at hi
            obtain ⟨v, h3, h4⟩ := holds i j u hu
            have hlt : i * r.sz + j < n * r.sz := by rw [← p6]; exact (List.getElem?_eq_some_iff.1 h3).1
            rw [if_neg (by omega)]
            refine ⟨v, ?_, ?_⟩
            · rw [p7, List.getElem?_take, if_pos hlt] at h3
              simpa using h3
            · rw [ovGet_shift, if_neg (by omega)]
              refine CRep.keep (Mem.le_refl m) (h4.sub (F' := fun k => i < n ∧ G i j k) fun k hk => ⟨hi, hk⟩) fun k hk => hg.block k (h.fresh true id hlive k (p3 i j k hk.2).1).1 fun e => ?_
              injection e with e
              exact (p3 i j k hk.2).2 e
          · rw [hlx] at hi hu
            obtain ⟨v, h3, h4⟩ := hnr _ j u hu
            have hlt := (List.getElem?_eq_some_iff.1 h3).1
            have hle : n * r.sz ≤ i * r.sz := Nat.mul_le_mul_right _ hi
            rw [Nat.sub_mul] at hlt h3
            rw [if_pos ⟨by omega, by omega⟩]
            refine ⟨v, by rw [← h3]; congr 1; omega, ?_⟩
            rw [ovGet_shift, if_pos hi]
            refine (h4.noOwnF (fun _ => False) (fun k => i < n ∧ G i j k)).keep (Mem.le_refl m) fun k hk => ?_
            exact absurd hk.1 (by omega)
      cases A2 with
      | none =>
        have hy0 := hnone rfl
        subst hy0
        have hrun0 : (Builtin.append_ #[t, t] o.type #[.slice (some ⟨b, 0, none⟩) n (ω.row id).cap, .slice none 0 c2]).run P w = .ok (.slice (some ⟨b, 0, none⟩) n (ω.row id).cap) w := by
          have : n ≤ (ω.row id).cap := by omega
          simp [Builtin.append_, run_underlying hu, sizeOf, typeInfo, g1, Builtin.lenOf, Builtin.firstCells, this, storeCells]
        exact inplace [] w cur (by simp) (by simp) (by simp; omega) p1 ⟨rfl, rfl, rfl, Nat.le_refl _, fun _ _ _ => rfl⟩ rfl (fun k => by rw [if_neg (by simp)]) (fun i j u hu => by simp [cellOf] at hu) hrun0
      | some ad2 =>
        obtain ⟨news, hnl, hnc, hn1, hnr⟩ := hnews ad2 rfl
        by_cases hroom : n + ys.length ≤ (ω.row id).cap
        · have hfit : n * r.sz + news.length ≤ cur.size := by rw [hnl, p2, ← Nat.add_mul]; exact Nat.mul_le_mul_right _ hroom
          have hr := run_append_room' (P := P) (w := w) t o.type e e' inf hu g1 b n (ω.row id).cap cur p1 ad2 ys.length c2 news (by rw [g5]; exact hnl) hnc hn1 hroom (by rw [g5]; exact hfit)
          rw [g5] at hr
          exact inplace news _ _ hnl hn1 hroom (setRow_heap w b cur _ e' _ p1) (grownBy_setRow w b _) (store_size hfit) (fun k => store_get hfit k) hnr hr
        · have hr := run_append_grow (P := P) w t o.type e inf zv hu g1 g2 ⟨b, 0, none⟩ n (ω.row id).cap olds (by rw [g5]; exact p6) (fun j u hj => by
            rw [cell_row p1]
            have hlt : j < n * r.sz := by rw [← p6]; exact (List.getElem?_eq_some_iff.1 hj).1
            rw [p7, List.getElem?_take, if_pos hlt] at hj
            simpa using hj) ad2 ys.length c2 news (by rw [g5]; exact hnl) hnc (by omega) (by omega) (growslice_fits (by omega) (by rw [g6]; exact hb))
          have := grown olds news (ω.row id).cap (fun k => ω.f true id k ∧ k ≠ b) (fun i j k => i < n ∧ G i j k) (by rw [hlx]; exact p6) hnl hxs (fun k hk => ⟨id, rfl, hlive, hk.1⟩) (fun i j k hk => p3 i j k hk.2) (fun i j i' j' k hk hk' => p4 i j i' j' k hk.2 hk'.2) (fun i j u hu => by
            obtain ⟨v, h3, h4⟩ := holds i j u hu
            refine ⟨v, h3, h4.sub fun k hk => ⟨?_, hk⟩⟩
            unfold cellOf at hu
            rw [List.getElem?_take] at hu
            split at hu
            · assumption
            · simp at hu) hnr (by rw [hlx]; omega) (fun v hv => by
            rw [p7] at hv
            obtain ⟨q, hq⟩ := List.mem_iff_getElem?.1 (List.mem_of_mem_take hv)
            exact hcapo.2.2 q v (by simpa using hq)) hn1 (by rw [hlx]; exact hr)
          rw [hlx] at this
          exact this
end
end Go.Bw

namespace Go.Bw
open Go.RowKit
section
variable {P : Program} {w0 : World} {m0 : Mem} {s s' : St} {a : Act} {w w' : World} {m m' : Mem} {ω ω' : Wh} {F0 : Home} {T : TypeId → Option TI}

def frzRow (fr : L → L) (r : RowC) : List (List L) := match r.ov with
  | [] => r.xs.map fun x => x.map (L.frzN 4)
  | ov => r.xs.zipIdx.map fun p => p.1.zipIdx.map fun q => match ovGet ov p.2 q.2 with | some l => fr l | none => q.1.frzN 4
def frzV : Nat → St → L → L
  | n + 1, s, .ref id lo k => match look s.row id with
    | some r => if lo + k ≤ r.xs.length then .sl r.sz (((frzRow (frzV n s) r).drop lo).take k) else .any
    | none => .any
  | n + 1, s, .eptr id i o => match look s.row id with
    | some r => if i < r.xs.length then .fz (((frzRow (frzV n s) r).getD i []).drop o) else .any
    | none => .any
  | n + 1, s, .ptr id o => match look s.box id with
    | some ls => .fz ((ls.map (frzV n s)).drop o)
    | none => .any
  | n + 1, s, .clo f caps => .clo f (caps.map (frzV n s))
  | 0, _, .ref _ _ _ => .any
  | 0, _, .eptr _ _ _ => .any
  | 0, _, .ptr _ _ => .any
  | 0, _, .clo _ _ => .any
  | _, _, l => l.frzN 4

theorem frzRow_length (fr : L → L) (r : RowC) : (frzRow fr r).length = r.xs.length := by
  unfold frzRow; split <;> simp
theorem frzRow_cell (fr : L → L) (r : RowC) {i j : Nat} {u : L} (h : cellOf (frzRow fr r) i j = some u) : ∃ u0, cellOf r.xs i j = some u0 ∧ u = (match ovGet r.ov i j with | some l => fr l | none => u0.frzN 4) := by
  unfold frzRow at h
  split at h
  · rename_i hov
    obtain ⟨u0, h1, h2⟩ := cellOf_map r.xs (L.frzN 4) i j u h
    exact ⟨u0, h1, by rw [hov]; exact h2⟩
  · unfold cellOf at h ⊢
    rw [List.getElem?_map, List.getElem?_zipIdx] at h
    cases hx : r.xs[i]? with
    | none => rw [hx] at h; simp at h
    | some x =>
      rw [hx] at h
      simp only [Option.map_some, Option.bind_some, List.getElem?_map, List.getElem?_zipIdx, Option.map_eq_some_iff, Nat.zero_add] at h
      obtain ⟨q, ⟨u0, h1, rfl⟩, h2⟩ := h
      exact ⟨u0, by simpa using h1, h2.symm⟩
theorem frzRow_size (fr : L → L) (r : RowC) {sz : Nat} (h : ∀ x ∈ r.xs, x.length = sz) : ∀ x ∈ frzRow fr r, x.length = sz := by
  intro x hx
  unfold frzRow at hx
  split at hx
  · obtain ⟨y, hy, rfl⟩ := List.mem_map.1 hx
    simpa using h y hy
  · obtain ⟨y, hy, rfl⟩ := List.mem_map.1 hx
    simp only [List.length_map, List.length_zipIdx]
    exact h _ (by
      obtain ⟨q, i⟩ := y
      have := List.mem_zipIdx_iff_getElem?.1 hy
      exact List.mem_of_getElem? this)

theorem frzV_sound (h : CI P w0 m0 F0 s a w m ω) (hm : Mem.le m m') (hF : ∀ κ id, s.live κ id → ∀ x : Addr, ω.f κ id x.block → m' x = w.cell? x) : ∀ (n : Nat) (v : Value) (l : L), ERep m ω v l → Rep m' v (frzV n s l) := by
  intro n
  induction n with
  | zero =>
    intro v l hl
    cases l with
    | ref => exact .any v (ERep.oneCell (m := m) (ω := ω) hl)
    | eptr => exact .any v (ERep.oneCell (m := m) (ω := ω) hl)
    | ptr => exact .any v (ERep.oneCell (m := m) (ω := ω) hl)
    | clo => exact .any v (ERep.oneCell (m := m) (ω := ω) hl)
    | own => cases hl
    | byt => cases hl
    | _ => exact (Rep.mono hm hl)
  | succ n ih =>
    intro v l hl
    have hrow : ∀ id r, look s.row id = some r → ∀ b, (ω.row id).blk = some b → ∃ cs e, w.heap[b]? = some (.cells cs e (0, 0)) ∧ ω.f true id b ∧ (∀ i j u, cellOf (frzRow (frzV n s) r) i j = some u → ∃ v, m' ((⟨b, 0, none⟩ : Addr).add (i * r.sz + j)) = some v ∧ Rep m' v u) := by
      intro id r hr b hblk
      have hlive : s.live true id := by show (look s.row id).isSome; rw [hr]; rfl
      obtain ⟨g1, g2, g3⟩ := h.row id r hr
      rw [hblk] at g3
      obtain ⟨cs, e, k1, k2, k3, k4, k5, G, k6, k7, k8⟩ := g3
      refine ⟨cs, e, k1, k5, fun i j u hu => ?_⟩
      obtain ⟨u0, hu0, rfl⟩ := frzRow_cell _ r hu
      obtain ⟨v, h3, h4⟩ := k8 i j u0 hu0
      refine ⟨v, ?_, ?_⟩
      · rw [hF true id hlive _ (by rw [block_add]; exact k5), cell_row k1]
        exact h3
      · cases hov : ovGet r.ov i j with
        | some l => rw [hov] at h4; exact ih v l h4
        | none =>
          rw [hov] at h4
          exact CRep.frz h4 hm (fun x hx => hF true id hlive x (k6 i j _ hx).1) 4
    cases l with
    | ref id lo k =>
      simp only [frzV]
      cases hr : look s.row id with
      | none => exact .any v (ERep.oneCell (m := m) (ω := ω) hl)
      | some r =>
        simp only
        split
        · rename_i hlen
          have hl' : RefAt (ω.row id) lo k v := hl
          rcases hl' with ⟨_, rfl, rfl, rfl⟩ | ⟨b, ad, k1, k2, rfl, k4⟩
          · simp only [List.drop_zero, List.take_zero]
            exact .slNil _
          · obtain ⟨cs, e, q1, q2, q3⟩ := hrow id r hr b k1
            obtain ⟨g1, g2, _⟩ := h.row id r hr
            have hcell : ∀ i j u, cellOf (((frzRow (frzV n s) r).drop lo).take k) i j = some u → i < k ∧ cellOf (frzRow (frzV n s) r) (lo + i) j = some u := by
              intro i j u hu
              unfold cellOf at hu ⊢
              rw [List.getElem?_take] at hu
              split at hu
              · rename_i hi
                rw [List.getElem?_drop] at hu
                exact ⟨hi, hu⟩
              · simp at hu
            refine .sl ad k _ r.sz _ (fun i j => (m' (ad.add (i * r.sz + j))).getD default) (by simp [frzRow_length]; omega) (by omega) (fun x hx => frzRow_size _ r g2 x (List.mem_of_mem_drop (List.mem_of_mem_take hx))) (fun i j u hu => ?_) (fun i j u hu => ?_)
            · obtain ⟨hi, hu⟩ := hcell i j u hu
              obtain ⟨v, h3, _⟩ := q3 _ j u hu
              rw [k4 (.inl (by omega)), g1, Addr.add_lit, show lo * r.sz + (i * r.sz + j) = (lo + i) * r.sz + j by rw [Nat.add_mul]; omega]
              rw [Addr.add_lit, Nat.zero_add] at h3
              rw [h3]; rfl
            · obtain ⟨hi, hu⟩ := hcell i j u hu
              obtain ⟨v, h3, h4⟩ := q3 _ j u hu
              rw [k4 (.inl (by omega)), g1, Addr.add_lit, show lo * r.sz + (i * r.sz + j) = (lo + i) * r.sz + j by rw [Nat.add_mul]; omega]
              rw [Addr.add_lit, Nat.zero_add] at h3
              rw [h3]; exact h4
        · exact .any v (ERep.oneCell (m := m) (ω := ω) hl)
    | eptr id i o =>
      simp only [frzV]
      cases hr : look s.row id with
      | none => exact .any v (ERep.oneCell (m := m) (ω := ω) hl)
      | some r =>
        simp only
        split
        · rename_i hlen
          obtain ⟨b, k1, rfl⟩ := hl
          obtain ⟨cs, e, q1, q2, q3⟩ := hrow id r hr b k1
          obtain ⟨g1, g2, _⟩ := h.row id r hr
          refine FRep.rep fun j u hu => ?_
          rw [List.getElem?_drop] at hu
          have hlt : i < (frzRow (frzV n s) r).length := by rw [frzRow_length]; exact hlen
          have hu' : cellOf (frzRow (frzV n s) r) i (o + j) = some u := by
            rw [cellOf_row hlt]; exact hu
          obtain ⟨v, h3, h4⟩ := q3 _ _ u hu'
          refine ⟨v, ?_, h4⟩
          rw [Addr.add_lit] at h3 ⊢
          rw [← h3, g1]
          congr 2
          omega
        · exact .any v (ERep.oneCell (m := m) (ω := ω) hl)
    | ptr id o =>
      simp only [frzV]
      cases hr : look s.box id with
      | none => exact .any v (ERep.oneCell (m := m) (ω := ω) hl)
      | some ls =>
        simp only
        have hlive : s.live false id := by show (look s.box id).isSome; rw [hr]; rfl
        obtain ⟨cs, e, k1, k2, k3, G, k4, k5, k6⟩ := h.box id ls hr
        have hl : v = _ := hl
        subst hl
        refine FRep.rep fun j u hu => ?_
        rw [List.getElem?_drop, List.getElem?_map, Option.map_eq_some_iff] at hu
        obtain ⟨l0, hl0, rfl⟩ := hu
        obtain ⟨v, h3, h4⟩ := k6 _ l0 hl0
        refine ⟨v, ?_, ?_⟩
        · rw [Addr.add_lit, hF false id hlive _ k3]
          simp only [World.cell?, k1]
          exact h3
        · rcases h4.cases with ⟨sz, xs, rfl, h4⟩ | ⟨_, h4⟩ | ⟨t, q, rfl, h4⟩
          · have : frzV n s (.own sz xs) = (L.own sz xs).frzN 4 := by cases n <;> rfl
            rw [this]
            exact CRep.frz h4 hm (fun x hx => hF false id hlive x (k4 _ _ hx).1) 4
          · exact ih v l0 h4
          · have : frzV n s (.byt t q) = .any := by cases n <;> rfl
            rw [this]
            exact Rep.any _ h4.oneCell
    | clo f caps =>
      obtain ⟨vs, rfl, h2, h3⟩ := hl
      simp only [frzV]
      refine .clo f _ vs (fun i => (vs[i]?).getD default) (by simpa using h2) (fun i u hu => ?_) (fun i u hu => ?_)
      · simp only [List.getElem?_map, Option.map_eq_some_iff] at hu
        obtain ⟨u0, hu, rfl⟩ := hu
        obtain ⟨x, h4, _⟩ := h3 i u0 hu
        rw [h4]; rfl
      · simp only [List.getElem?_map, Option.map_eq_some_iff] at hu
        obtain ⟨u0, hu, rfl⟩ := hu
        obtain ⟨x, h4, h5⟩ := h3 i u0 hu
        rw [h4]
        refine ih _ _ ?_
        rcases h5 with h5 | h5
        · exact h5.erep
        · cases u0 with
          | ptr => exact h5
          | eptr => exact h5
          | _ => cases h5
    | own => cases hl
    | byt => cases hl
    | _ => exact (Rep.mono hm hl)

def keepL {α : Type} (k : List Nat) (e : List (Nat × α)) : List (Nat × α) := e.filter fun p => k.elem p.1
def dropL {α : Type} (k : List Nat) (e : List (Nat × α)) : List (Nat × α) := e.filter fun p => !k.elem p.1
theorem look_keepL {α : Type} (k : List Nat) : ∀ (e : List (Nat × α)) (i : Nat), look (keepL k e) i = if k.elem i then look e i else none
  | [], i => by simp [keepL, look]
  | (t, x) :: e, i => by
    have ih := look_keepL k e i
    simp only [keepL, List.filter_cons] at ih ⊢
    cases ht : k.elem t with
    | true =>
      simp only [if_true, look]
      by_cases h : t = i
      · subst h; rw [if_pos rfl, if_pos rfl, ht]; rfl
      · rw [if_neg h, if_neg h]; exact ih
    | false =>
      simp only [Bool.false_eq_true, if_false, look]
      rw [ih]
      by_cases h : t = i
      · subst h; rw [ht]; rfl
      · rw [if_neg h]
theorem look_dropL {α : Type} (k : List Nat) : ∀ (e : List (Nat × α)) (i : Nat), look (dropL k e) i = if k.elem i then none else look e i
  | [], i => by simp [dropL, look]
  | (t, x) :: e, i => by
    have ih := look_dropL k e i
    simp only [dropL, List.filter_cons] at ih ⊢
    cases ht : k.elem t with
    | true =>
      simp only [Bool.not_true, Bool.false_eq_true, if_false, look]
      rw [ih]
      by_cases h : t = i
      · subst h; rw [ht]; rfl
      · rw [if_neg h]
    | false =>
      simp only [Bool.not_false, if_true, look]
      by_cases h : t = i
      · subst h; rw [if_pos rfl, if_pos rfl, ht]; rfl
      · rw [if_neg h, if_neg h]; exact ih

def St.rest (s : St) (kb kr : List Nat) : St := { s with box := dropL kb s.box, row := dropL kr s.row }
def topL (kb kr : List Nat) (s1 : St) : L → L
  | .ref id lo k => if kr.elem id then .ref id lo k else frzV 4 s1 (.ref id lo k)
  | .eptr id i o => if kr.elem id then .eptr id i o else frzV 4 s1 (.eptr id i o)
  | .ptr id o => if kb.elem id then .ptr id o else frzV 4 s1 (.ptr id o)
  | .own sz xs => .own sz xs
  | .clo f caps => .clo f (caps.map fun l => match l with
    | .ptr id o => if kb.elem id then .ptr id o else frzV 4 s1 (.ptr id o)
    | .eptr id i o => if kr.elem id then .eptr id i o else frzV 4 s1 (.eptr id i o)
    | l => l)
  | l => l
def St.freeze (s : St) (kb kr : List Nat) : St :=
  { n := s.n, env := s.env.map fun p => (p.1, p.2.map (topL kb kr (s.rest kb kr))), box := (keepL kb s.box).map fun p => (p.1, p.2.map (topL kb kr (s.rest kb kr))), row := (keepL kr s.row).map fun p => (p.1, p.2.map (topL kb kr (s.rest kb kr))) }

theorem CI.freeze (h : CI P w0 m0 F0 s a w m ω) (kb kr : List Nat) : ∃ m', CI P w0 m0 F0 (s.freeze kb kr) a w m' ω ∧ Mem.le m m' ∧ ∀ v l, ERep m ω v l → ERep m' ω v (topL kb kr (s.rest kb kr) l) := by
  have h1 : CI P w0 m0 F0 (s.rest kb kr) a w m ω := h.weaken rfl (fun _ _ h => h) (fun i ls hi => by
    simp only [St.rest] at hi
    rw [look_dropL] at hi
    split at hi
    · cases hi
    · exact hi) (fun i ls hi => by
    simp only [St.rest] at hi
    rw [look_dropL] at hi
    split at hi
    · cases hi
    · exact hi)
  let F : Nat → Prop := fun k => ∃ κ id, (s.rest kb kr).live κ id ∧ ω.f κ id k
  have hF : ∀ x v, m x = some v → ¬ F x.block := by
    rintro x v hx ⟨κ, id, hl, hk⟩
    exact (h1.fresh κ id hl _ hk).2.2 x v hx rfl
  have hle := frzMem_le (w := w) hF
  have hS := fun n v l hl => frzV_sound h1 hle (fun κ id hl x hx => frzMem_in (m := m) ⟨κ, id, hl, hx⟩) n v l hl
  have hg : ∀ v l, ERep m ω v l → ERep (frzMem m w F) ω v (topL kb kr (s.rest kb kr) l) := by
    have hcap : ∀ x u, (Rep m x u ∨ PRep ω x u) → Rep (frzMem m w F) x (match u with
        | .ptr id o => if kb.elem id then .ptr id o else frzV 4 (s.rest kb kr) (.ptr id o)
        | .eptr id i o => if kr.elem id then .eptr id i o else frzV 4 (s.rest kb kr) (.eptr id i o)
        | l => l) ∨ PRep ω x (match u with
        | .ptr id o => if kb.elem id then .ptr id o else frzV 4 (s.rest kb kr) (.ptr id o)
        | .eptr id i o => if kr.elem id then .eptr id i o else frzV 4 (s.rest kb kr) (.eptr id i o)
        | l => l) := by
      intro x u hu
      cases u with
      | ptr id o =>
        rcases hu with hu | hu
        · cases hu
        · simp only
          split
          · exact .inr hu
          · exact .inl (hS 4 x _ hu)
      | eptr id i o =>
        rcases hu with hu | hu
        · cases hu
        · simp only
          split
          · exact .inr hu
          · exact .inl (hS 4 x _ hu)
      | _ =>
        rcases hu with hu | hu
        · exact .inl (hu.mono hle)
        · cases hu
    intro v l hl
    cases l with
    | ref id lo k =>
      simp only [topL]
      split
      · exact hl
      · exact (hS 4 v _ hl).erep
    | eptr id i o =>
      simp only [topL]
      split
      · exact hl
      · exact (hS 4 v _ hl).erep
    | ptr id o =>
      simp only [topL]
      split
      · exact hl
      · exact (hS 4 v _ hl).erep
    | own => cases hl
    | byt => cases hl
    | clo f caps =>
      obtain ⟨vs, rfl, h2, h3⟩ := hl
      refine ⟨vs, rfl, by simpa using h2, fun i u hu => ?_⟩
      simp only [List.getElem?_map, Option.map_eq_some_iff] at hu
      obtain ⟨u0, hu, rfl⟩ := hu
      obtain ⟨x, h4, h5⟩ := h3 i u0 hu
      exact ⟨x, h4, hcap x u0 h5⟩
    | _ => exact Rep.mono hle hl
  refine ⟨_, h.remap (g := topL kb kr (s.rest kb kr)) ⟨hle, hg, fun _ _ => rfl, fun _ _ => rfl⟩ rfl (fun t x hx => map_look hx) (fun i ls hi => ?_) (fun i r hi => ?_) (frzMem_ok h.ok) (fun x => ?_), hle, hg⟩
  · obtain ⟨y, hy, rfl⟩ := map_look hi
    rw [look_keepL] at hy
    split at hy
    · exact ⟨y, hy, rfl, rfl, rfl⟩
    · cases hy
  · obtain ⟨y, hy, rfl⟩ := map_look hi
    rw [look_keepL] at hy
    split at hy
    · exact ⟨y, hy, rfl, rfl, rfl⟩
    · cases hy
  · by_cases hx : F x.block
    · refine .inr ?_
      obtain ⟨κ, id, hl, hk⟩ := hx
      refine ⟨(h1.fresh κ id hl _ hk).2.1, fun κ' id' hl' hk' => ?_⟩
      -- what is kept isn't what is frozen
      have hk1 : s.live κ' id' ∧ (if κ' then kr.elem id' else kb.elem id') = true := by
        cases κ' with
        | false =>
          simp only [St.live, St.freeze] at hl'
          obtain ⟨z, hz⟩ := Option.isSome_iff_exists.1 hl'
          obtain ⟨y, hy, _⟩ := map_look hz
          rw [look_keepL] at hy
          split at hy
          · rename_i hq; exact ⟨by show (look s.box id').isSome; rw [hy]; rfl, hq⟩
          · cases hy
        | true =>
          simp only [St.live, St.freeze] at hl'
          obtain ⟨z, hz⟩ := Option.isSome_iff_exists.1 hl'
          obtain ⟨y, hy, _⟩ := map_look hz
          rw [look_keepL] at hy
          split at hy
          · rename_i hq; exact ⟨by show (look s.row id').isSome; rw [hy]; rfl, hq⟩
          · cases hy
      have hk2 : s.live κ id ∧ (if κ then kr.elem id else kb.elem id) = false := by
        cases κ with
        | false =>
          simp only [St.live, St.rest] at hl
          rw [look_dropL] at hl
          split at hl
          · cases hl
          · rename_i hq; exact ⟨hl, by simpa using hq⟩
        | true =>
          simp only [St.live, St.rest] at hl
          rw [look_dropL] at hl
          split at hl
          · cases hl
          · rename_i hq; exact ⟨hl, by simpa using hq⟩
      obtain ⟨rfl, rfl⟩ := h.apart _ _ _ _ hk1.1 hk2.1 _ hk' hk
      rw [hk1.2] at hk2
      cases hk2.2
    · exact .inl (frzMem_out hx)

def St.takeRow (s : St) (id d lo n : Nat) (r : RowC) : St := (s.newRow0 (some id) d r).put d (.v (.one (.ref d lo n)))
theorem moves_takeRow {o : Oper} {x : Operand} {d id lo n : Nat} {r : RowC} (ho : o.op = .assign x) (hd : o.dst = some d) (hn : d < s.n) (h : CI P w0 m0 F0 s a w m ω)
    (hx : evalO T s o.type x = some (.v (.one (.ref id lo n)))) (hb : look s.row id = some r) : Moves P w0 m0 F0 o a w (s.takeRow id d lo n r) := by
  have hlive : s.live true id := by show (look s.row id).isSome; rw [hb]; rfl
  obtain ⟨ω', hC, hri, _⟩ := h.rowNew (some id) d hn (ω.row id) (ω.f true id) (.inl (Below.refl _ _)) (fun k hk => .inl ⟨id, rfl, hlive, hk⟩) (h.row id r hb)
  refine gives_of_run (v := a.eval x) (w' := w) (by unfold execOp; simp only [ho, Sem.run_pure]) ?_
  rw [hd]
  refine ⟨m, ω', hC.put (by rw [newRow0_n]; exact hn) ?_⟩
  show RefAt (ω'.row d) lo n _
  rw [hri]
  exact evalO_sound h hx
def St.nilRow (s : St) (d z : Nat) : St := (s.newRow0 none d ⟨z, [], []⟩).put d (.v (.one (.ref d 0 0)))
theorem moves_nilRow {o : Oper} {x : Operand} {d z : Nat} (ho : o.op = .assign x) (hd : o.dst = some d) (hn : d < s.n) (h : CI P w0 m0 F0 s a w m ω)
    (hx : evalO T s o.type x = some (.v (.one (.nil z)))) : Moves P w0 m0 F0 o a w (s.nilRow d z) := by
  obtain ⟨ω', hC, hri, _⟩ := h.rowNew (r := ⟨z, [], []⟩) none d hn ⟨none, 0, z⟩ (fun _ => False) (.inl (Below.refl _ _)) (fun k hk => hk.elim) ⟨rfl, (fun x hx => by cases hx), rfl, rfl⟩
  refine gives_of_run (v := a.eval x) (w' := w) (by unfold execOp; simp only [ho, Sem.run_pure]) ?_
  rw [hd]
  refine ⟨m, ω', hC.put (by rw [newRow0_n]; exact hn) ?_⟩
  show RefAt (ω'.row d) 0 0 _
  rw [hri]
  have hv : Rep m (a.eval x) (.nil z) := evalO_sound h hx
  generalize a.eval x = u at hv
  cases hv
  exact .inl ⟨rfl, rfl, rfl, rfl⟩

def ovAll : Nat → List (List L) → List (Nat × Nat × L)
  | _, [] => []
  | i, x :: r => ovAdd i 0 x (ovAll (i + 1) r)
theorem ovGet_all : ∀ (X : List (List L)) (i0 i j : Nat), ovGet (ovAll i0 X) i j = if i0 ≤ i then (match cellOf X (i - i0) j with | some l => if l.isFz then none else some l | none => none) else none
  | [], i0, i, j => by simp [ovAll, ovGet, cellOf]
  | x :: r, i0, i, j => by
    simp only [ovAll]
    rw [ovGet_add, ovGet_all r]
    by_cases h1 : i = i0
    · subst h1
      simp only [Nat.le_refl, if_true, Nat.sub_self, Nat.not_succ_le_self, if_false, true_and, Nat.zero_le, Nat.zero_add, Nat.sub_zero, cellOf, List.getElem?_cons_zero, Option.bind_some]
      by_cases hj : j < x.length
      · rw [if_pos hj]
        cases x[j]? <;> rfl
      · rw [if_neg hj, List.getElem?_eq_none (by omega)]
    · rw [if_neg (fun e => h1 e.1)]
      by_cases h2 : i0 ≤ i
      · rw [if_pos (by omega), if_pos h2]
        have : i - i0 = (i - (i0 + 1)) + 1 := by omega
        simp only [cellOf, this, List.getElem?_cons_succ]
      · rw [if_neg (by omega), if_neg h2]
def rowOf (sz len : Nat) (ls : List L) : RowC := ⟨sz, (chunks sz len ls).map fun x => x.map L.clos, ovAll 0 (chunks sz len ls)⟩

theorem moves_buildSlice {o : Oper} {t e : TypeId} {i j : TI} {len d : Nat} {parts : Array (Nat × Operand)} {z ls : List L} {ty : TypeId} (ho : o.op = .buildSlice t len parts) (hd : o.dst = some d) (hn : d < s.n) (hTab : TabOk P T) (hi : T t = some i) (he : i.elem = some e) (hj : T e = some j)
    (hz : j.zero = some z) (hzl : z.length = j.size) (hsz : 0 < j.size) (hbig : len * j.size ≤ 16777216) (h : CI P w0 m0 F0 s a w m ω)
    (hf : fillL T s ty (fun k => some (k * j.size, j.size)) (repL z len) parts.toList = some ls) : Moves P w0 m0 F0 o a w ((s.newRow0 none d (rowOf j.size len ls)).put d (.v (.one (.ref d 0 len)))) := by
  have F := tiFacts (hTab _ _ hj)
  have hu := (tiFacts (hTab _ _ hi)).elem e he
  obtain ⟨inf, g1, g2, _⟩ := F.info
  obtain ⟨inf', zv, g3, g4, g5, _⟩ := F.zero z hz
  rw [g1] at g3
  injection g3 with g3
  subst g3
  obtain ⟨g7, g8⟩ := matchAll_rep (m := m) zv.cells.toList z g5
  have hzs : zv.cells.size = j.size := by simpa [hzl] using g7
  let init : Array Value := (Array.range (len * j.size)).map (zv.cells[· % zv.cells.size]!)
  have hinit : init.size = (repL z len).length := by simp [init, repL_length, hzl]
  have hir : ∀ (k : Nat) (l : L), (repL z len)[k]? = some l → ∃ v, init[k]? = some v ∧ ERep m ω v l := by
    intro k l hk
    have hlt : k < len * j.size := by
      have := (List.getElem?_eq_some_iff.1 hk).1
      rwa [repL_length, hzl] at this
    rw [repL_get z len k (by rw [hzl]; exact hlt)] at hk
    obtain ⟨v, h1, h2⟩ := g8 _ l hk
    refine ⟨v, ?_, h2.erep⟩
    simp only [init, Array.getElem?_map, Array.getElem?_range, if_pos hlt, Option.map_some]
    rw [hzs, ← hzl]
    have : k % z.length < zv.cells.size := by rw [hzs, ← hzl]; exact Nat.mod_lt _ (by omega)
    rw [getElem!_pos zv.cells (k % z.length) this]
    have h1' : zv.cells[k % z.length]? = some v := by simpa using h1
    rw [Array.getElem?_eq_getElem this] at h1'
    exact h1'
  obtain ⟨cs, h1, h2, h3, h4⟩ := fill_sound h parts.toList init (repL z len) ls hinit hir hf
  have hll : ls.length = len * j.size := by rw [h3, repL_length, hzl]
  have hh : (w.alloc (.cells cs e (0, 0))).heap[w.heap.size]? = some (.cells cs e (0, 0)) := heap_alloc_new w _
  have hlt := (Array.getElem?_eq_some_iff.1 hh).1
  obtain ⟨ω', hC, hri, _⟩ := h.rowNew (w' := w.alloc (.cells cs e (0, 0))) (r := rowOf j.size len ls) none d hn ⟨some w.heap.size, len, j.size⟩ (fun k => k = w.heap.size) (.inl (Below.alloc (Below.refl _ _) (Nat.le_refl _) _)) (fun k hk => .inr ⟨by omega, by omega⟩) (by
    refine ⟨rfl, fun x hx => ?_, ?_⟩
    · obtain ⟨y, hy, rfl⟩ := List.mem_map.1 hx
      simpa [rowOf] using chunks_size j.size len ls hll y hy
    · have hlen : len ≤ maxLen := by
        have : len * 1 ≤ len * j.size := Nat.mul_le_mul_left _ hsz
        unfold maxLen
        omega
      refine ⟨cs, e, hh, by rw [h2, hll]; rfl, by simp [rowOf, chunks_length], ⟨hlen, fun l hl => ?_, fun q v hq => ?_⟩, rfl, fun _ _ _ => False, fun i j k hk => hk.elim, fun i j i' j' k hk => hk.elim, fun p q u hu => ?_⟩
      · simp only [rowOf, List.length_map] at hl
        rw [ovGet_all, if_pos (Nat.zero_le _), Nat.sub_zero] at hl
        have hn : cellOf (chunks j.size len ls) (chunks j.size len ls).length 0 = none := by simp [cellOf]
        rw [hn] at hl
        cases hl
      · have hq' : q < ls.length := by have := (Array.getElem?_eq_some_iff.1 hq).1; omega
        obtain ⟨v', h5, h6⟩ := h4 q ls[q] (List.getElem?_eq_getElem hq')
        rw [hq] at h5
        injection h5 with h5
        rw [h5]
        exact h6.oneCell
      obtain ⟨u0, hu0, rfl⟩ := cellOf_map _ _ _ _ _ hu
      obtain ⟨k1, k2⟩ := chunks_cell j.size len ls p q u0 hu0
      obtain ⟨v, h5, h6⟩ := h4 _ u0 k1
      refine ⟨v, h5, ?_⟩
      simp only [rowOf]
      rw [ovGet_all, if_pos (Nat.zero_le _), Nat.sub_zero, hu0]
      simp only
      by_cases hz : u0.isFz = true
      · rw [if_pos hz]
        show CRep m _ _ v u0.clos
        exact .fr ((h6.rep hz).clos hz)
      · rw [if_neg hz]
        exact h6)
  refine gives_of_run (v := .slice (some ⟨w.heap.size, 0, none⟩) len len) (w' := w.alloc (.cells cs e (0, 0))) ?_ ⟨m, ω', ?_⟩
  · have hmap : (parts.map fun x => (x.1, a.eval x.2)).toList = parts.toList.map fun p => (p.1, a.eval p.2) := by simp
    have h1' : Instr.fill (fun i => some (i * inf.size, inf.size)) ((Array.range (len * inf.size)).map (zv.cells[· % zv.cells.size]!)) (parts.toList.map fun p => (p.1, a.eval p.2)) = some cs := by rw [g2]; exact h1
    unfold execOp
    by_cases h0 : len * inf.size = 0
    · have hr0 : Array.range (len * inf.size) = #[] := by rw [h0]; rfl
      rw [hr0] at h1'
      simp only [List.map_toArray, List.map_nil] at h1'
      have hr1 : ∀ f : Nat → Value, (Array.range 0).map f = #[] := fun f => by simp
      simp only [ho, Instr.buildSlice, Sem.run_bind, run_underlying hu, Result.andThen_ok, run_sizeOf g1, hmap]
      rw [if_neg (by omega), if_pos h0]
      simp only [Sem.run_pure, Sem.run_bind, Result.andThen_ok, h0, hr1, h1', newRow, newObj]
      rfl
    · simp only [ho, Instr.buildSlice, Sem.run_bind, run_underlying hu, Result.andThen_ok, run_sizeOf g1, hmap]
      rw [if_neg (by rw [g2]; omega), if_neg h0]
      simp only [zeroValue, typeInfo, Sem.run_bind, Sem.run, g1, g4, Result.andThen_ok, Sem.run_pure, h1', newRow, newObj, program]
      rfl
  · rw [hd]
    refine hC.put (by rw [newRow0_n]; exact hn) ?_
    show RefAt (ω'.row d) 0 len _
    rw [hri]
    exact .inr ⟨w.heap.size, ⟨w.heap.size, 0, none⟩, rfl, by simp, by simp, fun _ => by simp⟩
end
end Go.Bw

namespace Go.Bw
open Go.RowKit
section
variable {P : Program} {w0 : World} {m0 : Mem} {s s' : St} {a : Act} {w w' : World} {m m' : Mem} {ω ω' : Wh} {F0 : Home} {T : TypeId → Option TI}

theorem cell_lt {xs : List (List L)} {sz i j : Nat} {u : L} (h : ∀ x ∈ xs, x.length = sz) (hu : cellOf xs i j = some u) : i < xs.length ∧ j < sz := by
  unfold cellOf at hu
  cases hx : xs[i]? with
  | none => rw [hx] at hu; simp at hu
  | some x =>
    rw [hx] at hu
    simp only [Option.bind_some] at hu
    refine ⟨(List.getElem?_eq_some_iff.1 hx).1, ?_⟩
    rw [← h x (List.mem_of_getElem? hx)]
    exact (List.getElem?_eq_some_iff.1 hu).1
theorem CI.rowSet (h : CI P w0 m0 F0 s a w m ω) {id : Nat} {r : RowC} (hb : look s.row id = some r) (hcl : ∀ i j, i < r.xs.length → ovGet r.ov i j = none) {b : Nat} (hblk : (ω.row id).blk = some b)
    {cur : Array Value} {e : TypeId} (hcur : w.heap[b]? = some (.cells cur e (0, 0))) {p : Nat} {ys : List (List L)} {news : List Value} (hfit : p + ys.length ≤ r.xs.length) (hysz : ∀ y ∈ ys, y.length = r.sz)
    (hnl : news.length = ys.length * r.sz) (hn1 : ∀ u ∈ news, u.oneCell' = true) (hnr : ∀ i j u, cellOf ys i j = some u → ∃ v, news[i * r.sz + j]? = some v ∧ CRep m w (fun _ => False) v u) :
    p * r.sz + news.length ≤ cur.size ∧ CI P w0 m0 F0 { s with row := sput id ⟨r.sz, r.xs.take p ++ ys ++ r.xs.drop (p + ys.length), r.ov⟩ s.row } a (w.setRow b (cur.toList.take (p * r.sz) ++ news ++ cur.toList.drop (p * r.sz + news.length)).toArray) m ω := by
  obtain ⟨g1, g2, g3⟩ := h.row id r hb
  rw [hblk] at g3
  obtain ⟨cs, e', k1, k2, k3, k4, k5, G, k6, k7, k8⟩ := g3
  have hlive : s.live true id := by show (look s.row id).isSome; rw [hb]; rfl
  rw [hcur] at k1
  injection (Option.some.inj k1) with q1 q2
  subst q1
  have hfit' : p * r.sz + news.length ≤ cur.size := by rw [hnl, k2, ← Nat.add_mul]; exact Nat.mul_le_mul_right _ (by omega)
  refine ⟨hfit', ?_⟩
  have hget := fun k => store_get hfit' k
  have hsize := store_size hfit'
  generalize (cur.toList.take (p * r.sz) ++ news ++ cur.toList.drop (p * r.sz + news.length)).toArray = cs' at hget hsize ⊢
  have hg := grownBy_setRow w b cs'
  have hlen : (r.xs.take p ++ ys ++ r.xs.drop (p + ys.length)).length = r.xs.length := by simp; omega
  have hxs : ∀ x ∈ r.xs.take p ++ ys ++ r.xs.drop (p + ys.length), x.length = r.sz := by
    intro x hx
    simp only [List.mem_append] at hx
    rcases hx with (hx | hx) | hx
    · exact g2 x (List.mem_of_mem_take hx)
    · exact hysz x hx
    · exact g2 x (List.mem_of_mem_drop hx)
  refine h.rowUpd hb hblk hg (setRow_heap w b cur _ e _ hcur) (by rw [hsize]; exact k2) g1 hxs (by simp only [hlen]; exact k3) ⟨k4.1, fun l hl => ?_, fun q v hq => ?_⟩ (fun i j k => (i < p ∨ p + ys.length ≤ i) ∧ G i j k) (fun i j k hk => k6 i j k hk.2) (fun i j i' j' k hk hk' => k7 i j i' j' k hk.2 hk'.2) fun i j u hu => ?_
  · simp only [hlen] at hl ⊢
    exact k4.2.1 l hl
  · rw [hget] at hq
    split at hq
    · exact hn1 v (List.mem_of_getElem? hq)
    · exact k4.2.2 q v hq
  · simp only at hu ⊢
    obtain ⟨hi, hj⟩ := cell_lt hxs hu
    rw [hlen] at hi
    rw [hget, hcl i j hi]
    have old : (i < p ∨ p + ys.length ≤ i) → cellOf r.xs i j = some u → ∃ v, (if p * r.sz ≤ i * r.sz + j ∧ i * r.sz + j < p * r.sz + news.length then news[i * r.sz + j - p * r.sz]? else cur[i * r.sz + j]?) = some v ∧ RCell m (w.setRow b cs') ω (fun k => (i < p ∨ p + ys.length ≤ i) ∧ G i j k) v u none := by
      intro hio hu
      obtain ⟨v, h1, h2⟩ := k8 i j u hu
      rw [hcl i j hi] at h2
      have hne : ¬ (p * r.sz ≤ i * r.sz + j ∧ i * r.sz + j < p * r.sz + news.length) := by
        rw [hnl, ← Nat.add_mul]
        rintro ⟨h3, h4⟩
        rcases hio with hio | hio
        · have : (i + 1) * r.sz ≤ p * r.sz := Nat.mul_le_mul_right _ hio
          rw [Nat.add_mul] at this
          omega
        · have : (p + ys.length) * r.sz ≤ i * r.sz := Nat.mul_le_mul_right _ hio
          omega
      rw [if_neg hne]
      refine ⟨v, h1, CRep.keep (Mem.le_refl m) (CRep.sub (F' := fun k => (i < p ∨ p + ys.length ≤ i) ∧ G i j k) h2 fun k hk => ⟨hio, hk⟩) fun k hk => ?_⟩
      have hk' := k6 i j k hk.2
      exact hg.block k (h.fresh true id hlive k hk'.1).1 fun e => by injection e with e; exact hk'.2 e
    rcases cellOf_append hu with ⟨h1, h2⟩ | ⟨h1, h2⟩
    · rcases cellOf_append h2 with ⟨h3, h4⟩ | ⟨h3, h4⟩
      · have h3 : i < p := by simp at h3; omega
        refine old (.inl h3) ?_
        unfold cellOf at h4 ⊢
        rwa [List.getElem?_take, if_pos h3] at h4
      · have hpl : (r.xs.take p).length = p := by simp; omega
        rw [hpl] at h3 h4
        obtain ⟨v, h5, h6⟩ := hnr _ j u h4
        have hlt := (List.getElem?_eq_some_iff.1 h5).1
        have hle : p * r.sz ≤ i * r.sz := Nat.mul_le_mul_right _ h3
        rw [Nat.sub_mul] at hlt h5
        rw [if_pos ⟨by omega, by omega⟩]
        refine ⟨v, by rw [← h5]; congr 1; omega, ?_⟩
        exact CRep.sub (CRep.keep (Mem.le_refl m) h6 fun k hk => hk.elim) fun k hk => hk.elim
    · have hpl : (r.xs.take p ++ ys).length = p + ys.length := by simp; omega
      rw [hpl] at h1 h2
      refine old (.inr h1) ?_
      unfold cellOf at h2 ⊢
      rw [List.getElem?_drop, show p + ys.length + (i - (p + ys.length)) = i by omega] at h2
      exact h2
theorem CI.rowSame (h : CI P w0 m0 F0 s a w m ω) {id : Nat} {r : RowC} (hb : look s.row id = some r) : CI P w0 m0 F0 { s with row := sput id r s.row } a w m ω :=
  h.weaken rfl (fun _ _ h => h) (fun _ _ h => h) fun i r' hi => by
    simp only [look_sput] at hi
    split at hi
    · rename_i he
      injection hi with hi
      subst he; subst hi
      exact hb
    · exact hi

theorem moves_appendIn {o : Oper} {t e : TypeId} {i j : TI} {x y : Operand} {ty : TypeId} {d id n : Nat} {r : RowC} {ys : List (List L)} (ho : o.op = .call { callee := .builtin .append, args := #[x, y], argTypes := #[t, t] })
    (hd : o.dst = some d) (hn : d < s.n) (hT : tiOk P t i = true) (he : i.elem = some e) (hE : tiOk P e j = true) (hsz : j.size = r.sz) (h : CI P w0 m0 F0 s a w m ω)
    (hx : evalO T s ty x = some (.v (.one (.ref id 0 n)))) (hb : look s.row id = some r) (hov : r.ov = []) (hy : SliceRd m w ω (a.eval y) r.sz ys []) (hfit : n + ys.length ≤ r.xs.length) :
    Moves P w0 m0 F0 o a w (St.put { s with row := sput id ⟨r.sz, r.xs.take n ++ ys ++ r.xs.drop (n + ys.length), []⟩ s.row } d (.v (.one (.ref id 0 (n + ys.length))))) := by
  have hu := (tiFacts hT).elem e he
  obtain ⟨inf, g1, g5, g6⟩ := (tiFacts hE).info
  rw [hsz] at g5
  obtain ⟨q, hq⟩ := run_call_builtin (P := P) (a := a) (w := w) ho
  have hv1 : RefAt (ω.row id) 0 n (a.eval x) := evalO_sound h hx
  generalize hax : a.eval x = v1 at *
  generalize hay : a.eval y = v2 at *
  have hrun : (execOp a.eval o).run P w = ((Builtin.append_ #[t, t] o.type #[v1, v2]).run P w).andThen fun v w' => .ok (.value v) w' := by
    rw [hq]
    simp only [List.map_toArray, List.map_cons, List.map_nil, hax, hay, builtin, Sem.run_bind, Sem.run_pure]
  obtain ⟨A2, c2, rfl, hc2, hys, hnone, hnews⟩ := hy
  have same : ys = [] → (⟨r.sz, r.xs.take n ++ ys ++ r.xs.drop (n + ys.length), []⟩ : RowC) = r := by
    intro h0
    subst h0
    cases r
    simp only at hov
    subst hov
    simp
  have quiet : ys = [] → (Builtin.append_ #[t, t] o.type #[v1, .slice A2 ys.length c2]).run P w = .ok v1 w → Moves P w0 m0 F0 o a w (St.put { s with row := sput id ⟨r.sz, r.xs.take n ++ ys ++ r.xs.drop (n + ys.length), []⟩ s.row } d (.v (.one (.ref id 0 (n + ys.length))))) := by
    intro h0 hr
    refine gives_of_run (v := v1) (w' := w) (by rw [hrun, hr]; rfl) ?_
    rw [hd, same h0]
    subst h0
    exact ⟨m, ω, (h.rowSame hb).put hn hv1⟩
  rcases hv1 with ⟨k0, _, hn0, hvv⟩ | ⟨b, ad, k1, k2, hvv, k4⟩
  · obtain ⟨_, _, q3⟩ := h.row id r hb
    rw [k0] at q3
    have hy0 : ys = [] := List.eq_nil_of_length_eq_zero (by rw [q3.1] at hfit; simp only [List.length_nil] at hfit; omega)
    refine quiet hy0 ?_
    rw [hvv]
    subst hy0
    cases A2 with
    | none => simp [Builtin.append_, run_underlying hu, sizeOf, typeInfo, g1, Builtin.lenOf, Builtin.firstCells]
    | some ad2 => simp [Builtin.append_, run_underlying hu, sizeOf, typeInfo, g1, Builtin.lenOf, Builtin.firstCells, loadCells, loadCellsFrom]
  · have had := k4 (.inr rfl)
    simp only [Nat.zero_mul] at had
    subst had
    subst hvv
    obtain ⟨q1, q2, q3⟩ := h.row id r hb
    rw [k1] at q3
    obtain ⟨cur, e', p1, p2, p3, p4, p5, _⟩ := q3
    cases A2 with
    | none =>
      have hy0 := hnone rfl
      refine quiet hy0 ?_
      subst hy0
      have : n ≤ (ω.row id).cap := by omega
      simp [Builtin.append_, run_underlying hu, sizeOf, typeInfo, g1, Builtin.lenOf, Builtin.firstCells, this, storeCells]
    | some ad2 =>
      obtain ⟨news, hnl, hnc, hn1, hnr⟩ := hnews ad2 rfl
      obtain ⟨hf, hC⟩ := h.rowSet hb (fun i j _ => by rw [hov]; rfl) k1 p1 (p := n) hfit hys hnl hn1 hnr
      have hr := run_append_room' (P := P) (w := w) t o.type e e' inf hu g1 b n ((ω.row id).cap - 0) cur p1 ad2 ys.length c2 news (by rw [g5]; exact hnl) hnc hn1 (by omega) (by rw [g5]; exact hf)
      rw [g5] at hr
      refine gives_of_run (w' := _) (by rw [hrun, hr]; rfl) ?_
      rw [hd]
      rw [hov] at hC
      exact ⟨m, ω, hC.put hn (.inr ⟨b, _, k1, by omega, rfl, fun _ => by simp⟩)⟩

theorem moves_copy {o : Oper} {t e : TypeId} {t' : TypeId} {i j : TI} {x y : Operand} {ty : TypeId} {id lo n : Nat} {r : RowC} {ys : List (List L)} {ov : List (Nat × Nat × L)} (ho : o.op = .call { callee := .builtin .copy, args := #[x, y], argTypes := #[t, t'] })
    (hd : s.okD o.dst) (hT : tiOk P t i = true) (he : i.elem = some e) (hE : tiOk P e j = true) (hsz : j.size = r.sz) (h : CI P w0 m0 F0 s a w m ω)
    (hx : evalO T s ty x = some (.v (.one (.ref id lo n)))) (hb : look s.row id = some r) (hcl : ∀ i j, i < r.xs.length → ovGet r.ov i j = none) (hfit : lo + n ≤ r.xs.length) (hy : SliceRd m w ω (a.eval y) r.sz ys ov) (hov : ov = []) :
    Moves P w0 m0 F0 o a w (St.putO { s with row := sput id ⟨r.sz, r.xs.take lo ++ ys.take (min ys.length n) ++ r.xs.drop (lo + min ys.length n), r.ov⟩ s.row } o.dst (.v (.one (.int .i64 ((min ys.length n : Nat) : Int))))) := by
  subst hov
  have hu := (tiFacts hT).elem e he
  obtain ⟨inf, g1, g5, g6⟩ := (tiFacts hE).info
  rw [hsz] at g5
  obtain ⟨q, hq⟩ := run_call_builtin (P := P) (a := a) (w := w) ho
  have hv1 : RefAt (ω.row id) lo n (a.eval x) := evalO_sound h hx
  generalize hax : a.eval x = v1 at *
  generalize hay : a.eval y = v2 at *
  have hrun : (execOp a.eval o).run P w = ((Builtin.copy_ #[t, t'] o.type #[v1, v2]).run P w).andThen fun v w' => .ok (.value v) w' := by
    rw [hq]
    simp only [List.map_toArray, List.map_cons, List.map_nil, hax, hay, builtin, Sem.run_bind, Sem.run_pure]
  obtain ⟨A2, c2, rfl, hc2, hys, hnone, hnews⟩ := hy
  have hmin : Nat.min ys.length n = min ys.length n := rfl
  generalize hc : min ys.length n = c at *
  have hcn : c ≤ n ∧ c ≤ ys.length := by omega
  have quiet : c = 0 → (Builtin.copy_ #[t, t'] o.type #[v1, .slice A2 ys.length c2]).run P w = .ok (goInt 0) w → Moves P w0 m0 F0 o a w (St.putO { s with row := sput id ⟨r.sz, r.xs.take lo ++ ys.take c ++ r.xs.drop (lo + c), r.ov⟩ s.row } o.dst (.v (.one (.int .i64 ((c : Nat) : Int))))) := by
    intro h0 hr
    subst h0
    refine gives_of_run (v := goInt 0) (w' := w) (by rw [hrun, hr]; rfl) ?_
    have e1 : (⟨r.sz, r.xs.take lo ++ ys.take 0 ++ r.xs.drop (lo + 0), r.ov⟩ : RowC) = r := by simp
    rw [e1]
    exact ⟨m, ω, (h.rowSame hb).putO hd (Rep.int .i64 0)⟩
  rcases Nat.eq_zero_or_pos c with h0 | h0
  · refine quiet h0 ?_
    rw [h0] at hmin
    rcases hv1 with ⟨_, _, _, hvv⟩ | ⟨b, ad, _, _, hvv, _⟩
    · subst hvv
      have hmin' : Nat.min ys.length 0 = 0 := Nat.min_zero _
      cases A2 <;> simp [Builtin.copy_, run_underlying hu, Builtin.lenOf, Builtin.firstCells, sizeOf, typeInfo, g1, hmin', loadCells, loadCellsFrom]
    · subst hvv
      cases A2 <;> simp [Builtin.copy_, run_underlying hu, Builtin.lenOf, Builtin.firstCells, sizeOf, typeInfo, g1, hmin, loadCells, loadCellsFrom, storeCells]
  · rcases hv1 with ⟨_, _, hn0, _⟩ | ⟨b, ad, k1, k2, hvv, k4⟩
    · omega
    · obtain ⟨q1, q2, q3⟩ := h.row id r hb
      rw [k1] at q3
      obtain ⟨cur, e', p1, p2, p3, p4, p5, _⟩ := q3
      have had := k4 (.inl (by omega))
      rw [q1] at had
      subst had
      subst hvv
      cases A2 with
      | none =>
        have hy0 := hnone rfl
        rw [hy0] at hcn
        simp at hcn
        omega
      | some ad2 =>
        obtain ⟨news, hnl, hnc, hn1, hnr⟩ := hnews ad2 rfl
        have hle : c * r.sz ≤ news.length := by rw [hnl]; exact Nat.mul_le_mul_right _ hcn.2
        have hyl : (ys.take c).length = c := by simp; omega
        obtain ⟨hf, hC⟩ := h.rowSet hb hcl k1 p1 (p := lo) (ys := ys.take c) (news := news.take (c * r.sz)) (by rw [hyl]; omega) (fun y hy => hys y (List.mem_of_mem_take hy)) (by rw [hyl, List.length_take]; omega) (fun u hu => hn1 u (List.mem_of_mem_take hu)) (fun p q u hu => by
          have hpc : p < c := by
            unfold cellOf at hu
            rw [List.getElem?_take] at hu
            split at hu
            · assumption
            · simp at hu
          have hu' : cellOf ys p q = some u := by
            unfold cellOf at hu ⊢
            rwa [List.getElem?_take, if_pos hpc] at hu
          obtain ⟨v, h1, h2⟩ := hnr p q u hu'
          refine ⟨v, ?_, h2⟩
          have hq := (cell_lt hys hu').2
          have : (p + 1) * r.sz ≤ c * r.sz := Nat.mul_le_mul_right _ hpc
          rw [Nat.add_mul] at this
          rw [List.getElem?_take, if_pos (by omega)]
          exact h1)
        rw [hyl] at hC
        have hfc := run_firstCells_some (P := P) w inf.size c ad2 ys.length c2 (news.take (c * r.sz)) (by rw [g5, List.length_take]; omega) (fun q u hq => by
          rw [List.getElem?_take] at hq
          split at hq
          · exact hnc q u hq
          · cases hq)
        have hst := run_storeCells_at P b (lo * r.sz) e' (news.take (c * r.sz)) 0 cur w p1 (by simpa using hf) (fun u hu => hn1 u (List.mem_of_mem_take hu))
        simp only [Nat.add_zero] at hst
        have hr : (Builtin.copy_ #[t, t'] o.type #[.slice (some ⟨b, lo * r.sz, none⟩) n ((ω.row id).cap - lo), .slice (some ad2) ys.length c2]).run P w = .ok (goInt c) (w.setRow b (cur.toList.take (lo * r.sz) ++ news.take (c * r.sz) ++ cur.toList.drop (lo * r.sz + (news.take (c * r.sz)).length)).toArray) := by
          simp [Builtin.copy_, run_underlying hu, Builtin.lenOf, sizeOf, typeInfo, g1, hmin, hfc, hst]
        refine gives_of_run (w' := _) (by rw [hrun, hr]; rfl) ?_
        exact ⟨m, ω, hC.putO hd (Rep.int .i64 _)⟩

theorem zeroCells_get {zc : Array Value} {n q : Nat} (hq : q < n * zc.size) : ∃ h : q % zc.size < zc.size, (Builtin.zeroCells zc n)[q]? = some zc[q % zc.size] := by
  have hpos : 0 < zc.size := by
    rcases Nat.eq_zero_or_pos zc.size with h0 | h0
    · rw [h0] at hq; simp at hq
    · exact h0
  refine ⟨Nat.mod_lt _ hpos, ?_⟩
  unfold Builtin.zeroCells
  rw [Array.getElem?_map, Array.getElem?_range, if_pos hq]
  simp only [Option.map_some]
  rw [getElem!_pos zc (q % zc.size) (Nat.mod_lt _ hpos)]
theorem clos_plain {v : Value} {l : L} (h : Rep m v l) : Rep m v l.clos := by
  refine h.clos ?_
  cases h <;> first
    | rfl
    | skip
  rename_i f caps vs vals hl hm hr
  simp only [L.isFz, List.all_eq_true]
  intro u hu
  obtain ⟨q, hq, rfl⟩ := List.mem_iff_getElem.1 hu
  have := hr q _ (List.getElem?_eq_getElem hq)
  generalize vals q = vq at this
  cases hc : caps[q] <;> rw [hc] at this <;> first
    | rfl
    | cases this
theorem zeroRd {zc : Array Value} {z : List L} (hm : matchAll zc.toList z = true) (n : Nat) : (Builtin.zeroCells zc n).toList.length = n * z.length ∧ (∀ v ∈ (Builtin.zeroCells zc n).toList, v.oneCell' = true) ∧
    ∀ i j u, cellOf (List.replicate n (z.map L.clos)) i j = some u → ∃ v, (Builtin.zeroCells zc n).toList[i * z.length + j]? = some v ∧ Rep m v u := by
  obtain ⟨k1, k2⟩ := matchAll_rep (m := m) zc.toList z hm
  have hzs : zc.size = z.length := by simpa using k1
  refine ⟨by rw [Array.length_toList, size_zeroCells, hzs], fun v hv => ?_, fun i j u hu => ?_⟩
  · obtain ⟨q, hq⟩ := List.mem_iff_getElem?.1 hv
    have hlt : q < n * zc.size := by
      have := (List.getElem?_eq_some_iff.1 hq).1
      rwa [Array.length_toList, size_zeroCells] at this
    obtain ⟨h1, h2⟩ := zeroCells_get hlt
    have hq : (Builtin.zeroCells zc n)[q]? = some v := by simpa using hq
    rw [h2] at hq
    injection hq with hq
    subst hq
    obtain ⟨v', h3, h4⟩ := k2 (q % zc.size) z[q % zc.size] (List.getElem?_eq_getElem (by omega))
    have : v' = zc[q % zc.size] := by
      rw [List.getElem?_eq_getElem (by simpa using h1)] at h3
      injection h3 with h3
      rw [← h3]; simp
    rw [← this]
    exact h4.oneCell
  · unfold cellOf at hu
    rw [List.getElem?_replicate] at hu
    split at hu
    · rename_i hi
      simp only [Option.bind_some, List.getElem?_map, Option.map_eq_some_iff] at hu
      obtain ⟨l, hl, rfl⟩ := hu
      have hj := (List.getElem?_eq_some_iff.1 hl).1
      have hlt : i * z.length + j < n * zc.size := by
        rw [hzs]
        have : (i + 1) * z.length ≤ n * z.length := Nat.mul_le_mul_right _ hi
        rw [Nat.add_mul] at this
        omega
      obtain ⟨h1, h2⟩ := zeroCells_get hlt
      have e : (i * z.length + j) % zc.size = j := by rw [hzs, Nat.mul_comm, Nat.mul_add_mod, Nat.mod_eq_of_lt hj]
      obtain ⟨v', h3, h4⟩ := k2 j l hl
      have hv : v' = zc[j]'(by omega) := by
        rw [List.getElem?_eq_getElem (by simp; omega)] at h3
        injection h3 with h3
        rw [← h3]; simp
      refine ⟨v', ?_, clos_plain h4⟩
      rw [Array.getElem?_toList, h2, hv]
      simp only [e]
    · simp at hu

theorem moves_clear {o : Oper} {t e : TypeId} {i j : TI} {x : Operand} {ty : TypeId} {z : List L} {id lo n : Nat} {r : RowC} (ho : o.op = .call { callee := .builtin .clear, args := #[x], argTypes := #[t] })
    (hd : s.okD o.dst) (hT : tiOk P t i = true) (he : i.elem = some e) (hE : tiOk P e j = true) (hz : j.zero = some z) (hsz : j.size = r.sz) (hzl : z.length = r.sz) (h : CI P w0 m0 F0 s a w m ω)
    (hx : evalO T s ty x = some (.v (.one (.ref id lo n)))) (hb : look s.row id = some r) (hcl : ∀ i j, i < r.xs.length → ovGet r.ov i j = none) (hfit : lo + n ≤ r.xs.length) :
    Moves P w0 m0 F0 o a w (St.putO { s with row := sput id ⟨r.sz, r.xs.take lo ++ List.replicate n (z.map L.clos) ++ r.xs.drop (lo + n), r.ov⟩ s.row } o.dst (.tup [])) := by
  have hu := (tiFacts hT).elem e he
  obtain ⟨inf, zv, g1, g2, g3, _⟩ := (tiFacts hE).zero z hz
  obtain ⟨q, hq⟩ := run_call_builtin (P := P) (a := a) (w := w) ho
  have hv1 : RefAt (ω.row id) lo n (a.eval x) := evalO_sound h hx
  generalize hax : a.eval x = v1 at *
  have hrun : (execOp a.eval o).run P w = ((Builtin.clear_ #[t] o.type #[v1]).run P w).andThen fun v w' => .ok (.value v) w' := by
    rw [hq]
    simp only [List.map_toArray, List.map_cons, List.map_nil, hax, builtin, Sem.run_bind, Sem.run_pure]
  have quiet : n = 0 → (Builtin.clear_ #[t] o.type #[v1]).run P w = .ok (.tuple #[]) w → Moves P w0 m0 F0 o a w (St.putO { s with row := sput id ⟨r.sz, r.xs.take lo ++ List.replicate n (z.map L.clos) ++ r.xs.drop (lo + n), r.ov⟩ s.row } o.dst (.tup [])) := by
    intro h0 hr
    subst h0
    refine gives_of_run (v := .tuple #[]) (w' := w) (by rw [hrun, hr]; rfl) ?_
    have e1 : (⟨r.sz, r.xs.take lo ++ List.replicate 0 (z.map L.clos) ++ r.xs.drop (lo + 0), r.ov⟩ : RowC) = r := by simp
    rw [e1]
    exact ⟨m, ω, (h.rowSame hb).putO hd arep_undef⟩
  rcases hv1 with ⟨_, _, h0, hvv⟩ | ⟨b, ad, k1, k2, hvv, k4⟩
  · refine quiet h0 ?_
    subst hvv
    simp [Builtin.clear_, run_underlying hu]
  · rcases Nat.eq_zero_or_pos n with h0 | h0
    · refine quiet h0 ?_
      subst hvv
      subst h0
      simp [Builtin.clear_, run_underlying hu]
    · obtain ⟨q1, q2, q3⟩ := h.row id r hb
      rw [k1] at q3
      obtain ⟨cur, e', p1, p2, p3, p4, p5, _⟩ := q3
      have had := k4 (.inl (by omega))
      rw [q1] at had
      subst had
      subst hvv
      obtain ⟨z1, z2, z3⟩ := zeroRd (m := m) g3 n
      rw [hzl] at z1 z3
      obtain ⟨hf, hC⟩ := h.rowSet hb hcl k1 p1 (p := lo) (ys := List.replicate n (z.map L.clos)) (news := (Builtin.zeroCells zv.cells n).toList) (by simpa using hfit) (fun y hy => by
        rw [List.eq_of_mem_replicate hy]; simpa using hzl) (by simpa using z1) z2 (fun p q u hu => by
        obtain ⟨v, h1, h2⟩ := z3 p q u hu
        exact ⟨v, h1, .fr h2⟩)
      rw [List.length_replicate] at hC
      have hst := run_storeCells_at P b (lo * r.sz) e' (Builtin.zeroCells zv.cells n).toList 0 cur w p1 (by simpa using hf) z2
      simp only [Nat.add_zero] at hst
      have hr : (Builtin.clear_ #[t] o.type #[.slice (some ⟨b, lo * r.sz, none⟩) n ((ω.row id).cap - lo)]).run P w = .ok (.tuple #[]) (w.setRow b (cur.toList.take (lo * r.sz) ++ (Builtin.zeroCells zv.cells n).toList ++ cur.toList.drop (lo * r.sz + (Builtin.zeroCells zv.cells n).toList.length)).toArray) := by
        cases n with
        | zero => omega
        | succ n => simp [Builtin.clear_, run_underlying hu, zeroValue, typeInfo, g1, g2, hst]
      refine gives_of_run (w' := _) (by rw [hrun, hr]; rfl) ?_
      exact ⟨m, ω, hC.putO hd arep_undef⟩

theorem CI.rowRe (h : CI P w0 m0 F0 s a w m ω) {id : Nat} {r r' : RowC} (hb : look s.row id = some r) (hR : RowRep m w ω id r') : CI P w0 m0 F0 { s with row := sput id r' s.row } a w m ω := by
  have hl : ∀ κ i, ({ s with row := sput id r' s.row } : St).live κ i → s.live κ i := by
    intro κ i hl
    cases κ with
    | false => exact hl
    | true =>
      simp only [St.live, look_sput] at hl ⊢
      split at hl
      · rename_i he; rw [he, hb]; rfl
      · exact hl
  refine { size := h.size, defers := h.defers, keeps := h.keeps, mle := h.mle, mold := h.mold, ok := h.ok, env := h.env, box := h.box, row := fun i q hi => ?_, fresh := fun κ i hi => h.fresh κ i (hl κ i hi), apart := fun κ i κ' i' hi hi' => h.apart κ i κ' i' (hl κ i hi) (hl κ' i' hi'),
           home := ⟨h.home.big, h.home.box, fun i b hb' hi => h.home.row i b hb' (hl true i hi)⟩, good := h.good }
  simp only [look_sput] at hi
  split at hi
  · rename_i he
    injection hi with hi
    subst hi
    rw [he]
    exact hR
  · exact h.row i q hi
def padRow (r : RowC) (p : Nat) : RowC := ⟨r.sz, r.xs ++ List.replicate p (List.replicate r.sz .any), [(r.xs.length + p, 0, .any)]⟩
theorem CI.rowPad (h : CI P w0 m0 F0 s a w m ω) {id : Nat} {r : RowC} (hb : look s.row id = some r) (hov : r.ov = []) : ∃ p, (ω.row id).cap = r.xs.length + p ∧ r.xs.length + p ≤ maxLen ∧ CI P w0 m0 F0 { s with row := sput id (padRow r p) s.row } a w m ω := by
  have hR : RowRepG m w ω (ω.row id) (ω.f true id) r := h.row id r hb
  obtain ⟨g1, g2, g3⟩ := hR
  have hpl : ∀ (p : Nat) (x : List L), x ∈ (padRow r p).xs → x.length = r.sz := by
    intro p x hx
    rcases List.mem_append.1 hx with hx | hx
    · exact g2 x hx
    · rw [List.eq_of_mem_replicate hx]; simp
  cases hblk : (ω.row id).blk with
  | none =>
    rw [hblk] at g3
    refine ⟨0, by rw [g3.1, g3.2]; rfl, by rw [g3.1]; simp, h.rowRe hb ⟨g1, hpl 0, ?_⟩⟩
    rw [hblk]
    exact ⟨by simp [padRow, g3.1], g3.2⟩
  | some b =>
    rw [hblk] at g3
    obtain ⟨cs, e, k1, k2, k3, k4, k5, G, k6, k7, k8⟩ := g3
    have hc : r.xs.length + ((ω.row id).cap - r.xs.length) = (ω.row id).cap := by omega
    refine ⟨(ω.row id).cap - r.xs.length, hc.symm, by rw [hc]; exact k4.1, h.rowRe hb ⟨g1, hpl _, ?_⟩⟩
    rw [hblk]
    have hl : (padRow r ((ω.row id).cap - r.xs.length)).xs.length = (ω.row id).cap := by simp [padRow]; omega
    refine ⟨cs, e, k1, k2, by rw [hl]; exact Nat.le_refl _, ⟨k4.1, fun l _ => hl.symm, k4.2.2⟩, k5, (fun i j k => i < r.xs.length ∧ G i j k), (fun i j k hk => k6 i j k hk.2), (fun i j i' j' k hk hk' => k7 i j i' j' k hk.2 hk'.2), fun i j u hu => ?_⟩
    obtain ⟨hi, hj⟩ := cell_lt (hpl _) hu
    rw [hl] at hi
    have hno : ovGet (padRow r ((ω.row id).cap - r.xs.length)).ov i j = none := by
      simp only [padRow, ovGet, hc]
      rw [if_neg (fun e => by omega)]
    rw [hno]
    show ∃ v, cs[i * r.sz + j]? = some v ∧ CRep m w _ v u
    rcases cellOf_append hu with ⟨h1, h2⟩ | ⟨h1, h2⟩
    · obtain ⟨v, h3, h4⟩ := k8 i j u h2
      rw [hov] at h4
      exact ⟨v, h3, CRep.sub (F := G i j) h4 fun k hk => ⟨h1, hk⟩⟩
    · have hu' : u = .any := by
        unfold cellOf at h2
        rw [List.getElem?_replicate] at h2
        split at h2
        · simp only [Option.bind_some, List.getElem?_replicate] at h2
          rw [if_pos hj] at h2
          injection h2 with h2
          exact h2.symm
        · simp at h2
      subst hu'
      have hq : i * r.sz + j < cs.size := by
        rw [k2]
        have : (i + 1) * r.sz ≤ (ω.row id).cap * r.sz := Nat.mul_le_mul_right _ hi
        rw [Nat.add_mul] at this
        omega
      exact ⟨cs[i * r.sz + j], Array.getElem?_eq_getElem hq, .fr (.any _ (k4.2.2 _ _ (Array.getElem?_eq_getElem hq)))⟩
theorem CI.rowCut (h : CI P w0 m0 F0 s a w m ω) {id k : Nat} {r : RowC} (hb : look s.row id = some r) (hcl : ∀ i j, i < r.xs.length → ovGet r.ov i j = none) (hk : k ≤ r.xs.length) : CI P w0 m0 F0 { s with row := sput id ⟨r.sz, r.xs.take k, []⟩ s.row } a w m ω := by
  have hR : RowRepG m w ω (ω.row id) (ω.f true id) r := h.row id r hb
  obtain ⟨g1, g2, g3⟩ := hR
  refine h.rowRe hb ⟨g1, fun x hx => g2 x (List.mem_of_mem_take hx), ?_⟩
  cases hblk : (ω.row id).blk with
  | none =>
    rw [hblk] at g3
    exact ⟨by rw [g3.1]; simp, g3.2⟩
  | some b =>
    rw [hblk] at g3
    obtain ⟨cs, e, k1, k2, k3, k4, k5, G, k6, k7, k8⟩ := g3
    refine ⟨cs, e, k1, k2, by simp; omega, ⟨k4.1, fun l hl => (by cases hl), k4.2.2⟩, k5, G, k6, k7, fun i j u hu => ?_⟩
    have hu' : i < k ∧ cellOf r.xs i j = some u := by
      unfold cellOf at hu ⊢
      rw [List.getElem?_take] at hu
      split at hu
      · exact ⟨by assumption, hu⟩
      · simp at hu
    obtain ⟨v, h3, h4⟩ := k8 i j u hu'.2
    rw [hcl i j (by omega)] at h4
    exact ⟨v, h3, h4⟩

theorem follows_cap {o : Oper} {t e : TypeId} {i : TI} {x : Operand} {ty : TypeId} {id n d : Nat} {r : RowC} (ho : o.op = .call { callee := .builtin .cap, args := #[x], argTypes := #[t] })
    (hd : o.dst = some d) (hn : d < s.n) (hT : tiOk P t i = true) (he : i.elem = some e) (h : CI P w0 m0 F0 s a w m ω)
    (hx : evalO T s ty x = some (.v (.one (.ref id 0 n)))) (hb : look s.row id = some r) (hov : r.ov = []) :
    ∃ p, r.xs.length + p ≤ maxLen ∧ Moves P w0 m0 F0 o a w (St.put { s with row := sput id (padRow r p) s.row } d (.v (.one (.int .i64 ((r.xs.length + p : Nat) : Int))))) := by
  obtain ⟨p, hp, hm, hC⟩ := h.rowPad hb hov
  refine ⟨p, hm, ?_⟩
  have hu := (tiFacts hT).elem e he
  obtain ⟨q, hq⟩ := run_call_builtin (P := P) (a := a) (w := w) ho
  have hv1 : RefAt (ω.row id) 0 n (a.eval x) := evalO_sound h hx
  have hc : (Builtin.cap_ #[t] o.type #[a.eval x]).run P w = .ok (goInt (r.xs.length + p : Nat)) w := by
    rw [← hp]
    rcases hv1 with ⟨k0, _, _, hvv⟩ | ⟨b, ad, k1, k2, hvv, k4⟩
    · have hR : RowRepG m w ω (ω.row id) (ω.f true id) r := h.row id r hb
      obtain ⟨_, _, g3⟩ := hR
      rw [k0] at g3
      rw [hvv, g3.2]
      simp [Builtin.cap_, run_underlying hu]
    · rw [hvv]
      simp [Builtin.cap_, run_underlying hu]
  refine gives_of_run (v := goInt (r.xs.length + p : Nat)) (w' := w) ?_ ?_
  · rw [hq]
    simp only [List.map_toArray, List.map_cons, List.map_nil, builtin, Sem.run_bind, Sem.run_pure, hc]
    rfl
  · rw [hd]
    exact ⟨m, ω, hC.put hn (Rep.int .i64 _)⟩

theorem moves_appendMk {o : Oper} {t t' e : TypeId} {i j : TI} {x y : Operand} {ty ty' : TypeId} {d id n k : Nat} {kn kq : IntKind} {r : RowC} {z : List L} (ho : o.op = .call { callee := .builtin .append, args := #[x, y], argTypes := #[t, t'] })
    (hd : o.dst = some d) (hn : d < s.n) (hT : tiOk P t i = true) (he : i.elem = some e) (hE : tiOk P e j = true) (hz : j.zero = some z) (hsz : j.size = r.sz) (hzl : z.length = r.sz) (hs0 : 0 < r.sz) (ht' : P.underlying t' = some (.int kn)) (h : CI P w0 m0 F0 s a w m ω)
    (hx : evalO T s ty x = some (.v (.one (.ref id 0 n)))) (hy : evalO T s ty' y = some (.v (.one (.int kq (k : Int))))) (hb : look s.row id = some r) (hcl : ∀ i j, i < r.xs.length → ovGet r.ov i j = none)
    (hmk : ovGet r.ov r.xs.length 0 ≠ none) (hnx : n ≤ r.xs.length) (hno : noOwn (r.xs.take n)) (h0 : 0 < k) (hgr : r.xs.length < n + k) (hbs : (n + k) * j.bytes ≤ 140737488355328) (hm : n + k ≤ 9223372036854775807) :
    Moves P w0 m0 F0 o a w (s.appended none d r.sz (r.xs.take n ++ List.replicate k (z.map L.clos)) []) := by
  have hu := (tiFacts hT).elem e he
  obtain ⟨inf, zv, g1, g2, g3, _⟩ := (tiFacts hE).zero z hz
  obtain ⟨inf', g4, g5, g6⟩ := (tiFacts hE).info
  rw [g1] at g4
  injection g4 with g4
  subst g4
  rw [hsz] at g5
  have hzs : zv.cells.size = r.sz := by
    have := (matchAll_rep (m := m) zv.cells.toList z g3).1
    simpa [hzl] using this
  obtain ⟨q, hq⟩ := run_call_builtin (P := P) (a := a) (w := w) ho
  have hv1 : RefAt (ω.row id) 0 n (a.eval x) := evalO_sound h hx
  have hv2 : a.eval y = .int kq k := by
    have hv2 : Rep m (a.eval y) (.int kq k) := evalO_sound h hy
    generalize a.eval y = u at hv2 ⊢
    cases hv2
    rfl
  generalize hax : a.eval x = v1 at *
  have hrun : (execOp a.eval o).run P w = ((Builtin.append_ #[t, t'] o.type #[v1, .int kq k]).run P w).andThen fun v w' => .ok (.value v) w' := by
    rw [hq]
    simp only [List.map_toArray, List.map_cons, List.map_nil, hax, hv2, builtin, Sem.run_bind, Sem.run_pure]
  have hmaxw : maxLen = 9223372036854775807 := rfl
  obtain ⟨q1, q2, q3⟩ := h.row id r hb
  have hlx : (r.xs.take n).length = n := by simp; omega
  -- the capacity, the elements
  have key : ∃ (base : Option Addr) (sCap : Nat) (olds : List Value), v1 = .slice base n sCap ∧ sCap < n + k ∧ olds.length = n * r.sz ∧ (Builtin.firstCells inf.size n (.slice base n sCap)).run P w.drew = .ok olds.toArray w.drew ∧ (∀ v ∈ olds, v.oneCell' = true) ∧
      ∀ i j u, cellOf (r.xs.take n) i j = some u → ∃ v, olds[i * r.sz + j]? = some v ∧ CRep m w (fun _ => False) v u := by
    rcases hv1 with ⟨k0, _, hn0, hvv⟩ | ⟨b, ad, k1, k2, hvv, k4⟩
    · subst hn0
      refine ⟨none, 0, [], hvv, by omega, by simp, by simp [Builtin.firstCells], by simp, fun i j u hu => by simp [cellOf] at hu⟩
    · obtain ⟨cs, e', G, p1, p2, p3, p4, p5, olds, p6, p7, p8, p9⟩ := row_flat h hb k1 (lo := 0) (n := n) (by omega)
      simp only [List.drop_zero, Nat.zero_mul, Nat.zero_add] at p7 p9
      have had := k4 (.inr rfl)
      simp only [Nat.zero_mul] at had
      subst had
      rw [k1] at q3
      obtain ⟨_, _, _, _, _, q4, _⟩ := q3
      have hcap : (ω.row id).cap = r.xs.length := by
        cases hov : ovGet r.ov r.xs.length 0 with
        | none => exact absurd hov hmk
        | some l => exact q4.2.1 l hov
      refine ⟨some ⟨b, 0, none⟩, (ω.row id).cap - 0, olds, hvv, by omega, p6, ?_, p8, fun i j u hu => ?_⟩
      · refine run_firstCells_some (P := P) w.drew inf.size n ⟨b, 0, none⟩ n _ olds (by rw [g5]; exact p6) fun q u hq => ?_
        have hlt : q < n * r.sz := by rw [← p6]; exact (List.getElem?_eq_some_iff.1 hq).1
        show w.cell? _ = some u
        rw [cell_row p1]
        rw [p7, List.getElem?_take, if_pos hlt] at hq
        simpa using hq
      · obtain ⟨v, h1, h2⟩ := p9 i j u hu
        obtain ⟨x, hx', hux⟩ := cellOf_mem hu
        have hi := (cell_lt (fun x hx => q2 x (List.mem_of_mem_take hx)) hu).1
        rw [hcl i j (by simp at hi; omega)] at h2
        exact ⟨v, h1, RCell.noOwn (o := none) h2 (hno x hx' u hux) _⟩
  obtain ⟨base, sCap, olds, hvv, hgc, hol, hfc, hon, hor⟩ := key
  have hr := Lib.run_append_grow_zeros (P := P) w t t' o.type e inf zv kq kn hu ht' g1 g2 base n sCap olds hfc k h0 (by rw [g5]; exact hs0) hgc (by omega) (by rw [g6]; have : k * j.bytes ≤ (n + k) * j.bytes := Nat.mul_le_mul_right _ (by omega); omega) (growslice_fits (by omega) (by rw [g6]; exact hbs))
  rw [← hvv] at hr
  have hge := grownCap_ge w (n + k) sCap e
  have hcm : grownCap w (n + k) sCap e ≤ maxLen := grownCap_le_maxLen w _ sCap e (by rw [hmaxw]; exact hm)
  generalize grownCap w (n + k) sCap e = C at hr hge hcm
  obtain ⟨z1, z2, z3⟩ := zeroRd (m := m) g3 k
  obtain ⟨y1, y2, _⟩ := zeroRd (m := m) g3 (C - (n + k))
  rw [hzl] at z1 z3 y1
  have hbl : Below w.heap.size w (w.drew.alloc (.cells (olds.toArray ++ Builtin.zeroCells zv.cells k ++ Builtin.zeroCells zv.cells (C - (n + k))) e)) := ((Below.refl _ w).drew).alloc (Nat.le_refl _) _
  have hh : (w.drew.alloc (.cells (olds.toArray ++ Builtin.zeroCells zv.cells k ++ Builtin.zeroCells zv.cells (C - (n + k))) e)).heap[w.heap.size]? = _ := heap_alloc_new w.drew _
  have hsize := (Array.getElem?_eq_some_iff.1 hh).1
  have hzsz : (Builtin.zeroCells zv.cells k).size = k * r.sz := by rw [← Array.length_toList]; exact z1
  have hysz : (Builtin.zeroCells zv.cells (C - (n + k))).size = (C - (n + k)) * r.sz := by rw [← Array.length_toList]; exact y1
  obtain ⟨ω', hC, hri, _⟩ := h.rowNew (r := ⟨r.sz, r.xs.take n ++ List.replicate k (z.map L.clos), []⟩) none d hn ⟨some w.heap.size, C, r.sz⟩ (fun q => q = w.heap.size) (.inl hbl) (fun q hq => .inr ⟨by omega, by rw [hq]; exact hsize⟩) (by
    refine ⟨rfl, fun x hx => ?_, ?_⟩
    · rcases List.mem_append.1 hx with hx | hx
      · exact q2 x (List.mem_of_mem_take hx)
      · rw [List.eq_of_mem_replicate hx]; simpa using hzl
    · refine ⟨_, e, hh, ?_, by simp; omega, ⟨hcm, fun l hl => (by cases hl), fun q v hq => ?_⟩, rfl, fun _ _ _ => False, (fun i j k hk => hk.elim), (fun i j i' j' k hk => hk.elim), fun i j u hu => ?_⟩
      · simp only [Array.size_append, List.size_toArray, hzsz, hysz, hol, ← Nat.add_mul]
        congr 1
        omega
      · have hm' := Array.mem_of_getElem? hq
        simp only [Array.mem_append, List.mem_toArray] at hm'
        rcases hm' with (hm' | hm') | hm'
        · exact hon v hm'
        · exact z2 v (by simpa using hm')
        · exact y2 v (by simpa using hm')
      · show ∃ v, _ ∧ CRep m _ _ v u
        rcases cellOf_append hu with ⟨hi, hu⟩ | ⟨hi, hu⟩
        · obtain ⟨v, h1, h2⟩ := hor i j u hu
          have hlt := (List.getElem?_eq_some_iff.1 h1).1
          refine ⟨v, ?_, CRep.keep (Mem.le_refl m) h2 fun k hk => hk.elim⟩
          rw [Array.getElem?_append_left (by simp; omega), Array.getElem?_append_left (by simpa using hlt)]
          simpa using h1
        · rw [hlx] at hi hu
          obtain ⟨v, h1, h2⟩ := z3 _ j u hu
          have hlt := (List.getElem?_eq_some_iff.1 h1).1
          have hle : n * r.sz ≤ i * r.sz := Nat.mul_le_mul_right _ hi
          rw [Nat.sub_mul] at hlt h1
          simp only [Array.length_toList] at hlt
          refine ⟨v, ?_, .fr h2⟩
          rw [Array.getElem?_append_left (by simp; omega), Array.getElem?_append_right (by simp; omega)]
          rw [← h1, Array.getElem?_toList]
          congr 1
          simp
          omega)
  refine gives_of_run (w' := _) (by rw [hrun, hr]; rfl) ?_
  rw [hd]
  refine ⟨m, ω', hC.put (by rw [newRow0_n]; exact hn) ?_⟩
  show RefAt (ω'.row d) 0 _ _
  rw [hri]
  have hl2 : (r.xs.take n ++ List.replicate k (z.map L.clos)).length = n + k := by simp; omega
  rw [hl2]
  exact .inr ⟨w.heap.size, ⟨w.heap.size, 0, none⟩, rfl, by simp; omega, by simp, fun _ => by simp⟩
theorem nil_eval {x : Operand} {ty : TypeId} {sz : Nat} (h : CI P w0 m0 F0 s a w m ω) (hx : evalO T s ty x = some (.v (.one (.nil sz)))) : a.eval x = .slice none 0 0 := by
  have hv : Rep m (a.eval x) (.nil sz) := evalO_sound h hx
  generalize a.eval x = u at hv ⊢
  cases hv
  rfl
theorem moves_capNil {o : Oper} {t e : TypeId} {i : TI} {x : Operand} {ty : TypeId} {n sz : Nat} (ho : o.op = .call { callee := .builtin .cap, args := #[x], argTypes := #[t] }) (hd : o.dst = some n) (hn : n < s.n) (hT : tiOk P t i = true) (he : i.elem = some e) (h : CI P w0 m0 F0 s a w m ω)
    (hx : evalO T s ty x = some (.v (.one (.nil sz)))) : Moves P w0 m0 F0 o a w (s.put n (.v (.one (.int .i64 0)))) := by
  have hu := (tiFacts hT).elem e he
  obtain ⟨q, hq⟩ := run_call_builtin (P := P) (a := a) (w := w) ho
  have hc : (Builtin.cap_ #[t] o.type #[a.eval x]).run P w = .ok (goInt (0 : Nat)) w := by
    rw [nil_eval h hx]
    simp [Builtin.cap_, run_underlying hu]
  refine gives_of_run (v := goInt (0 : Nat)) (w' := w) ?_ ?_
  · rw [hq]
    simp only [List.map_toArray, List.map_cons, List.map_nil, builtin, Sem.run_bind, Sem.run_pure, hc]
    rfl
  · rw [hd]
    exact ⟨m, ω, h.put hn (Rep.int .i64 _)⟩
theorem moves_appendNil {o : Oper} {t t' e : TypeId} {i j : TI} {x y : Operand} {ty ty' : TypeId} {n k sz : Nat} {kn kq : IntKind} {z : List L} (ho : o.op = .call { callee := .builtin .append, args := #[x, y], argTypes := #[t, t'] })
    (hd : o.dst = some n) (hn : n < s.n) (hT : tiOk P t i = true) (he : i.elem = some e) (hE : tiOk P e j = true) (hz : j.zero = some z) (hzl : z.length = j.size) (hs0 : 0 < j.size) (ht' : P.underlying t' = some (.int kn)) (h : CI P w0 m0 F0 s a w m ω)
    (hx : evalO T s ty x = some (.v (.one (.nil sz)))) (hy : evalO T s ty' y = some (.v (.one (.int kq (k : Int))))) (h0 : 0 < k) (hbs : k * j.bytes ≤ 140737488355328) (hm : k ≤ 9223372036854775807) :
    Moves P w0 m0 F0 o a w (s.appended Option.none n j.size (List.replicate k (z.map L.clos)) []) := by
  have hu := (tiFacts hT).elem e he
  obtain ⟨inf, zv, g1, g2, g3, _⟩ := (tiFacts hE).zero z hz
  obtain ⟨inf', g4, g5, g6⟩ := (tiFacts hE).info
  rw [g1] at g4
  injection g4 with g4
  subst g4
  obtain ⟨q, hq⟩ := run_call_builtin (P := P) (a := a) (w := w) ho
  have hv2 : a.eval y = .int kq k := by
    have hv2 : Rep m (a.eval y) (.int kq k) := evalO_sound h hy
    generalize a.eval y = u at hv2 ⊢
    cases hv2
    rfl
  have hrun : (execOp a.eval o).run P w = ((Builtin.append_ #[t, t'] o.type #[.slice none 0 0, .int kq k]).run P w).andThen fun v w' => .ok (.value v) w' := by
    rw [hq]
    simp only [List.map_toArray, List.map_cons, List.map_nil, nil_eval h hx, hv2, builtin, Sem.run_bind, Sem.run_pure]
  have hmaxw : maxLen = 9223372036854775807 := rfl
  have hr := Lib.run_append_grow_zeros (P := P) w t t' o.type e inf zv kq kn hu ht' g1 g2 none 0 0 [] (by simp [Builtin.firstCells]) k h0 (by rw [g5]; exact hs0) (by omega) (by omega) (by rw [g6]; omega) (growslice_fits (by omega) (by rw [g6, Nat.zero_add]; exact hbs))
  simp only [Nat.zero_add] at hr
  have hge := grownCap_ge w k 0 e
  have hcm : grownCap w k 0 e ≤ maxLen := grownCap_le_maxLen w _ 0 e (by rw [hmaxw]; exact hm)
  generalize grownCap w k 0 e = C at hr hge hcm
  obtain ⟨z1, z2, z3⟩ := zeroRd (m := m) g3 k
  obtain ⟨y1, y2, _⟩ := zeroRd (m := m) g3 (C - k)
  rw [hzl] at z1 z3 y1
  have hbl : Below w.heap.size w (w.drew.alloc (.cells (([] : List Value).toArray ++ Builtin.zeroCells zv.cells k ++ Builtin.zeroCells zv.cells (C - k)) e)) := ((Below.refl _ w).drew).alloc (Nat.le_refl _) _
  have hh : (w.drew.alloc (.cells (([] : List Value).toArray ++ Builtin.zeroCells zv.cells k ++ Builtin.zeroCells zv.cells (C - k)) e)).heap[w.heap.size]? = _ := heap_alloc_new w.drew _
  have hsize := (Array.getElem?_eq_some_iff.1 hh).1
  have hzsz : (Builtin.zeroCells zv.cells k).size = k * j.size := by rw [← Array.length_toList]; exact z1
  have hysz : (Builtin.zeroCells zv.cells (C - k)).size = (C - k) * j.size := by rw [← Array.length_toList]; exact y1
  obtain ⟨ω', hC, hri, _⟩ := h.rowNew (r := ⟨j.size, List.replicate k (z.map L.clos), []⟩) Option.none n hn ⟨some w.heap.size, C, j.size⟩ (fun q => q = w.heap.size) (.inl hbl) (fun q hq => .inr ⟨by omega, by rw [hq]; exact hsize⟩) (by
    refine ⟨rfl, fun x hx => ?_, ?_⟩
    · rw [List.eq_of_mem_replicate hx]; simpa using hzl
    · refine ⟨_, e, hh, ?_, by simp; omega, ⟨hcm, fun l hl => (by cases hl), fun q v hq => ?_⟩, rfl, fun _ _ _ => False, (fun i j k hk => hk.elim), (fun i j i' j' k hk => hk.elim), fun i' j' u hu => ?_⟩
      · simp only [Array.size_append, List.size_toArray, List.length_nil, hzsz, hysz, Nat.zero_add, ← Nat.add_mul]
        congr 1
        omega
      · have hm' := Array.mem_of_getElem? hq
        simp only [Array.mem_append, List.mem_toArray, List.not_mem_nil, false_or] at hm'
        rcases hm' with hm' | hm'
        · exact z2 v (by simpa using hm')
        · exact y2 v (by simpa using hm')
      · show ∃ v, _ ∧ CRep m _ _ v u
        obtain ⟨v, h1, h2⟩ := z3 _ j' u hu
        have hlt := (List.getElem?_eq_some_iff.1 h1).1
        simp only [Array.length_toList] at hlt
        refine ⟨v, ?_, .fr h2⟩
        rw [Array.getElem?_append_left (by simp; omega), Array.getElem?_append_right (by simp)]
        rw [← h1, Array.getElem?_toList]
        congr 1)
  refine gives_of_run (w' := _) (by rw [hrun, hr]; rfl) ?_
  rw [hd]
  refine ⟨m, ω', hC.put (by rw [newRow0_n]; exact hn) ?_⟩
  show RefAt (ω'.row n) 0 _ _
  rw [hri]
  rw [List.length_replicate]
  exact .inr ⟨w.heap.size, ⟨w.heap.size, 0, none⟩, rfl, by simp; omega, by simp, fun _ => by simp⟩
end
end Go.Bw

namespace Go.Bw
open Go.RowKit
section
variable {P : Program} {w0 : World} {m0 : Mem} {s s' : St} {a : Act} {w w' : World} {m m' : Mem} {ω ω' : Wh} {F0 : Home} {F : Nat → Prop} {T : TypeId → Option TI}

abbrev Boxes := List (Nat × List L)
abbrev Rows := List (Nat × RowC)
abbrev Ids := List (Nat × Nat)

def ArgsRep (m : Mem) (ω : Wh) (vs : List Value) (xs : List V) : Prop := vs.length = xs.length ∧ ∀ (i : Nat) (x : V), xs[i]? = some x → ∃ v, vs[i]? = some v ∧ VRep m ω v x

def CallsR (P : Program) (f : FuncId) (args : Array Value) (w : World) (R : Value → World → Prop) : Prop :=
  (∃ v w', (callFunc f args).run P w = .ok (.value v) w' ∧ R v w') ∨ ((callFunc f args).run P w = .ok (.enter f args) w ∧ Calls P f args w fun e w' => ∃ v, e = .returned v ∧ R v w')

def roots (bx : Boxes) (rw : Rows) : St := { n := 0, env := [], box := bx, row := rw }
def a0 : Act := { tmps := #[], defers := [] }
def Owned (s : St) (ω : Wh) (k : Nat) : Prop := ∃ κ id, s.live κ id ∧ ω.f κ id k
noncomputable def handed (bx : Boxes) (rw : Rows) (ω : Wh) : Home where
  own := Owned (roots bx rw) ω
  box := fun id => if (look bx id).isSome then some (ω.box id) else none
  row := fun id => if (look rw id).isSome then some (ω.row id) else none

def Post (P : Program) (w : World) (m : Mem) (ω : Wh) (bx : Boxes) (rw : Rows) (r : A) (bx' : Boxes) (rw' : Rows) (v : Value) (w' : World) : Prop :=
  ∃ m' ω', CI P w m (handed bx rw ω) (roots bx' rw') a0 w' m' ω' ∧ ARep m' ω' v r

structure SatM (P : Program) (f : FuncId) (xs : List V) (bx : Boxes) (rw : Rows) (r : A) (bx' : Boxes) (rw' : Rows) : Prop where
  call : ∀ (m : Mem) (w : World) (vs : List Value) (ω : Wh), CI P w m (handed bx rw ω) (roots bx rw) a0 w m ω → ArgsRep m ω vs xs → CallsR P f vs.toArray w (Post P w m ω bx rw r bx' rw')
def Sat (P : Program) (f : FuncId) (xs : List V) (r : A) : Prop := SatM P f xs [] [] r [] []

theorem gives_of_callsR {o : Oper} {f : FuncId} {args : Array Value} {R : Value → World → Prop} (hrun : (execOp a.eval o).run P w = (callFunc f args).run P w) (h : CallsR P f args w R) : Gives P o a w R := by
  rcases h with ⟨v, w', h1, h2⟩ | ⟨h1, h2⟩
  · exact gives_of_run (by rw [hrun, h1]) h2
  · intro next Q hn
    unfold Oper.wp
    rw [hrun, h1, Oper.upon_enter]
    refine h2.mono fun e w' he => ?_
    obtain ⟨v, rfl, hR⟩ := he
    exact hn v w' hR

def L.norm : L → L
  | .nil sz => .sl sz []
  | l => l
theorem norm_e {v : Value} {l : L} (h : ERep m ω v l) : ERep m ω v l.norm := by
  cases l with
  | nil sz =>
    have h : Rep m v (.nil sz) := h
    cases h
    exact Rep.slNil sz
  | _ => exact h
def argsOf (T : TypeId → Option TI) (s : St) : List Operand → List TypeId → Option (List V)
  | [], _ => some []
  | x :: xs, tys => match evalO T s (tys.headD 0) x, argsOf T s xs tys.tail with
    | some (.v y), some r => some (y.map L.norm :: r)
    | _, _ => none
theorem argsOf_sound (h : CI P w0 m0 F0 s a w m ω) : ∀ (l : List Operand) (tys : List TypeId) (xs : List V), argsOf T s l tys = some xs → ArgsRep m ω (l.map a.eval) xs
  | [], tys, xs, hx => by simp only [argsOf, Option.some.injEq] at hx; subst hx; exact ⟨rfl, fun i x h => by simp at h⟩
  | x :: l, tys, xs, hx => by
    simp only [argsOf] at hx
    split at hx
    · rename_i y r hy hr
      simp only [Option.some.injEq] at hx
      subst hx
      obtain ⟨h1, h2⟩ := argsOf_sound h l tys.tail r hr
      refine ⟨by simpa using h1, fun i x' hi => ?_⟩
      cases i with
      | zero =>
        simp only [List.getElem?_cons_zero, Option.some.injEq] at hi
        subst hi
        have hv : VRep m ω (a.eval x) y := evalO_sound h hy
        exact ⟨_, rfl, hv.map fun v l hl => norm_e hl⟩
      | succ i => simpa using h2 i x' (by simpa using hi)
    · cases hx

def callOf (T : TypeId → Option TI) (s : St) (c : Call) : Option (FuncId × List V) :=
  match c.callee with
  | .value g =>
    (match evalO T s 0 g with
     | some (.v (.one (.clo f caps))) => (match argsOf T s c.args.toList c.argTypes.toList with | some xs => some (f, xs ++ caps.map V.one) | none => none)
     | _ => none)
  | _ => none

theorem callOf_plain {o : Oper} {c : Call} {f : FuncId} {xs : List V} (ho : o.op = .call c) (hc : callOf T s c = some (f, xs)) : plainOp o = false := by
  unfold callOf at hc
  split at hc
  · rename_i g hg
    simp [plainOp, ho, hg]
  · cases hc

theorem callOf_sound {o : Oper} {c : Call} {f : FuncId} {xs : List V} (ho : o.op = .call c) (h : CI P w0 m0 F0 s a w m ω) (hc : callOf T s c = some (f, xs)) : ∃ vs : List Value, (execOp a.eval o).run P w = (callFunc f vs.toArray).run P w ∧ ArgsRep m ω vs xs := by
  unfold callOf at hc
  split at hc
  · rename_i g hg
    split at hc
    · rename_i f' caps hf
      split at hc
      · rename_i ys hys
        simp only [Option.some.injEq, Prod.mk.injEq] at hc
        obtain ⟨rfl, rfl⟩ := hc
        obtain ⟨cs, h1, h2, h3⟩ := evalO_sound h hf
        have hA := argsOf_sound h _ _ _ hys
        refine ⟨(c.args.toList.map a.eval) ++ cs, ?_, by simp [hA.1, h2], fun i x hi => ?_⟩
        · unfold execOp
          simp only [ho, resolve, hg, h1, Deferred.ofValue, Sem.run_bind, Sem.run_pure, Result.andThen_ok, invoke]
          congr 2
          apply Array.ext'
          simp
        · by_cases hlt : i < ys.length
          · rw [List.getElem?_append_left hlt] at hi
            obtain ⟨v, h4, h5⟩ := hA.2 i x hi
            refine ⟨v, ?_, h5⟩
            rw [List.getElem?_append_left (by rw [hA.1]; exact hlt)]
            exact h4
          · rw [List.getElem?_append_right (by omega), List.getElem?_map, Option.map_eq_some_iff] at hi
            obtain ⟨u, hu, rfl⟩ := hi
            obtain ⟨v, h4, h5⟩ := h3 _ u hu
            refine ⟨v, ?_, ?_⟩
            · rw [List.getElem?_append_right (by rw [hA.1]; omega), hA.1]
              exact h4
            · rcases h5 with h5 | h5
              · exact h5.erep
              · cases u with
                | ptr => exact h5
                | eptr => exact h5
                | _ => cases h5
      · cases hc
    · cases hc
  · cases hc

theorem Keeps.chain {F F' : Nat → Prop} {w w' w'' : World} (h : Keeps F w w') (h' : Keeps F' w' w'') (hF : ∀ k, F' k → w.heap.size ≤ k ∨ F k) : Keeps F w w'' :=
  ⟨h'.os.trans h.os, h'.tape.trans h.tape, h'.output.trans h.output, Nat.le_trans h.size h'.size, fun k hk hn => (h'.block k (Nat.lt_of_lt_of_le hk h.size) fun hf => (hF k hf).elim (by omega) hn).trans (h.block k hk hn)⟩
theorem CI.goodFor (h : CI P w0 m0 F0 s a w m ω) {F : Nat → Prop} (hF : ∀ k, F k → w0.heap.size ≤ k ∨ F0 k) : GoodC P w F := fun w' hk => h.good w' (h.keeps.chain hk hF)
theorem CI.none (hg : GoodC P w (handed [] [] ω).own) (hok : ∀ x v, m x = some v → w.cell? x = some v) : CI P w m (handed [] [] ω) (roots [] []) a0 w m ω where
  size := rfl
  defers := rfl
  keeps := Keeps.refl _ _
  mle := Mem.le_refl m
  mold := fun _ _ _ => rfl
  ok := hok
  env := fun t x hx => by cases hx
  box := fun t x hx => by cases hx
  row := fun t x hx => by cases hx
  fresh := fun κ id hl => by cases κ <;> cases hl
  apart := fun κ id _ _ hl => by cases κ <;> cases hl
  home := ⟨(fun id hid => by rcases hid with hid | hid <;> cases hid), (fun id b hb => by cases hb), (fun id b hb => by cases hb)⟩
  good := hg

theorem L.clos_e {v : Value} {l : L} (h : ERep m ω v l) : ERep m ω' v l.clos := by
  by_cases hz : l.isFz = true
  · exact ((h.rep hz).clos hz).erep
  · have e : l.clos = .any := by
      cases l <;> first
        | rfl
        | exact absurd rfl hz
        | (simp only [L.clos]; rw [if_neg hz])
    rw [e]
    exact Rep.any v h.oneCell

theorem owned_none {k : Nat} : ¬ (handed [] [] ω) k := by
  rintro ⟨κ, id, hl, _⟩
  cases κ <;> cases hl

theorem CI.goodN (h : CI P w0 m0 F0 s a w m ω) {ω' : Wh} : GoodC P w (handed [] [] ω').own := h.goodFor fun k hk => absurd hk owned_none

theorem gives_call {o : Oper} {c : Call} {f : FuncId} {xs : List V} {r : A} (ho : o.op = .call c) (h : CI P w0 m0 F0 s a w m ω) (hc : callOf T s c = some (f, xs)) (hS : Sat P f xs r) : GivesA P w0 m0 F0 s o (r.map L.clos) a w ω := by
  obtain ⟨vs, h1, h2⟩ := callOf_sound ho h hc
  refine givesA_of (callOf_plain ho hc) ?_
  refine (gives_of_callsR h1 (hS.call m w vs ω (CI.none h.goodN h.ok) h2)).mono fun v w' hp => ?_
  obtain ⟨m', ω', hC, hv⟩ := hp
  refine ⟨m', h.grow ⟨hC.keeps.os, hC.keeps.tape, hC.keeps.output, hC.keeps.size, fun k hk => hC.keeps.block k hk owned_none⟩ hC.mle (fun x hx => hC.mold x hx owned_none) hC.ok, ?_⟩
  exact hv.map fun v l hl => L.clos_e hl

def L.flat : L → L
  | .int k n => .int k n
  | .bool b => .bool b
  | .str s => .str s
  | _ => .any
theorem L.flat_e {v : Value} {l : L} (h : ERep m ω v l) : ERep m' ω' v l.flat := by
  cases l with
  | int k n => have h : Rep m v (.int k n) := h; cases h; exact Rep.int k n
  | bool b => have h : Rep m v (.bool b) := h; cases h; exact Rep.bool b
  | str q => have h : Rep m v (.str q) := h; cases h; exact Rep.str q
  | _ => exact Rep.any v (ERep.oneCell (m := m) (ω := ω) h)
noncomputable def cutMem (m : Mem) (F : Nat → Prop) : Mem := by
  classical exact fun x => if F x.block then Option.none else m x
theorem cutMem_out {F : Nat → Prop} {x : Addr} (h : ¬ F x.block) : cutMem m F x = m x := by unfold cutMem; rw [if_neg h]
theorem cutMem_in {F : Nat → Prop} {x : Addr} (h : F x.block) : cutMem m F x = Option.none := by unfold cutMem; rw [if_pos h]

theorem frzV_n (n n' : Nat) (e e' : List (Nat × A)) (b : Boxes) (r : Rows) : ∀ k, frzV k ⟨n, e, b, r⟩ = frzV k ⟨n', e', b, r⟩
  | 0 => by funext l; cases l <;> rfl
  | k + 1 => by
    have ih := frzV_n n n' e e' b r k
    funext l
    cases l <;> simp only [frzV, ih]
theorem gives_lentR {o : Oper} {c : Call} {f : FuncId} {xs : List V} {r : A} (ho : o.op = .call c) (h : CI P w0 m0 F0 s a w m ω) (hc : callOf T s c = some (f, xs)) (hS : Sat P f (xs.map fun x => x.map (frzV 4 ⟨0, [], [], s.row⟩)) r) : GivesA P w0 m0 F0 s o (r.map L.flat) a w ω := by
  rw [frzV_n 0 s.n [] [] [] s.row] at hS
  obtain ⟨vs, h1, h2⟩ := callOf_sound ho h hc
  let F : Nat → Prop := Owned s ω
  have hF : ∀ x v, m x = some v → ¬ F x.block := by
    rintro x v hx ⟨κ, id, hl, hk⟩
    exact (h.fresh κ id hl _ hk).2.2 x v hx rfl
  have hle := frzMem_le (w := w) hF
  have hlv : ∀ κ id, (St.mk s.n [] [] s.row).live κ id → s.live κ id := fun κ id hl => by
    cases κ with
    | false => cases hl
    | true => exact hl
  have hw : CI P w0 m0 F0 ⟨s.n, [], [], s.row⟩ a w m ω := h.weaken rfl (fun t x hx => by cases hx) (fun t x hx => by cases hx) (fun t x hx => hx)
  have hA : ArgsRep (frzMem m w F) ω vs (xs.map fun x => x.map (frzV 4 ⟨s.n, [], [], s.row⟩)) := by
    refine ⟨by simpa using h2.1, fun i x hi => ?_⟩
    rw [List.getElem?_map, Option.map_eq_some_iff] at hi
    obtain ⟨x0, hi, rfl⟩ := hi
    obtain ⟨v, h3, h4⟩ := h2.2 i x0 hi
    exact ⟨v, h3, h4.map fun v l hl => (frzV_sound hw hle (fun κ id hl x hx => frzMem_in (m := m) ⟨κ, id, hlv κ id hl, hx⟩) 4 v l hl).erep⟩
  refine givesA_of (callOf_plain ho hc) ?_
  refine (gives_of_callsR h1 (hS.call _ w vs ω (CI.none h.goodN (frzMem_ok h.ok)) hA)).mono fun v w' hp => ?_
  obtain ⟨m', ω', hC, hv⟩ := hp
  have hlt : ∀ k, F k → k < w.heap.size := fun k ⟨κ, id, hl, hk⟩ => (h.fresh κ id hl k hk).1
  refine ⟨cutMem m' F, h.grow ⟨hC.keeps.os, hC.keeps.tape, hC.keeps.output, hC.keeps.size, fun k hk => hC.keeps.block k hk owned_none⟩ (fun x v hx => ?_) (fun x hx => ?_) (fun x v hx => ?_), hv.map fun v l hl => L.flat_e hl⟩
  · rw [cutMem_out (hF x v hx)]
    exact hC.mle x v (hle x v hx)
  · by_cases hb : F x.block
    · rw [cutMem_in hb]
      cases hm : m x with
      | none => rfl
      | some v => exact absurd hb (hF x v hm)
    · rw [cutMem_out hb, hC.mold x hx owned_none, frzMem_out hb]
  · by_cases hb : F x.block
    · rw [cutMem_in hb] at hx; cases hx
    · rw [cutMem_out hb] at hx
      exact hC.ok x v hx

def L.ids0 (σb σr : Ids) : L → L
  | .ptr id o => match look σb id with | some j => .ptr j o | none => .any
  | .eptr id i o => match look σr id with | some j => .eptr j i o | none => .any
  | .ref id lo n => match look σr id with | some j => .ref j lo n | none => .any
  | l => l
def L.ids (σb σr : Ids) : L → L
  | .clo f caps => .clo f (caps.map (L.ids0 σb σr))
  | l => l.ids0 σb σr
def L.kl0 (kb kr : List Nat) : L → L
  | .ptr id o => if kb.elem id then .any else .ptr id o
  | .eptr id i o => if kr.elem id then .any else .eptr id i o
  | .ref id lo n => if kr.elem id then .any else .ref id lo n
  | l => l
def L.kl (kb kr : List Nat) : L → L
  | .clo f caps => .clo f (caps.map (L.kl0 kb kr))
  | l => l.kl0 kb kr

theorem kl_e {kb kr : List Nat} (hb : ∀ i, kb.elem i = false → ω'.box i = ω.box i) (hr : ∀ i, kr.elem i = false → ω'.row i = ω.row i) {v : Value} {l : L} (h : ERep m ω v l) : ERep m ω' v (l.kl kb kr) := by
  have hP : ∀ x u, PRep ω x u → Rep m x (u.kl0 kb kr) ∨ PRep ω' x (u.kl0 kb kr) := by
    intro x u hu
    cases u with
    | ptr i o =>
      simp only [L.kl0]
      cases hk : kb.elem i with
      | true => exact .inl (.any _ hu.oneCell)
      | false => refine .inr ?_; show x = _; rw [hb i hk]; exact hu
    | eptr i k o =>
      simp only [L.kl0]
      cases hk : kr.elem i with
      | true => exact .inl (.any _ hu.oneCell)
      | false => refine .inr ?_; show ∃ b, _; rw [hr i hk]; exact hu
    | _ => cases hu
  have hR : ∀ x u, Rep m x u → Rep m x (u.kl0 kb kr) := by
    intro x u hu
    cases u with
    | ptr => cases hu
    | eptr => cases hu
    | ref => cases hu
    | _ => exact hu
  cases l with
  | ptr i o =>
    simp only [L.kl, L.kl0]
    cases hk : kb.elem i with
    | true => exact Rep.any v (ERep.oneCell (ω := ω) (m := m) (l := .ptr i o) h)
    | false => show v = _; rw [hb i hk]; exact h
  | eptr i k o =>
    simp only [L.kl, L.kl0]
    cases hk : kr.elem i with
    | true => exact Rep.any v (ERep.oneCell (ω := ω) (m := m) (l := .eptr i k o) h)
    | false => show ∃ b, _; rw [hr i hk]; exact h
  | ref i lo n =>
    simp only [L.kl, L.kl0]
    cases hk : kr.elem i with
    | true => exact Rep.any v (ERep.oneCell (ω := ω) (m := m) (l := .ref i lo n) h)
    | false => show RefAt (ω'.row i) lo n v; rw [hr i hk]; exact h
  | clo f caps =>
    obtain ⟨vs, h1, h2, h3⟩ := h
    refine ⟨vs, h1, by simpa using h2, fun i u hu => ?_⟩
    simp only [List.getElem?_map, Option.map_eq_some_iff] at hu
    obtain ⟨u0, hu, rfl⟩ := hu
    obtain ⟨x, h4, h5⟩ := h3 i u0 hu
    refine ⟨x, h4, ?_⟩
    rcases h5 with h5 | h5
    · exact .inl (hR _ _ h5)
    · exact hP _ _ h5
  | _ => exact h

def okIds0 (σb σr : Ids) : L → Bool
  | .ptr i _ => (look σb i).isSome
  | .eptr i _ _ => (look σr i).isSome
  | .ref i _ _ => (look σr i).isSome
  | _ => true
def okIds (σb σr : Ids) : L → Bool
  | .clo _ caps => caps.all (okIds0 σb σr)
  | l => okIds0 σb σr l
theorem ids_back {σb σr : Ids} (hb : ∀ i j, look σb i = some j → ω'.box i = ω.box j) (hr : ∀ i j, look σr i = some j → ω'.row i = ω.row j) {v : Value} {l : L} (hid : okIds σb σr l = true)
    (h : ERep m ω v (l.ids σb σr)) : ERep m ω' v l := by
  cases l with
  | ptr i o =>
    obtain ⟨j, hj⟩ := Option.isSome_iff_exists.1 hid
    simp only [L.ids, L.ids0, hj] at h
    show v = _
    rw [hb i j hj]
    exact h
  | eptr i k o =>
    obtain ⟨j, hj⟩ := Option.isSome_iff_exists.1 hid
    simp only [L.ids, L.ids0, hj] at h
    show ∃ b, _
    rw [hr i j hj]
    exact h
  | ref i lo n =>
    obtain ⟨j, hj⟩ := Option.isSome_iff_exists.1 hid
    simp only [L.ids, L.ids0, hj] at h
    show RefAt _ lo n v
    rw [hr i j hj]
    exact h
  | clo f caps =>
    obtain ⟨vs, h1, h2, h3⟩ := h
    refine ⟨vs, h1, by simpa using h2, fun i u hu => ?_⟩
    obtain ⟨x, h4, h5⟩ := h3 i (u.ids0 σb σr) (by simp [hu])
    refine ⟨x, h4, ?_⟩
    have hui := List.all_eq_true.1 hid u (List.mem_of_getElem? hu)
    cases u with
    | ptr i o =>
      obtain ⟨j, hj⟩ := Option.isSome_iff_exists.1 hui
      simp only [L.ids0, hj] at h5
      rcases h5 with h5 | h5
      · cases h5
      · refine .inr ?_
        show x = _
        rw [hb i j hj]
        exact h5
    | eptr i k o =>
      obtain ⟨j, hj⟩ := Option.isSome_iff_exists.1 hui
      simp only [L.ids0, hj] at h5
      rcases h5 with h5 | h5
      · cases h5
      · refine .inr ?_
        show ∃ b, _
        rw [hr i j hj]
        exact h5
    | ref i lo n =>
      obtain ⟨j, hj⟩ := Option.isSome_iff_exists.1 hui
      simp only [L.ids0, hj] at h5
      rcases h5 with h5 | h5 <;> cases h5
    | _ =>
      rcases h5 with h5 | h5
      · exact .inl h5
      · cases h5
  | _ => exact h
theorem ids_fwd {σb σr : Ids} (hb : ∀ i j, look σb i = some j → ω'.box j = ω.box i) (hr : ∀ i j, look σr i = some j → ω'.row j = ω.row i) {v : Value} {l : L} (h : ERep m ω v l) : ERep m ω' v (l.ids σb σr) := by
  have hP : ∀ x u, PRep ω x u → Rep m x (u.ids0 σb σr) ∨ PRep ω' x (u.ids0 σb σr) := by
    intro x u hu
    cases u with
    | ptr i o =>
      simp only [L.ids0]
      cases hk : look σb i with
      | none => exact .inl (.any _ hu.oneCell)
      | some j => refine .inr ?_; show x = _; rw [hb i j hk]; exact hu
    | eptr i k o =>
      simp only [L.ids0]
      cases hk : look σr i with
      | none => exact .inl (.any _ hu.oneCell)
      | some j => refine .inr ?_; show ∃ b, _; rw [hr i j hk]; exact hu
    | _ => cases hu
  have hR : ∀ x u, Rep m x u → Rep m x (u.ids0 σb σr) := by
    intro x u hu
    cases u with
    | ptr => cases hu
    | eptr => cases hu
    | ref => cases hu
    | _ => exact hu
  cases l with
  | ptr i o =>
    simp only [L.ids, L.ids0]
    cases hk : look σb i with
    | none => exact Rep.any v (ERep.oneCell (ω := ω) (m := m) (l := .ptr i o) h)
    | some j => show v = _; rw [hb i j hk]; exact h
  | eptr i k o =>
    simp only [L.ids, L.ids0]
    cases hk : look σr i with
    | none => exact Rep.any v (ERep.oneCell (ω := ω) (m := m) (l := .eptr i k o) h)
    | some j => show ∃ b, _; rw [hr i j hk]; exact h
  | ref i lo n =>
    simp only [L.ids, L.ids0]
    cases hk : look σr i with
    | none => exact Rep.any v (ERep.oneCell (ω := ω) (m := m) (l := .ref i lo n) h)
    | some j => show RefAt (ω'.row j) lo n v; rw [hr i j hk]; exact h
  | clo f caps =>
    obtain ⟨vs, h1, h2, h3⟩ := h
    refine ⟨vs, h1, by simpa using h2, fun i u hu => ?_⟩
    simp only [List.getElem?_map, Option.map_eq_some_iff] at hu
    obtain ⟨u0, hu, rfl⟩ := hu
    obtain ⟨x, h4, h5⟩ := h3 i u0 hu
    refine ⟨x, h4, ?_⟩
    rcases h5 with h5 | h5
    · exact .inl (hR _ _ h5)
    · exact hP _ _ h5
  | _ => exact h
end
end Go.Bw

namespace Go.Bw
open Go.RowKit
section
variable {P : Program} {w0 : World} {m0 : Mem} {s s' : St} {a : Act} {w : World} {m : Mem} {ω : Wh} {F0 : Home} {T : TypeId → Option TI}

def mO {α : Type} (x : Option α) (k : α → Prop) : Prop := match x with | some y => k y | none => False
theorem mO_some {α : Type} {k : α → Prop} (y : α) : mO (some y) k = k y := rfl
theorem mO_elim {α : Type} {x : Option α} {k : α → Prop} (h : mO x k) : ∃ y, x = some y ∧ k y := by
  cases x with
  | none => cases h
  | some y => exact ⟨y, rfl, h⟩

def CallK (P : Program) (s : St) (f : FuncId) (xs : List V) (k : A → Prop) : Prop := ∃ r, (Sat P f xs r ∧ k (r.map L.clos)) ∨ (Sat P f (xs.map fun x => x.map (frzV 4 ⟨0, [], [], s.row⟩)) r ∧ k (r.map L.flat))

def oneOf : Option A → Option L | some (.v (.one l)) => some l | _ => none
def boolOf : Option A → Option Bool | some (.v (.one (.bool b))) => some b | _ => none
def intOfA : Option A → Option Int | some (.v (.one (.int _ n))) => some n | _ => none
def tupOf : Option A → Option (List V) | some (.tup xs) => some xs | _ => none
def vOf : Option A → Option V | some (.v x) => some x | _ => none
def aggOf : Option A → Option (List L) | some (.v (.agg ls)) => some ls | _ => none
theorem oneOf_some {x : Option A} {l : L} (h : oneOf x = some l) : x = some (.v (.one l)) := by
  unfold oneOf at h; split at h <;> simp_all
theorem boolOf_some {x : Option A} {b : Bool} (h : boolOf x = some b) : x = some (.v (.one (.bool b))) := by
  unfold boolOf at h; split at h <;> simp_all
theorem intOfA_some {x : Option A} {n : Int} (h : intOfA x = some n) : ∃ k, x = some (.v (.one (.int k n))) := by
  unfold intOfA at h; split at h <;> simp_all
theorem tupOf_some {x : Option A} {xs : List V} (h : tupOf x = some xs) : x = some (.tup xs) := by
  unfold tupOf at h; split at h <;> simp_all
theorem vOf_some {x : Option A} {y : V} (h : vOf x = some y) : x = some (.v y) := by
  unfold vOf at h; split at h <;> simp_all
theorem aggOf_some {x : Option A} {ls : List L} (h : aggOf x = some ls) : x = some (.v (.agg ls)) := by
  unfold aggOf at h; split at h <;> simp_all

def elemTI (T : TypeId → Option TI) (t : TypeId) : Option TI := (T t).bind fun i => i.elem.bind T
theorem elemTI_some (hT : TabOk P T) {t : TypeId} {j : TI} (h : elemTI T t = some j) : ∃ i e, T t = some i ∧ i.elem = some e ∧ T e = some j ∧ tiOk P t i = true ∧ tiOk P e j = true := by
  unfold elemTI at h
  cases hi : T t with
  | none => rw [hi] at h; cases h
  | some i =>
    rw [hi] at h
    simp only [Option.bind_some] at h
    cases he : i.elem with
    | none => rw [he] at h; cases h
    | some e =>
      rw [he] at h
      simp only [Option.bind_some] at h
      exact ⟨i, e, rfl, he, h, hT _ _ hi, hT _ _ h⟩
theorem convK_some {t : TypeId} {k : IntKind} (h : convK P t = some k) : P.underlying t = some (.int k) := by
  unfold convK at h
  split at h
  · injection h with h; subst h; assumption
  · cases h

def loadK (s : St) (i : TI) (K : A → Prop) : L → Prop
  | .fz ls => mO (loadV i ls) fun z => K (.v z)
  | .ptr id off => mO (look s.box id) fun ls => mO (loadV i ((ls.drop off).map L.peek)) fun z => K (.v z)
  | .eptr id k off => mO (look s.row id) fun r => k < r.xs.length ∧ mO (loadV i ((overlay r.ov k 0 (r.xs.getD k [])).drop off)) fun z => K (.v z)
  | _ => False
def idxK (s : St) (j : TI) (n : Int) (K : A → Prop) : L → Prop
  | .sl sz xs => (0 ≤ n ∧ n < xs.length) ∧ j.size = sz ∧ K (.v (.one (.fz (xs.getD n.toNat []))))
  | .ref id lo q => mO (look s.row id) fun r => (0 ≤ n ∧ n < q) ∧ j.size = r.sz ∧ K (.v (.one (.eptr id (lo + n.toNat) 0)))
  | _ => False
def sliceK (T : TypeId → Option TI) (s : St) (t : TypeId) (lo hi : Option Operand) (K : A → Prop) : L → Prop
  | .str q => mO (T t) fun i => mO (boundN T s t 0 lo) fun l => mO (boundN T s t q.size hi) fun h => (0 ≤ l ∧ l ≤ h ∧ h ≤ q.size) ∧ i.isStr = true ∧ K (.v (.one (.str (q.extract l.toNat h.toNat))))
  | .sl sz xs => mO (elemTI T t) fun j => mO (boundN T s t 0 lo) fun l => mO (boundN T s t xs.length hi) fun h => (0 ≤ l ∧ l ≤ h ∧ h ≤ xs.length) ∧ j.size = sz ∧ K (.v (.one (.sl sz ((xs.take h.toNat).drop l.toNat))))
  | .nil sz => mO (elemTI T t) fun j => mO (boundN T s t 0 lo) fun l => mO (boundN T s t 0 hi) fun h => (0 ≤ l ∧ l ≤ h ∧ h ≤ 0) ∧ j.size = sz ∧ K (.v (.one (.nil sz)))
  | .ref id b q => mO (elemTI T t) fun j => mO (look s.row id) fun r => mO (boundN T s t 0 lo) fun l => mO (boundN T s t q hi) fun h => (0 ≤ l ∧ l ≤ h ∧ (h ≤ q ∨ (h ≤ r.xs.length - b ∧ b ≤ r.xs.length))) ∧ j.size = r.sz ∧ K (.v (.one (.ref id (b + l.toNat) (h.toNat - l.toNat))))
  | _ => False
def indexK (T : TypeId → Option TI) (s : St) (i : TI) (y : Operand) (K : A → Prop) : L → Prop
  | .str q => mO (intOfA (evalO T s 0 y)) fun n => (0 ≤ n ∧ n < q.size) ∧ i.isStr = true ∧ K (.v (.one (.int .u8 ((q.data.toList.getD n.toNat 0).toNat : Nat))))
  | _ => False
def binK (P : Program) (op : BinOp) (t : TypeId) (K : A → Prop) : V → V → Prop
  | .one l1, .one l2 => mO (binL P t op l1 l2) fun p => p.1 ∧ K (.v (.one p.2))
  | .agg xs, .agg ys => mO (eqK P t) fun ks => (xs.map L.kd = ks ∧ ys.map L.kd = ks) ∧ mO (eqCells xs ys) fun b => mO (eqOp op b) fun b' => K (.v (.one (.bool b')))
  | _, _ => False
def convKk (P : Program) (T : TypeId → Option TI) (t t' : TypeId) (K : A → Prop) : L → Prop
  | .int _ n => (P.underlying t).isSome = true ∧ mO (convK P t') fun k' => K (.v (.one (.int k' (k'.wrap n))))
  | .str q => mO (T t) fun i => mO (T t') fun i' => mO i'.elem fun e => (i.isStr = true ∧ convK P e = some .u8) ∧ K (.v (.one (.sl 1 (chunks 1 q.size (q.data.toList.map fun b => L.int .u8 b.toNat)))))
  | _ => False

def negK (K : A → Prop) : L → Prop
  | .int k n => K (.v (.one (.int k (k.wrap (0 - n)))))
  | _ => False
def VVal (P : Program) (T : TypeId → Option TI) (o : Oper) (s : St) (K : A → Prop) : Prop :=
  match o.op with
  | .move x => mO (evalO T s o.type x) K
  | .assign x => mO (evalO T s o.type x) K
  | .pick c x y => mO (boolOf (evalO T s 0 c)) fun b => mO (evalO T s o.type (if b then x else y)) K
  | .unOp .not _ x => mO (boolOf (evalO T s 0 x)) fun b => K (.v (.one (.bool !b)))
  | .load t x => mO (T t) fun i => mO (oneOf (evalO T s 0 x)) (loadK s i K)
  | .fieldAddr t x f => mO (T t) fun i => mO (oneOf (evalO T s 0 x)) fun y => mO (fieldOff i f) fun off => mO (moveL off y) fun z => K (.v (.one z))
  | .field t x f => mO (T t) fun i => mO i.fields fun l => mO l[f]? fun p => mO (T p.2) fun j => mO (aggOf (evalO T s 0 x)) fun ls => p.1 + j.size ≤ ls.length ∧ mO (asV j.agg ((ls.drop p.1).take j.size)) fun z => K (.v z)
  | .indexAddr t x y => mO (elemTI T t) fun j => mO (intOfA (evalO T s 0 y)) fun n => mO (oneOf (evalO T s 0 x)) (idxK s j n K)
  | .index t x y => mO (T t) fun i => mO (oneOf (evalO T s 0 x)) (indexK T s i y K)
  | .extract x k => mO (tupOf (evalO T s 0 x)) fun xs => mO xs[k]? fun y => K (.v y)
  | .binOp op t x y _ => mO (vOf (evalO T s t x)) fun v1 => mO (vOf (evalO T s t y)) fun v2 => binK P op t K v1 v2
  | .build t parts => mO (T t) fun i => mO i.fields fun l => mO i.zero fun z => mO (placesOf T l) fun pl => mO (fillL T s 0 (fun k => pl[k]?) z parts.toList) fun ls => K (.v (.agg ls))
  | .buildSlice t len parts => mO (elemTI T t) fun j => mO j.zero fun z => (z.length = j.size ∧ 0 < j.size ∧ len * j.size ≤ 16777216) ∧
      mO (fillL T s 0 (fun k => some (k * j.size, j.size)) (repL z len) parts.toList) fun ls => ls.all L.isFz = true ∧ K (.v (.one (.sl j.size (chunks j.size len (ls.map L.clos)))))
  | .makeFunc (.func f) first caps => first = #[] ∧ mO (capsOf s T 0 caps.toList) fun cs => K (.v (.one (.clo f cs)))
  | .slice t x lo hi none => mO (oneOf (evalO T s t x)) (sliceK T s t lo hi K)
  | .slice t x lo hi (some z) => mO (elemTI T t) fun _ => mO (oneOf (evalO T s t x)) fun v1 => mO (nL v1) fun n => mO (boundN T s t 0 lo) fun l => mO (boundN T s t n hi) fun h => mO (boundN T s t 0 (some z)) fun mx => (0 ≤ l ∧ l ≤ h ∧ h ≤ mx ∧ mx ≤ n) ∧ hi.isSome = true ∧ K (.v (.one .any))
  | .nilCheck x => mO (oneOf (evalO T s 0 x)) fun y => isPtrLike y = true ∧ K (.v (.one y))
  | .convert t t' x => mO (oneOf (evalO T s 0 x)) (convKk P T t t' K)
  | .call c => (match c.callee with
      | .builtin .len => (match c.args.toList, c.argTypes.toList with
        | [x], [t] => mO (T t) fun i => mO (oneOf (evalO T s t x)) fun l => mO (lenL l) fun n => lenKind i l = true ∧ K (.v (.one (.int .i64 n)))
        | _, _ => False)
      | .builtin .max => (match c.args.toList with
        | [x, y] => mO (oneOf (evalO T s 0 x)) fun l1 => mO (oneOf (evalO T s 0 y)) fun l2 => mO (maxL l1 l2) fun l => K (.v (.one l))
        | _ => False)
      | .builtin .min => (match c.args.toList with
        | [x, y] => mO (oneOf (evalO T s 0 x)) fun l1 => mO (oneOf (evalO T s 0 y)) fun l2 => mO (minL l1 l2) fun l => K (.v (.one l))
        | _ => False)
      | .value _ => mO (callOf T s c) fun p => CallK P s p.1 p.2 K
      | _ => False)
  | .unOp .neg _ x => mO (oneOf (evalO T s 0 x)) (negK K)
  | _ => False

theorem slice_sound (hT : TabOk P T) {o : Oper} {t : TypeId} {x : Operand} {lo hi : Option Operand} {K : A → Prop} (ho : o.op = .slice t x lo hi none) (h : CI P w0 m0 F0 s a w m ω) {l : L} (hx : evalO T s t x = some (.v (.one l))) (hV : sliceK T s t lo hi K l) : ∃ x, K x ∧ GivesA P w0 m0 F0 s o x a w ω := by
  cases l with
  | str q =>
    obtain ⟨i, hi, hV⟩ := mO_elim hV
    obtain ⟨l, hl, hV⟩ := mO_elim hV
    obtain ⟨hh, hhi, hV⟩ := mO_elim hV
    obtain ⟨⟨h0, h1, h2⟩, hs, hK⟩ := hV
    exact ⟨_, hK, givesA_sliceStr ho (hT _ _ hi) hs h hx hl hhi h0 h1 h2⟩
  | sl sz xs =>
    obtain ⟨j, hj, hV⟩ := mO_elim hV
    obtain ⟨l, hl, hV⟩ := mO_elim hV
    obtain ⟨hh, hhi, hV⟩ := mO_elim hV
    obtain ⟨⟨h0, h1, h2⟩, hs, hK⟩ := hV
    obtain ⟨i, e, hi', he, hE, hti, htj⟩ := elemTI_some hT hj
    exact ⟨_, hK, givesA_slice ho hti he htj hs h hx hl hhi h0 h1 h2⟩
  | nil sz =>
    obtain ⟨j, hj, hV⟩ := mO_elim hV
    obtain ⟨l, hl, hV⟩ := mO_elim hV
    obtain ⟨hh, hhi, hV⟩ := mO_elim hV
    obtain ⟨⟨h0, h1, h2⟩, hs, hK⟩ := hV
    obtain ⟨i, e, hi', he, hE, hti, htj⟩ := elemTI_some hT hj
    exact ⟨_, hK, givesA_sliceNil ho hti he htj h hx hl hhi h0 h1 h2⟩
  | ref id b q =>
    obtain ⟨j, hj, hV⟩ := mO_elim hV
    obtain ⟨r, hr, hV⟩ := mO_elim hV
    obtain ⟨l, hl, hV⟩ := mO_elim hV
    obtain ⟨hh, hhi, hV⟩ := mO_elim hV
    obtain ⟨⟨h0, h1, h2⟩, hs, hK⟩ := hV
    obtain ⟨i, e, hi', he, hE, hti, htj⟩ := elemTI_some hT hj
    exact ⟨_, hK, givesA_sliceRef ho hti he htj h hx hr hs hl hhi h0 h1 (h2.imp (fun q => q) (fun q => ⟨by omega, q.2⟩))⟩
  | _ => cases hV

theorem VVal_sound (hT : TabOk P T) {o : Oper} {K : A → Prop} (hV : VVal P T o s K) (h : CI P w0 m0 F0 s a w m ω) : ∃ x, K x ∧ GivesA P w0 m0 F0 s o x a w ω := by
  unfold VVal at hV
  split at hV
  case h_1 x ho => obtain ⟨y, hy, hK⟩ := mO_elim hV; exact ⟨y, hK, givesA_move ho h hy⟩
  case h_2 x ho => obtain ⟨y, hy, hK⟩ := mO_elim hV; exact ⟨_, hK, givesA_assign ho h hy⟩
  case h_3 c x y ho =>
    obtain ⟨b, hb, hV⟩ := mO_elim hV
    obtain ⟨z, hz, hK⟩ := mO_elim hV
    exact ⟨z, hK, givesA_pick ho h (boolOf_some hb) hz⟩
  case h_4 t x ho => obtain ⟨b, hb, hK⟩ := mO_elim hV; exact ⟨_, hK, givesA_not ho h (boolOf_some hb)⟩
  case h_5 t x ho =>
    obtain ⟨i, hi, hV⟩ := mO_elim hV
    obtain ⟨y, hy, hV⟩ := mO_elim hV
    have hy := oneOf_some hy
    cases y with
    | fz ls =>
      obtain ⟨z, hz, hK⟩ := mO_elim hV
      exact ⟨_, hK, givesA_load_fz ho (hT _ _ hi) h hy hz⟩
    | ptr id off =>
      obtain ⟨ls, hls, hV⟩ := mO_elim hV
      obtain ⟨z, hz, hK⟩ := mO_elim hV
      exact ⟨_, hK, givesA_load_ptr ho (hT _ _ hi) h hy hls hz⟩
    | eptr id k off =>
      obtain ⟨r, hr, hk, hV⟩ := mO_elim hV
      obtain ⟨z, hz, hK⟩ := mO_elim hV
      exact ⟨_, hK, givesA_load_eptr ho (hT _ _ hi) h hy hr hk hz⟩
    | _ => cases hV
  case h_6 t x f ho =>
    obtain ⟨i, hi, hV⟩ := mO_elim hV
    obtain ⟨y, hy, hV⟩ := mO_elim hV
    obtain ⟨off, hoff, hV⟩ := mO_elim hV
    obtain ⟨z, hz, hK⟩ := mO_elim hV
    exact ⟨_, hK, givesA_fieldAddr ho (hT _ _ hi) h (oneOf_some hy) hoff hz⟩
  case h_7 t x f ho =>
    obtain ⟨i, hi, hV⟩ := mO_elim hV
    obtain ⟨l, hl, hV⟩ := mO_elim hV
    obtain ⟨⟨off, ft⟩, hp, hV⟩ := mO_elim hV
    obtain ⟨j, hj, hV⟩ := mO_elim hV
    obtain ⟨ls, hls, hfit, hV⟩ := mO_elim hV
    obtain ⟨z, hz, hK⟩ := mO_elim hV
    exact ⟨_, hK, givesA_field ho (hT _ _ hi) hl hp (hT _ _ hj) h (aggOf_some hls) hfit hz⟩
  case h_8 t x y ho =>
    obtain ⟨j, hj, hV⟩ := mO_elim hV
    obtain ⟨n, hn, hV⟩ := mO_elim hV
    obtain ⟨l, hx, hV⟩ := mO_elim hV
    obtain ⟨k, hn⟩ := intOfA_some hn
    have hx := oneOf_some hx
    obtain ⟨i, e, hi, he, hE, hti, htj⟩ := elemTI_some hT hj
    cases l with
    | sl sz xs =>
      obtain ⟨⟨h0, h1⟩, hs, hK⟩ := hV
      exact ⟨_, hK, givesA_indexAddr ho hti he htj hs h hx hn h0 h1⟩
    | ref id lo q =>
      obtain ⟨r, hr, ⟨h0, h1⟩, hs, hK⟩ := mO_elim hV
      exact ⟨_, hK, givesA_indexRef ho hti he htj h hx hr hs hn h0 h1⟩
    | _ => cases hV
  case h_9 t x y ho =>
    obtain ⟨i, hi, hV⟩ := mO_elim hV
    obtain ⟨l, hl, hV⟩ := mO_elim hV
    cases l with
    | str q =>
      obtain ⟨n, hn, hV⟩ := mO_elim hV
      obtain ⟨⟨h0, h1⟩, hs, hK⟩ := hV
      obtain ⟨k, hn⟩ := intOfA_some hn
      exact ⟨_, hK, givesA_index ho (hT _ _ hi) hs h (oneOf_some hl) hn h0 h1⟩
    | _ => cases hV
  case h_10 x k ho =>
    obtain ⟨xs, hx, hV⟩ := mO_elim hV
    obtain ⟨y, hy, hK⟩ := mO_elim hV
    exact ⟨_, hK, givesA_extract ho h (tupOf_some hx) hy⟩
  case h_11 op t x y t' ho =>
    obtain ⟨v1, h1, hV⟩ := mO_elim hV
    obtain ⟨v2, h2, hV⟩ := mO_elim hV
    unfold binK at hV
    split at hV
    · obtain ⟨⟨p, l⟩, h3, hp, hK⟩ := mO_elim hV
      exact ⟨_, hK, givesA_binOp ho h (vOf_some h1) (vOf_some h2) h3 hp⟩
    · obtain ⟨ks, hk, ⟨h3, h4⟩, hV⟩ := mO_elim hV
      obtain ⟨b, hb, hV⟩ := mO_elim hV
      obtain ⟨b', hb', hK⟩ := mO_elim hV
      exact ⟨_, hK, givesA_eqAgg ho hk h (vOf_some h1) (vOf_some h2) h3 h4 hb hb'⟩
    · cases hV
  case h_12 t parts ho =>
    obtain ⟨i, hi, hV⟩ := mO_elim hV
    obtain ⟨l, hl, hV⟩ := mO_elim hV
    obtain ⟨z, hz, hV⟩ := mO_elim hV
    obtain ⟨pl, hp, hV⟩ := mO_elim hV
    obtain ⟨ls, hls, hK⟩ := mO_elim hV
    exact ⟨_, hK, givesA_build ho hT hi hl hz hp h hls⟩
  case h_13 t len parts ho =>
    obtain ⟨j, hj, hV⟩ := mO_elim hV
    obtain ⟨z, hz, hc, hV⟩ := mO_elim hV
    obtain ⟨ls, hls, hfz, hK⟩ := mO_elim hV
    obtain ⟨i, e, hi, he, hE, hti, htj⟩ := elemTI_some hT hj
    exact ⟨_, hK, givesA_buildSlice ho hT hi he hE hz hc.1 hc.2.1 hc.2.2 h hls hfz⟩
  case h_14 f first caps ho =>
    obtain ⟨rfl, hV⟩ := hV
    obtain ⟨cs, hcs, hK⟩ := mO_elim hV
    exact ⟨_, hK, givesA_makeFunc ho h hcs⟩
  case h_15 t x lo hi ho =>
    obtain ⟨l, hl, hV⟩ := mO_elim hV
    exact slice_sound hT ho h (oneOf_some hl) hV
  case h_16 t x lo hi z ho =>
    obtain ⟨j, hj, hV⟩ := mO_elim hV
    obtain ⟨v1, hx, hV⟩ := mO_elim hV
    obtain ⟨n, hn, hV⟩ := mO_elim hV
    obtain ⟨l, hl, hV⟩ := mO_elim hV
    obtain ⟨hh, hhi, hV⟩ := mO_elim hV
    obtain ⟨mx, hmx, hV⟩ := mO_elim hV
    obtain ⟨⟨h0, h1, h2, h3⟩, hs, hK⟩ := hV
    obtain ⟨i, e, hi', he, hE, hti, htj⟩ := elemTI_some hT hj
    exact ⟨_, hK, givesA_slice3 ho hti he htj h (oneOf_some hx) hn hl hhi hs hmx h0 h1 h2 h3⟩
  case h_17 x ho =>
    obtain ⟨y, hy, hp, hK⟩ := mO_elim hV
    exact ⟨_, hK, givesA_nilCheck ho h (oneOf_some hy) hp⟩
  case h_18 t t' x ho =>
    obtain ⟨l, hl, hV⟩ := mO_elim hV
    cases l with
    | int k n =>
      obtain ⟨hs, hV⟩ := hV
      obtain ⟨k', hk, hK⟩ := mO_elim hV
      exact ⟨_, hK, givesA_convInt ho hs (convK_some hk) h (oneOf_some hl)⟩
    | str q =>
      obtain ⟨i, hi, hV⟩ := mO_elim hV
      obtain ⟨i', hi', hV⟩ := mO_elim hV
      obtain ⟨e, he, ⟨hs, hk⟩, hK⟩ := mO_elim hV
      exact ⟨_, hK, givesA_strBytes ho (hT _ _ hi) hs (hT _ _ hi') he (convK_some hk) h (oneOf_some hl)⟩
    | _ => cases hV
  case h_19 c ho =>
    split at hV
    · rename_i hcal
      split at hV
      · rename_i x t hargs htys
        obtain ⟨i, hi, hV⟩ := mO_elim hV
        obtain ⟨l, hl, hV⟩ := mO_elim hV
        obtain ⟨n, hn, hk, hK⟩ := mO_elim hV
        refine ⟨_, hK, ?_⟩
        have hc : c = { callee := .builtin .len, args := #[x], argTypes := #[t] } := by
          cases c with
          | mk cl ar tys =>
            simp only at hcal hargs htys
            have e1 : ar = #[x] := by apply Array.ext'; simpa using hargs
            have e2 : tys = #[t] := by apply Array.ext'; simpa using htys
            subst hcal e1 e2
            rfl
        rw [hc] at ho
        exact givesA_len ho (hT _ _ hi) h (oneOf_some hl) hn hk
      · cases hV
    · rename_i hcal
      split at hV
      · rename_i x y hargs
        obtain ⟨l1, h1, hV⟩ := mO_elim hV
        obtain ⟨l2, h2, hV⟩ := mO_elim hV
        obtain ⟨l, hl, hK⟩ := mO_elim hV
        refine ⟨_, hK, ?_⟩
        have hc : c = { callee := .builtin .max, args := #[x, y], argTypes := c.argTypes } := by
          cases c with
          | mk cl ar tys =>
            simp only at hcal hargs
            have e1 : ar = #[x, y] := by apply Array.ext'; simpa using hargs
            subst hcal e1
            rfl
        rw [hc] at ho
        exact givesA_max ho h (oneOf_some h1) (oneOf_some h2) hl
      · cases hV
    · rename_i hcal
      split at hV
      · rename_i x y hargs
        obtain ⟨l1, h1, hV⟩ := mO_elim hV
        obtain ⟨l2, h2, hV⟩ := mO_elim hV
        obtain ⟨l, hl, hK⟩ := mO_elim hV
        refine ⟨_, hK, ?_⟩
        have hc : c = { callee := .builtin .min, args := #[x, y], argTypes := c.argTypes } := by
          cases c with
          | mk cl ar tys =>
            simp only at hcal hargs
            have e1 : ar = #[x, y] := by apply Array.ext'; simpa using hargs
            subst hcal e1
            rfl
        rw [hc] at ho
        exact givesA_min ho h (oneOf_some h1) (oneOf_some h2) hl
      · cases hV
    · obtain ⟨⟨f, xs⟩, hc, r, hS⟩ := mO_elim hV
      rcases hS with ⟨hS, hK⟩ | ⟨hS, hK⟩
      · exact ⟨_, hK, gives_call ho h hc hS⟩
      · exact ⟨_, hK, gives_lentR ho h hc hS⟩
    · cases hV
  case h_20 t x ho =>
    obtain ⟨l, hl, hV⟩ := mO_elim hV
    cases l with
    | int k n => exact ⟨_, hV, givesA_neg ho h (oneOf_some hl)⟩
    | _ => cases hV
  case h_21 => cases hV

def CallMoves (P : Program) (f : FuncId) (xs : List V) (s : St) (d : Option Tmp) (s' : St) : Prop :=
  ∀ (w0 : World) (m0 : Mem) (F0 : Home) (a : Act) (w : World) (m : Mem) (ω : Wh), CI P w0 m0 F0 s a w m ω → ∀ vs : List Value, ArgsRep m ω vs xs → CallsR P f vs.toArray w fun v w' => Conc P w0 m0 F0 s' (a.put d v) w'
def CallG (P : Program) (f : FuncId) (xs : List V) (s : St) (d : Option Tmp) (K : St → Prop) : Prop := ∃ s', CallMoves P f xs s d s' ∧ K s'
theorem CallsR.mono {f : FuncId} {args : Array Value} {R R' : Value → World → Prop} (h : CallsR P f args w R) (hR : ∀ v w', R v w' → R' v w') : CallsR P f args w R' := by
  rcases h with ⟨v, w', h1, h2⟩ | ⟨h1, h2⟩
  · exact .inl ⟨v, w', h1, hR _ _ h2⟩
  · exact .inr ⟨h1, h2.mono fun e w' ⟨v, he, hr⟩ => ⟨v, he, hR _ _ hr⟩⟩
theorem CallMoves.pure {f : FuncId} {xs : List V} {r : A} {d : Option Tmp} (hd : s.okD d) (hS : Sat P f xs r) : CallMoves P f xs s d (s.putO d (r.map L.clos)) := by
  intro w0 m0 F0 a w m ω h vs hA
  refine (hS.call m w vs ω (CI.none h.goodN h.ok) hA).mono fun v w' hp => ?_
  obtain ⟨m', ω', hC, hv⟩ := hp
  refine ⟨m', ω, (h.grow ⟨hC.keeps.os, hC.keeps.tape, hC.keeps.output, hC.keeps.size, fun k hk => hC.keeps.block k hk owned_none⟩ hC.mle (fun x hx => hC.mold x hx owned_none) hC.ok).putO hd ?_⟩
  exact hv.map fun v l hl => L.clos_e hl
theorem CallMoves.lent {f : FuncId} {xs : List V} {r : A} {d : Option Tmp} (hd : s.okD d) (hS : Sat P f (xs.map fun x => x.map (frzV 4 s)) r) : CallMoves P f xs s d (s.putO d (r.map L.flat)) := by
  intro w0 m0 F0 a w m ω h vs h2
  let F : Nat → Prop := Owned s ω
  have hF : ∀ x v, m x = some v → ¬ F x.block := by
    rintro x v hx ⟨κ, id, hl, hk⟩
    exact (h.fresh κ id hl _ hk).2.2 x v hx rfl
  have hle := frzMem_le (w := w) hF
  have hA : ArgsRep (frzMem m w F) ω vs (xs.map fun x => x.map (frzV 4 s)) := by
    refine ⟨by simpa using h2.1, fun i x hi => ?_⟩
    rw [List.getElem?_map, Option.map_eq_some_iff] at hi
    obtain ⟨x0, hi, rfl⟩ := hi
    obtain ⟨v, h3, h4⟩ := h2.2 i x0 hi
    exact ⟨v, h3, h4.map fun v l hl => (frzV_sound h hle (fun κ id hl x hx => frzMem_in (m := m) ⟨κ, id, hl, hx⟩) 4 v l hl).erep⟩
  refine (hS.call _ w vs ω (CI.none h.goodN (frzMem_ok h.ok)) hA).mono fun v w' hp => ?_
  obtain ⟨m', ω', hC, hv⟩ := hp
  have hlt : ∀ k, F k → k < w.heap.size := fun k ⟨κ, id, hl, hk⟩ => (h.fresh κ id hl k hk).1
  refine ⟨cutMem m' F, ω, (h.grow ⟨hC.keeps.os, hC.keeps.tape, hC.keeps.output, hC.keeps.size, fun k hk => hC.keeps.block k hk owned_none⟩ (fun x v hx => ?_) (fun x hx => ?_) (fun x v hx => ?_)).putO hd (hv.map fun v l hl => L.flat_e hl)⟩
  · rw [cutMem_out (hF x v hx)]
    exact hC.mle x v (hle x v hx)
  · by_cases hb : F x.block
    · rw [cutMem_in hb]
      cases hm : m x with
      | none => rfl
      | some v => exact absurd hb (hF x v hm)
    · rw [cutMem_out hb, hC.mold x hx owned_none, frzMem_out hb]
  · by_cases hb : F x.block
    · rw [cutMem_in hb] at hx; cases hx
    · rw [cutMem_out hb] at hx
      exact hC.ok x v hx
theorem CallG.pure {f : FuncId} {xs : List V} {r : A} {d : Option Tmp} {K : St → Prop} (hS : Sat P f xs r) (h : s.okD d ∧ K (s.putO d (r.map L.clos))) : CallG P f xs s d K := ⟨_, .pure h.1 hS, h.2⟩
theorem CallG.lent {f : FuncId} {xs ys : List V} {r : A} {d : Option Tmp} {K : St → Prop} (hS : Sat P f ys r) (hy : (xs.map fun x => x.map (frzV 4 s)) = ys) (h : s.okD d ∧ K (s.putO d (r.map L.flat))) : CallG P f xs s d K := ⟨_, .lent h.1 (hy ▸ hS), h.2⟩

def pk (s : St) (d : Option Tmp) (K : St → Prop) (y : A) : Prop := match d with | some d => d < s.n ∧ K (s.put d y) | none => K s
theorem pk_elim {d : Option Tmp} {K : St → Prop} {y : A} (h : pk s d K y) : s.okD d ∧ K (s.putO d y) := by
  unfold pk at h
  split at h
  · exact h
  · exact ⟨trivial, h⟩

def assignK (s : St) (d : Option Tmp) (K : St → Prop) (e : Option A) : Prop := match d with
  | some d => (match e with
    | some (.v (.one (.nil z))) => d < s.n ∧ K (s.nilRow d z)
    | some (.v (.one (.ref id lo n))) => mO (look s.row id) fun r => d < s.n ∧ K (s.takeRow id d lo n r)
    | some y => d < s.n ∧ K (s.put d y)
    | none => False)
  | none => False
def storeK (s : St) (i : TI) (vs : List L) (K : St → Prop) : L → Prop
  | .ptr id off => mO (look s.box id) fun ls => (vs.length = i.size ∧ off + vs.length ≤ ls.length) ∧ K { s with box := sput id (setL off vs ls) s.box }
  | .eptr id k off => mO (look s.row id) fun r => (vs.length = i.size ∧ k < r.xs.length ∧ off + vs.length ≤ r.sz) ∧ K { s with row := sput id (r.store k off vs) s.row }
  | _ => False
def ovIn : List (Nat × Nat × L) → Nat → Prop
  | [], _ => True
  | p :: r, n => p.1 < n ∧ ovIn r n
theorem ovIn_get : ∀ {ov : List (Nat × Nat × L)} {n : Nat}, ovIn ov n → ovGet ov n 0 = none
  | [], _, _ => rfl
  | (p, q, l) :: r, n, h => by
    simp only [ovGet]
    rw [if_neg (fun e => by have := h.1; simp only at this; omega)]
    exact ovIn_get h.2
def ysOf (s : St) (j : TI) : L → Option (Nat × List (List L) × List (Nat × Nat × L) × Prop)
  | .sl sz ys => some (sz, ys, [], True)
  | .nil _ => some (j.size, [], [], True)
  | .ref id lo n => match look s.row id with
    | some r => match r.ov with
      | [] => some (r.sz, (r.xs.drop lo).take n, [], lo + n ≤ r.xs.length ∧ noOwn r.xs)
      | ov => some (r.sz, r.xs, ov, lo = 0 ∧ n = r.xs.length ∧ noOwn r.xs ∧ ovIn ov n)
    | none => none
  | _ => none
def dstOf (s : St) (j : TI) : L → Option (Option Nat × Nat × List (List L) × Prop)
  | .nil _ => some (none, j.size, [], True)
  | .ref id lo n => match look s.row id with
    | some r => some (some id, r.sz, r.xs.take n, lo = 0 ∧ r.ov = [] ∧ n ≤ r.xs.length)
    | none => none
  | _ => none

theorem ysOf_sound (h : CI P w0 m0 F0 s a w m ω) {j : TI} {v : Value} {l : L} {sz : Nat} {ys : List (List L)} {ov : List (Nat × Nat × L)} {p : Prop} (hy : ysOf s j l = some (sz, ys, ov, p)) (hp : p) (hl : ERep m ω v l) : SliceRd m w ω v sz ys ov := by
  cases l <;> simp only [ysOf, reduceCtorEq, Option.some.injEq, Prod.mk.injEq] at hy
  · obtain ⟨rfl, rfl, rfl, _⟩ := hy
    exact sliceRd_sl h.ok hl
  · obtain ⟨rfl, rfl, rfl, _⟩ := hy
    exact sliceRd_nil hl _
  · rename_i id lo n
    split at hy
    · rename_i r hr
      split at hy
      · rename_i hov
        simp only [Option.some.injEq, Prod.mk.injEq] at hy
        obtain ⟨rfl, rfl, rfl, rfl⟩ := hy
        exact sliceRd_ref h hl hr hp.1 hp.2 (fun i j _ => by rw [hov]; rfl)
      · simp only [Option.some.injEq, Prod.mk.injEq] at hy
        obtain ⟨rfl, rfl, rfl, rfl⟩ := hy
        obtain ⟨rfl, rfl, ho, _⟩ := hp
        have := sliceRd_ref (ov := r.ov) h hl hr (by omega) ho (fun i j _ => by rw [Nat.zero_add])
        simpa using this
    · cases hy
theorem ysOf_in {j : TI} {l : L} {sz : Nat} {ys : List (List L)} {ov : List (Nat × Nat × L)} {p : Prop} (hy : ysOf s j l = some (sz, ys, ov, p)) (hp : p) : ovGet ov ys.length 0 = none := by
  cases l <;> simp only [ysOf, reduceCtorEq, Option.some.injEq, Prod.mk.injEq] at hy
  · obtain ⟨rfl, rfl, rfl, _⟩ := hy
    rfl
  · obtain ⟨rfl, rfl, rfl, _⟩ := hy
    rfl
  · split at hy
    · split at hy
      · simp only [Option.some.injEq, Prod.mk.injEq] at hy
        obtain ⟨rfl, rfl, rfl, rfl⟩ := hy
        rfl
      · simp only [Option.some.injEq, Prod.mk.injEq] at hy
        obtain ⟨rfl, rfl, rfl, rfl⟩ := hy
        obtain ⟨_, rfl, _, hi⟩ := hp
        exact ovIn_get hi
    · cases hy
theorem dstOf_sound {j : TI} {l : L} {src : Option Nat} {sz : Nat} {xs : List (List L)} {p : Prop} (hy : dstOf s j l = some (src, sz, xs, p)) (hp : p) : Dst s l sz xs src := by
  cases l <;> simp only [dstOf, reduceCtorEq, Option.some.injEq, Prod.mk.injEq] at hy
  · obtain ⟨rfl, rfl, rfl, _⟩ := hy
    exact .nil _ _
  · split at hy
    · rename_i r hr
      simp only [Option.some.injEq, Prod.mk.injEq] at hy
      obtain ⟨rfl, rfl, rfl, rfl⟩ := hy
      obtain ⟨rfl, h1, h2⟩ := hp
      exact .ref _ _ r hr h1 h2
    · cases hy

def ovOut : List (Nat × Nat × L) → Nat → Prop
  | [], _ => True
  | p :: r, n => n ≤ p.1 ∧ ovOut r n
theorem ovOut_get : ∀ {ov : List (Nat × Nat × L)} {n : Nat}, ovOut ov n → ∀ i j, i < n → ovGet ov i j = none
  | [], _, _, _, _, _ => rfl
  | (p, q, l) :: r, n, h, i, j, hi => by
    simp only [ovGet]
    rw [if_neg (fun e => by have := h.1; simp only at this; omega)]
    exact ovOut_get h.2 i j hi
def marked : RowC → Prop
  | ⟨_, xs, [(c, 0, _)]⟩ => c = xs.length
  | _ => False
theorem marked_get {r : RowC} (h : marked r) : ovGet r.ov r.xs.length 0 ≠ none ∧ ∀ i j, i < r.xs.length → ovGet r.ov i j = none := by
  obtain ⟨sz, xs, ov⟩ := r
  match ov, h with
  | [(c, 0, l)], h =>
    have h : c = xs.length := h
    subst h
    refine ⟨by simp [ovGet], fun i j hi => ?_⟩
    simp only [ovGet]
    rw [if_neg (fun e => by simp only at hi; omega)]
def ysC (s : St) (j : TI) : L → Option (Nat × List (List L) × Prop)
  | .sl sz ys => some (sz, ys, True)
  | .nil _ => some (j.size, [], True)
  | .ref id lo n => match look s.row id with
    | some r => some (r.sz, (r.xs.drop lo).take n, lo + n ≤ r.xs.length ∧ noOwn r.xs ∧ ovOut r.ov r.xs.length)
    | none => none
  | _ => none
theorem ysC_sound (h : CI P w0 m0 F0 s a w m ω) {j : TI} {v : Value} {l : L} {sz : Nat} {ys : List (List L)} {p : Prop} (hy : ysC s j l = some (sz, ys, p)) (hp : p) (hl : ERep m ω v l) : SliceRd m w ω v sz ys [] := by
  cases l <;> simp only [ysC, reduceCtorEq, Option.some.injEq, Prod.mk.injEq] at hy
  · obtain ⟨rfl, rfl, _⟩ := hy
    exact sliceRd_sl h.ok hl
  · obtain ⟨rfl, rfl, _⟩ := hy
    exact sliceRd_nil hl _
  · rename_i id lo n
    split at hy
    · rename_i r hr
      simp only [Option.some.injEq, Prod.mk.injEq] at hy
      obtain ⟨rfl, rfl, rfl⟩ := hy
      exact sliceRd_ref h hl hr hp.1 hp.2.1 (fun i j hi => by rw [ovOut_get hp.2.2 (lo + i) j (by omega)]; rfl)
    · cases hy
def appStd (s : St) (j : TI) (z : List L) (d : Nat) (K : St → Prop) (l1 l2 : L) : Prop := mO (dstOf s j l1) fun p => mO (ysOf s j l2) fun q =>
  (p.2.2.2 ∧ q.2.2.2) ∧ (j.size = p.2.1 ∧ j.size = q.1 ∧ z.length = j.size) ∧ ((p.2.2.1.length + q.2.1.length) * j.bytes ≤ 140737488355328 ∧ p.2.2.1.length + q.2.1.length ≤ 9223372036854775807) ∧ d < s.n ∧ K (s.appended p.1 d p.2.1 (p.2.2.1 ++ q.2.1) (ovShift p.2.2.1.length q.2.2.1))
def appIn (s : St) (j : TI) (d : Nat) (K : St → Prop) (id lo n lo' k : Nat) : Prop := mO (look s.row id) fun r => (lo = 0 ∧ r.ov = [] ∧ n + k ≤ r.xs.length ∧ lo' + k ≤ r.xs.length ∧ noOwn r.xs ∧ j.size = r.sz) ∧ d < s.n ∧
  K (St.put { s with row := sput id ⟨r.sz, r.xs.take n ++ (r.xs.drop lo').take k ++ r.xs.drop (n + k), []⟩ s.row } d (.v (.one (.ref id 0 (n + k)))))
def appMk (s : St) (j : TI) (z : List L) (d : Nat) (K : St → Prop) (id lo n : Nat) (k : Int) : Prop := mO (look s.row id) fun r => (lo = 0 ∧ marked r ∧ n ≤ r.xs.length ∧ noOwn (r.xs.take n) ∧ j.size = r.sz ∧ z.length = r.sz ∧ 0 < r.sz) ∧ (0 < k ∧ (r.xs.length : Int) < n + k ∧ (n + k.toNat) * j.bytes ≤ 140737488355328 ∧ n + k.toNat ≤ 9223372036854775807) ∧ d < s.n ∧
  K (s.appended none d r.sz (r.xs.take n ++ List.replicate k.toNat (z.map L.clos)) [])
def appK (P : Program) (s : St) (t t' : TypeId) (j : TI) (z : List L) (d : Nat) (K : St → Prop) : L → L → Prop
  | .ref id lo n, .ref id' lo' k => t = t' ∧ (if id = id' then appIn s j d K id lo n lo' k else appStd s j z d K (.ref id lo n) (.ref id' lo' k))
  | .ref id lo n, .int _ k => (convK P t').isSome = true ∧ appMk s j z d K id lo n k
  | .nil _, .int _ k => (convK P t').isSome = true ∧ (z.length = j.size ∧ 0 < j.size ∧ 0 < k ∧ k.toNat * j.bytes ≤ 140737488355328 ∧ k.toNat ≤ 9223372036854775807) ∧ d < s.n ∧ K (s.appended none d j.size (List.replicate k.toNat (z.map L.clos)) [])
  | l1, l2 => t = t' ∧ appStd s j z d K l1 l2
def copyK (s : St) (j : TI) (d : Option Tmp) (K : St → Prop) : L → L → Prop
  | .ref id lo n, l2 => mO (look s.row id) fun r => mO (ysC s j l2) fun q => (ovOut r.ov r.xs.length ∧ lo + n ≤ r.xs.length ∧ j.size = r.sz ∧ q.1 = r.sz ∧ q.2.2) ∧ s.okD d ∧
      K (St.putO { s with row := sput id ⟨r.sz, r.xs.take lo ++ q.2.1.take (min q.2.1.length n) ++ r.xs.drop (lo + min q.2.1.length n), r.ov⟩ s.row } d (.v (.one (.int .i64 ((min q.2.1.length n : Nat) : Int)))))
  | _, _ => False
def clearK (s : St) (j : TI) (z : List L) (d : Option Tmp) (K : St → Prop) : L → Prop
  | .ref id lo n => mO (look s.row id) fun r => (ovOut r.ov r.xs.length ∧ lo + n ≤ r.xs.length ∧ j.size = r.sz ∧ z.length = r.sz) ∧ s.okD d ∧
      K (St.putO { s with row := sput id ⟨r.sz, r.xs.take lo ++ List.replicate n (z.map L.clos) ++ r.xs.drop (lo + n), r.ov⟩ s.row } d (.tup []))
  | _ => False
def capK (s : St) (d : Nat) (K : St → Prop) : L → Prop
  | .nil _ => d < s.n ∧ K (s.put d (.v (.one (.int .i64 0))))
  | .ref id lo _ => mO (look s.row id) fun r => (lo = 0 ∧ r.ov = []) ∧ d < s.n ∧ ∀ p : Nat, r.xs.length + p ≤ 9223372036854775807 → K (St.put { s with row := sput id (padRow r p) s.row } d (.v (.one (.int .i64 ((r.xs.length + p : Nat) : Int)))))
  | _ => False

def VOp (P : Program) (T : TypeId → Option TI) (o : Oper) (s : St) (K : St → Prop) : Prop :=
  match o.op with
  | .assign x => assignK s o.dst K (evalO T s o.type x)
  | .box _ x => mO o.dst fun d => mO (partCells T s 0 x) fun ls => d < s.n ∧ K (s.newBox d ls)
  | .alloc e => mO o.dst fun d => mO (T e) fun i => mO i.zero fun ls => d < s.n ∧ K (s.newBox d ls)
  | .store t x y => o.dst = none ∧ mO (T t) fun i => mO (partCells T s t y) fun vs => mO (oneOf (evalO T s 0 x)) (storeK s i vs K)
  | .buildSlice t len parts => mO o.dst fun d => mO (elemTI T t) fun j => mO j.zero fun z => (z.length = j.size ∧ 0 < j.size ∧ len * j.size ≤ 16777216) ∧
      mO (fillL T s 0 (fun k => some (k * j.size, j.size)) (repL z len) parts.toList) fun ls => d < s.n ∧ K ((s.newRow0 none d (rowOf j.size len ls)).put d (.v (.one (.ref d 0 len))))
  | .call c => (match c.callee with
      | .builtin .append => mO o.dst fun d => (match c.args.toList, c.argTypes.toList with
        | [x, y], [t, t'] => mO (elemTI T t) fun j => mO j.zero fun z => mO (oneOf (evalO T s t x)) fun l1 => mO (oneOf (evalO T s t y)) fun l2 => appK P s t t' j z d K l1 l2
        | _, _ => False)
      | .builtin .copy => (match c.args.toList, c.argTypes.toList with
        | [x, y], [t, _] => mO (elemTI T t) fun j => mO (oneOf (evalO T s t x)) fun l1 => mO (oneOf (evalO T s t y)) fun l2 => copyK s j o.dst K l1 l2
        | _, _ => False)
      | .builtin .clear => (match c.args.toList, c.argTypes.toList with
        | [x], [t] => mO (elemTI T t) fun j => mO j.zero fun z => mO (oneOf (evalO T s t x)) fun l1 => clearK s j z o.dst K l1
        | _, _ => False)
      | .builtin .cap => mO o.dst fun d => (match c.args.toList, c.argTypes.toList with
        | [x], [t] => mO (elemTI T t) fun _ => mO (oneOf (evalO T s t x)) fun l1 => capK s d K l1
        | _, _ => False)
      | .value _ => mO (callOf T s c) fun p => CallG P p.1 p.2 s o.dst K
      | _ => VVal P T o s (pk s o.dst K))
  | .binOp .eql t x (.const (.slice none 0 0)) _ => mO (oneOf (evalO T s t x)) fun l => isSlice l = true ∧ mO (T t) fun i => i.elem.isSome = true ∧ ∀ b, (∀ n, nL l = some n → 0 < n → b = false) → pk s o.dst K (.v (.one (.bool b)))
  | _ => VVal P T o s (pk s o.dst K)

def Follows (P : Program) (w0 : World) (m0 : Mem) (F0 : Home) (o : Oper) (a : Act) (w : World) (K : St → Prop) : Prop :=
  ∀ next Q, (∀ s' a' w', K s' → Conc P w0 m0 F0 s' a' w' → next a' w') → o.wp P a w next Q

theorem Moves.follows {o : Oper} {s' : St} {K : St → Prop} (h : Moves P w0 m0 F0 o a w s') (hK : K s') : Follows P w0 m0 F0 o a w K :=
  fun next Q hn => h next Q fun _ w' hc => hn s' _ w' hK hc

theorem follows_of_val (hT : TabOk P T) {o : Oper} {K : St → Prop} (hV : VVal P T o s (pk s o.dst K)) (h : CI P w0 m0 F0 s a w m ω) : Follows P w0 m0 F0 o a w K := by
  obtain ⟨x, hx, hG⟩ := VVal_sound hT hV h
  have hd := pk_elim hx
  exact (hG.moves hd.1).follows hd.2

theorem VOp_sound (hT : TabOk P T) {o : Oper} {K : St → Prop} (hV : VOp P T o s K) (h : CI P w0 m0 F0 s a w m ω) : Follows P w0 m0 F0 o a w K := by
  unfold VOp at hV
  split at hV
  case h_1 x ho =>
    unfold assignK at hV
    split at hV
    · rename_i d hd
      split at hV
      · rename_i z hz
        exact (moves_nilRow ho hd hV.1 h hz).follows hV.2
      · rename_i id lo n hz
        obtain ⟨r, hr, hn, hK⟩ := mO_elim hV
        exact (moves_takeRow ho hd hn h hz hr).follows hK
      · rename_i y hy
        have := (givesA_assign ho h hy).moves (by rw [hd]; exact hV.1)
        rw [hd] at this
        exact this.follows hV.2
      · cases hV
    · cases hV
  case h_2 e x ho =>
    obtain ⟨d, hd, hV⟩ := mO_elim hV
    obtain ⟨ls, hls, hn, hK⟩ := mO_elim hV
    exact (moves_box ho hd hn h hls).follows hK
  case h_3 e ho =>
    obtain ⟨d, hd, hV⟩ := mO_elim hV
    obtain ⟨i, hi, hV⟩ := mO_elim hV
    obtain ⟨ls, hls, hn, hK⟩ := mO_elim hV
    exact (moves_alloc ho hd hn (hT _ _ hi) hls h).follows hK
  case h_4 t x y ho =>
    obtain ⟨hd, hV⟩ := hV
    obtain ⟨i, hi, hV⟩ := mO_elim hV
    obtain ⟨vs, hvs, hV⟩ := mO_elim hV
    obtain ⟨l, hl, hV⟩ := mO_elim hV
    have hl := oneOf_some hl
    cases l with
    | ptr id off =>
      obtain ⟨ls, hls, ⟨h1, h2⟩, hK⟩ := mO_elim hV
      exact (moves_store ho hd (hT _ _ hi) h hl hls hvs h1 h2).follows hK
    | eptr id k off =>
      obtain ⟨r, hr, ⟨h1, h2, h3⟩, hK⟩ := mO_elim hV
      exact (moves_storeRow ho hd (hT _ _ hi) h hl hr hvs h1 h2 h3).follows hK
    | _ => cases hV
  case h_5 t len parts ho =>
    obtain ⟨d, hd, hV⟩ := mO_elim hV
    obtain ⟨j, hj, hV⟩ := mO_elim hV
    obtain ⟨z, hz, hc, hV⟩ := mO_elim hV
    obtain ⟨ls, hls, hn, hK⟩ := mO_elim hV
    obtain ⟨i, e, hi, he, hE, hti, htj⟩ := elemTI_some hT hj
    exact (moves_buildSlice ho hd hn hT hi he hE hz hc.1 hc.2.1 hc.2.2 h hls).follows hK
  case h_6 c ho =>
    split at hV
    · rename_i hcal
      obtain ⟨d, hd, hV⟩ := mO_elim hV
      split at hV
      · rename_i x y t t' hargs htys
        obtain ⟨j, hj, hV⟩ := mO_elim hV
        obtain ⟨z, hz, hV⟩ := mO_elim hV
        obtain ⟨l1, hl1, hV⟩ := mO_elim hV
        obtain ⟨l2, hl2, hV⟩ := mO_elim hV
        obtain ⟨i, e, hi, he, hE, hti, htj⟩ := elemTI_some hT hj
        have hc : c = { callee := .builtin .append, args := #[x, y], argTypes := #[t, t'] } := by
          cases c with
          | mk cl ar tys =>
            simp only at hcal hargs htys
            have e1 : ar = #[x, y] := by apply Array.ext'; simpa using hargs
            have e2 : tys = #[t, t'] := by apply Array.ext'; simpa using htys
            subst hcal e1 e2
            rfl
        rw [hc] at ho
        have std : ∀ l1 l2, oneOf (evalO T s t x) = some l1 → oneOf (evalO T s t y) = some l2 → t = t' → appStd s j z d K l1 l2 → Follows P w0 m0 F0 o a w K := by
          intro l1 l2 hl1 hl2 htt hQ
          subst htt
          obtain ⟨⟨src, sz, xs, p⟩, hs, hQ⟩ := mO_elim hQ
          obtain ⟨⟨sz', ys, ov, q⟩, hy, hQ⟩ := mO_elim hQ
          obtain ⟨⟨hp, hq⟩, ⟨h1, h2, h3⟩, ⟨h4, h5⟩, hn, hK⟩ := hQ
          simp only at h1 h2 h3 h4 h5 hn hK hp hq
          have h2' : sz' = sz := by omega
          subst h2'
          exact (moves_append ho hd hn hti he htj hz h1 (h3.trans h1) h (oneOf_some hl1) (dstOf_sound hs hp) (ysOf_sound h hy hq (evalO_sound h (oneOf_some hl2))) (ysOf_in hy hq) h4 h5).follows hK
        have rr : ∀ id lo n id' lo' k, l1 = .ref id lo n → l2 = .ref id' lo' k → Follows P w0 m0 F0 o a w K := by
          rintro id lo n id' lo' k rfl rfl
          obtain ⟨htt, hQ⟩ := hV
          split at hQ
          · rename_i hid
            subst hid
            subst htt
            obtain ⟨r, hr, ⟨h0, hov, h1, h2, h3, h4⟩, hn, hK⟩ := mO_elim hQ
            subst h0
            have hl : ((r.xs.drop lo').take k).length = k := by simp; omega
            have hy := sliceRd_ref (ov := []) h (evalO_sound h (oneOf_some hl2)) hr h2 h3 (fun i j _ => by rw [hov]; rfl)
            have := moves_appendIn ho hd hn hti he htj h4 h (oneOf_some hl1) hr hov hy (by rw [hl]; exact h1)
            rw [hl] at this
            exact this.follows hK
          · exact std _ _ hl1 hl2 htt hQ
        have ri : ∀ id lo n kq k, l1 = .ref id lo n → l2 = .int kq k → Follows P w0 m0 F0 o a w K := by
          rintro id lo n kq k rfl rfl
          obtain ⟨hcv, hV⟩ := hV
          obtain ⟨kn, hkn⟩ := Option.isSome_iff_exists.1 hcv
          obtain ⟨r, hr, ⟨h0, hmk, h1, h2, h3, h4, h5⟩, ⟨h6, h7, h8, h9⟩, hn, hK⟩ := mO_elim hV
          subst h0
          obtain ⟨mk1, mk2⟩ := marked_get hmk
          have hkk : k = (k.toNat : Int) := by omega
          have hl2' := oneOf_some hl2
          rw [hkk] at hl2'
          exact (moves_appendMk ho hd hn hti he htj hz h3 h4 h5 (convK_some hkn) h (oneOf_some hl1) hl2' hr mk2 mk1 h1 h2 (by omega) (by omega) h8 h9).follows hK
        have ni : ∀ sz kq k, l1 = .nil sz → l2 = .int kq k → Follows P w0 m0 F0 o a w K := by
          rintro sz kq k rfl rfl
          obtain ⟨hcv, ⟨q1, q2, q3, q4, q5⟩, hn, hK⟩ := hV
          obtain ⟨kn, hkn⟩ := Option.isSome_iff_exists.1 hcv
          have hkk : k = (k.toNat : Int) := by omega
          have hl2' := oneOf_some hl2
          rw [hkk] at hl2'
          exact (moves_appendNil ho hd hn hti he htj hz q1 q2 (convK_some hkn) h (oneOf_some hl1) hl2' (by omega) q4 q5).follows hK
        cases l1 with
        | ref id lo n =>
          cases l2 with
          | ref id' lo' k => exact rr _ _ _ _ _ _ rfl rfl
          | int kq k => exact ri _ _ _ _ _ rfl rfl
          | _ => exact std _ _ hl1 hl2 hV.1 hV.2
        | nil sz =>
          cases l2 with
          | int kq k => exact ni _ _ _ rfl rfl
          | _ => exact std _ _ hl1 hl2 hV.1 hV.2
        | _ => exact std _ _ hl1 hl2 hV.1 hV.2
      · cases hV
    · rename_i hcal
      split at hV
      · rename_i x y t t' hargs htys
        obtain ⟨j, hj, hV⟩ := mO_elim hV
        obtain ⟨l1, hl1, hV⟩ := mO_elim hV
        obtain ⟨l2, hl2, hV⟩ := mO_elim hV
        obtain ⟨i, e, hi, he, hE, hti, htj⟩ := elemTI_some hT hj
        have hc : c = { callee := .builtin .copy, args := #[x, y], argTypes := #[t, t'] } := by
          cases c with
          | mk cl ar tys =>
            simp only at hcal hargs htys
            have e1 : ar = #[x, y] := by apply Array.ext'; simpa using hargs
            have e2 : tys = #[t, t'] := by apply Array.ext'; simpa using htys
            subst hcal e1 e2
            rfl
        rw [hc] at ho
        cases l1 with
        | ref id lo n =>
          obtain ⟨r, hr, hV⟩ := mO_elim hV
          obtain ⟨⟨sz, ys, p⟩, hy, ⟨h1, h2, h3, h4, h5⟩, hdd, hK⟩ := mO_elim hV
          simp only at h4 h5 hK
          subst h4
          exact (moves_copy ho hdd hti he htj h3 h (oneOf_some hl1) hr (ovOut_get h1) h2 (ysC_sound h hy h5 (evalO_sound h (oneOf_some hl2))) rfl).follows hK
        | _ => cases hV
      · cases hV
    · rename_i hcal
      split at hV
      · rename_i x t hargs htys
        obtain ⟨j, hj, hV⟩ := mO_elim hV
        obtain ⟨z, hz, hV⟩ := mO_elim hV
        obtain ⟨l1, hl1, hV⟩ := mO_elim hV
        obtain ⟨i, e, hi, he, hE, hti, htj⟩ := elemTI_some hT hj
        have hc : c = { callee := .builtin .clear, args := #[x], argTypes := #[t] } := by
          cases c with
          | mk cl ar tys =>
            simp only at hcal hargs htys
            have e1 : ar = #[x] := by apply Array.ext'; simpa using hargs
            have e2 : tys = #[t] := by apply Array.ext'; simpa using htys
            subst hcal e1 e2
            rfl
        rw [hc] at ho
        cases l1 with
        | ref id lo n =>
          obtain ⟨r, hr, ⟨h1, h2, h3, h4⟩, hdd, hK⟩ := mO_elim hV
          exact (moves_clear ho hdd hti he htj hz h3 h4 h (oneOf_some hl1) hr (ovOut_get h1) h2).follows hK
        | _ => cases hV
      · cases hV
    · rename_i hcal
      obtain ⟨d, hd, hV⟩ := mO_elim hV
      split at hV
      · rename_i x t hargs htys
        obtain ⟨j, hj, hV⟩ := mO_elim hV
        obtain ⟨l1, hl1, hV⟩ := mO_elim hV
        obtain ⟨i, e, hi, he, hE, hti, htj⟩ := elemTI_some hT hj
        have hc : c = { callee := .builtin .cap, args := #[x], argTypes := #[t] } := by
          cases c with
          | mk cl ar tys =>
            simp only at hcal hargs htys
            have e1 : ar = #[x] := by apply Array.ext'; simpa using hargs
            have e2 : tys = #[t] := by apply Array.ext'; simpa using htys
            subst hcal e1 e2
            rfl
        rw [hc] at ho
        cases l1 with
        | ref id lo n =>
          obtain ⟨r, hr, ⟨h0, hov⟩, hn, hK⟩ := mO_elim hV
          subst h0
          obtain ⟨p, hp, hM⟩ := follows_cap ho hd hn hti he h (oneOf_some hl1) hr hov
          exact hM.follows (hK p hp)
        | nil sz => exact (moves_capNil ho hd hV.1 hti he h (oneOf_some hl1)).follows hV.2
        | _ => cases hV
      · cases hV
    · obtain ⟨⟨f, xs⟩, hc, s', hM, hK⟩ := mO_elim hV
      obtain ⟨vs, h1, h2⟩ := callOf_sound ho h hc
      exact Moves.follows (gives_of_callsR h1 (hM _ _ _ a w m ω h vs h2)) hK
    · exact follows_of_val hT hV h
  case h_7 t x t' ho =>
    obtain ⟨l, hl, hs, hV⟩ := mO_elim hV
    obtain ⟨i, hi, he, hV⟩ := mO_elim hV
    obtain ⟨e, he⟩ := Option.isSome_iff_exists.1 he
    obtain ⟨b, hb, hG⟩ := gives_eqNil ho (hT _ _ hi) he h (oneOf_some hl) hs
    have hd := pk_elim (hV b hb)
    exact (hG.moves hd.1).follows hd.2
  case h_8 => exact follows_of_val hT hV h
end
end Go.Bw

namespace Go.Bw
open Go.RowKit
section
variable {P : Program} {w0 : World} {m0 : Mem} {s : St} {a : Act} {w : World} {m : Mem} {ω : Wh} {F0 : Home} {T : TypeId → Option TI}

def guardOf (ops : Array Oper) (s : St) (o : Oper) : Option Bool :=
  match o.guard with
  | none => some true
  | some (j, want) => match (ops[j]?).bind (·.dst) with
    | some t => (match look s.env t with | some (.v (.one (.bool b))) => some (b == want) | some (.tup []) => some false | _ => none)
    | none => none

theorem getD_get (a : Act) {t : Nat} {b : Bool} (h : a.tmps.getD t undef = .bool b) : a.tmps[t]? = some (.bool b) := by
  rw [Array.getD_eq_getD_getElem?] at h
  cases hq : a.tmps[t]? with
  | none => rw [hq] at h; simp [undef] at h
  | some v => rw [hq] at h; simpa using h

theorem guardOf_sound (h : CI P w0 m0 F0 s a w m ω) {ops : Array Oper} {o : Oper} {b : Bool} (hg : guardOf ops s o = some b) : Region.wanted o (yielded ops a.tmps) = b := by
  unfold guardOf at hg
  unfold Region.wanted
  split at hg
  · rename_i hn
    injection hg with hg
    rw [hn, ← hg]
  · rename_i j want hn
    rw [hn]
    split at hg
    · rename_i t ht
      split at hg
      · rename_i b' hb
        injection hg with hg
        have hv : Rep m (a.tmps.getD t undef) (.bool b') := h.env t _ hb
        have hval : a.tmps[t]? = some (.bool b') := by
          generalize hx : a.tmps.getD t undef = u at hv
          cases hv
          exact getD_get a hx
        simp only [yielded, ht, Option.bind_some, hval]
        rw [← hg]
        cases b' <;> cases want <;> rfl
      · rename_i hb
        injection hg with hg
        have hv := h.env t _ hb
        have hval : ∀ b', a.tmps[t]? ≠ some (.bool b') := by
          intro b' hq
          rw [Array.getD_eq_getD_getElem?, hq] at hv
          obtain ⟨vs, hv, _⟩ := hv
          cases hv
        rw [← hg]
        simp only [yielded, ht, Option.bind_some]
        first
          | rfl
          | (split
             · rename_i b' hq
               exact absurd hq (hval b')
             · rfl)
      · cases hg
    · cases hg

def VOps (P : Program) (T : TypeId → Option TI) (ops : Array Oper) : List Oper → St → (St → Prop) → Prop
  | [], s, K => K s
  | o :: l, s, K => match guardOf ops s o with
    | some true => VOp P T o s fun s' => VOps P T ops l s' K
    | some false => pk s o.dst (fun s' => VOps P T ops l s' K) (.tup [])
    | none => False

def PostQ (P : Program) (w0 : World) (m0 : Mem) (F0 : Home) (Q : Exit → St → Prop) (e : Exit) (a : Act) (w : World) : Prop := ∃ s, Q e s ∧ Conc P w0 m0 F0 s a w

theorem VOps_sound (hT : TabOk P T) {ops : Array Oper} {K : St → Prop} {Q : Exit → Act → World → Prop} (hQ : ∀ s a w, K s → Conc P w0 m0 F0 s a w → Q .normal a w) :
    ∀ (l : List Oper) (k : Nat) (s : St) (a : Act) (w : World), ops.toList.drop k = l → VOps P T ops l s K → Conc P w0 m0 F0 s a w → wpOps P ops Q (List.range' k l.length) a w
  | [], k, s, a, w, _, hV, hC => hQ s a w hV hC
  | o :: l, k, s, a, w, hl, hV, hC => by
    obtain ⟨m, ω, h⟩ := hC
    have hk : ops[k]? = some o := by
      have : (ops.toList.drop k)[0]? = some o := by rw [hl]; rfl
      simpa [List.getElem?_drop] using this
    have hl' : ops.toList.drop (k + 1) = l := by
      have : (ops.toList.drop k).drop 1 = l := by rw [hl]; rfl
      simpa [List.drop_drop] using this
    simp only [List.length_cons, List.range'_succ, wpOps, hk]
    simp only [VOps] at hV
    split at hV
    · rename_i hg
      rw [if_pos (guardOf_sound h hg)]
      exact .inl (VOp_sound hT hV h _ _ fun s' a' w' hK hc => VOps_sound hT hQ l (k + 1) s' a' w' hl' hK hc)
    · rename_i hg
      rw [if_neg (by rw [guardOf_sound h hg]; simp)]
      unfold pk at hV
      split at hV
      · rename_i d hd
        rw [hd]
        exact VOps_sound hT hQ l (k + 1) _ _ w hl' hV.2 ⟨m, ω, h.put hV.1 arep_undef⟩
      · rename_i hd
        rw [hd]
        exact VOps_sound hT hQ l (k + 1) _ _ w hl' hV ⟨m, ω, h⟩
    · cases hV

def AWP (P : Program) (w0 : World) (m0 : Mem) (F0 : Home) (c : Code) (Q : Exit → St → Prop) (s : St) : Prop :=
  ∀ a w, Conc P w0 m0 F0 s a w → c.wp P (PostQ P w0 m0 F0 Q) a w

section rules
variable {Q : Exit → St → Prop}

def St.le (s' s : St) : Prop := s'.n = s.n ∧ (∀ t x, look s'.env t = some x → look s.env t = some x) ∧ (∀ i ls, look s'.box i = some ls → look s.box i = some ls) ∧ ∀ i r, look s'.row i = some r → look s.row i = some r
theorem Conc.le {s' : St} (h : Conc P w0 m0 F0 s a w) (hl : St.le s' s) : Conc P w0 m0 F0 s' a w := by
  obtain ⟨m, ω, h⟩ := h
  exact ⟨m, ω, h.weaken hl.1 hl.2.1 hl.2.2.1 hl.2.2.2⟩
theorem St.le_refl (s : St) : St.le s s := ⟨rfl, fun _ _ h => h, fun _ _ h => h, fun _ _ h => h⟩
theorem Conc.freeze (h : Conc P w0 m0 F0 s a w) (kb kr : List Nat) : Conc P w0 m0 F0 (s.freeze kb kr) a w := by
  obtain ⟨m, ω, h⟩ := h
  obtain ⟨m', h', _, _⟩ := h.freeze kb kr
  exact ⟨m', ω, h'⟩

theorem AWP.weak {c : Code} {s' : St} (hl : St.le s' s) (h : AWP P w0 m0 F0 c Q s') : AWP P w0 m0 F0 c Q s := fun a w hc => h a w (hc.le hl)
theorem AWP.frz {c : Code} (kb kr : List Nat) (h : AWP P w0 m0 F0 c Q (s.freeze kb kr)) : AWP P w0 m0 F0 c Q s := fun a w hc => h a w (hc.freeze kb kr)
theorem AWP.mono {c : Code} {Q' : Exit → St → Prop} (h : AWP P w0 m0 F0 c Q s) (hq : ∀ e s, Q e s → Q' e s) : AWP P w0 m0 F0 c Q' s :=
  fun a w hc => wp_mono (h a w hc) fun e _ _ ⟨s', h1, h2⟩ => ⟨s', hq e s' h1, h2⟩

def thenQ (R : St → Prop) (Q : Exit → St → Prop) : Exit → St → Prop
  | .normal, s => R s
  | e, s => Q e s
def blockQ (id : Nat) (Q : Exit → St → Prop) : Exit → St → Prop
  | .exit id', s => if id' = id then Q .normal s else Q (.exit id') s
  | e, s => Q e s

theorem qD (h : Q .normal s) : AWP P w0 m0 F0 .skip Q s := fun _ _ hc => wp_skip ⟨s, h, hc⟩
theorem qM {id : Nat} (h : Q (.exit id) s) : AWP P w0 m0 F0 (.exit id) Q s := fun _ _ hc => wp_exit ⟨s, h, hc⟩
theorem qE (h : Q .ret s) : AWP P w0 m0 F0 .ret Q s := fun _ _ hc => wp_ret ⟨s, h, hc⟩
theorem qA {x y : Code} (h : AWP P w0 m0 F0 x (thenQ (AWP P w0 m0 F0 y Q) Q) s) : AWP P w0 m0 F0 (.seq x y) Q s := by
  intro a w hc
  refine wp_seq (wp_mono (h a w hc) fun e a' w' he => ?_)
  obtain ⟨s', h1, h2⟩ := he
  cases e with
  | normal => exact h1 a' w' h2
  | _ => exact ⟨s', h1, h2⟩
theorem AWP.cond {c : Operand} {x y : Code} {b : Bool} (hb : boolOf (evalO T s 0 c) = some b) (h1 : b = true → AWP P w0 m0 F0 x Q s) (h2 : b = false → AWP P w0 m0 F0 y Q s) : AWP P w0 m0 F0 (.cond c x y) Q s := by
  intro a w hc
  obtain ⟨m, ω, h⟩ := hc
  have he : a.eval c = .bool b := bool_of h (boolOf_some hb)
  exact wp_cond_split he (fun e => h1 e a w ⟨m, ω, h⟩) (fun e => h2 e a w ⟨m, ω, h⟩)
theorem qC {id : Nat} {c : Code} (h : AWP P w0 m0 F0 c (blockQ id Q) s) : AWP P w0 m0 F0 (.block id c) Q s := by
  intro a w hc
  refine wp_block (wp_mono (h a w hc) fun e a' w' he => ?_)
  obtain ⟨s', h1, h2⟩ := he
  cases e with
  | exit id' =>
    simp only [blockQ] at h1
    simp only [Exit.inBlock]
    split at h1
    · rename_i hid; rw [if_pos hid]; exact ⟨s', h1, h2⟩
    · rename_i hid; rw [if_neg hid]; exact ⟨s', h1, h2⟩
  | _ => exact ⟨s', h1, h2⟩
theorem AWP.loop {ι : Type} {c : Code} (I : ι → St) (μ : ι → Nat) (i0 : ι) (h0 : St.le (I i0) s)
    (round : ∀ i, AWP P w0 m0 F0 c (thenQ (fun s' => ∃ j, μ j < μ i ∧ St.le (I j) s') Q) (I i)) : AWP P w0 m0 F0 (.loop c) Q s := by
  intro a w hc
  have key : ∀ n i a w, μ i = n → Conc P w0 m0 F0 (I i) a w → ∀ (b : Frame) (k : List Item) (cs : List Frame),
      ∃ e a' w', PostQ P w0 m0 F0 Q e a' w' ∧ Arrives P (lone (b.at a (.code c :: .inLoop c :: k)) cs w) b k cs e a' w' := by
    intro n
    induction n using Nat.strongRecOn with
    | _ n ih =>
      intro i a w hn hC b k cs
      obtain ⟨e, a₁, w₁, ⟨s1, hq, hc1⟩, harr⟩ := round i a w hC b (.inLoop c :: k) cs
      cases e with
      | normal =>
        obtain ⟨j, hlt, hle⟩ := hq
        obtain ⟨e₂, a₂, w₂, hq₂, harr₂⟩ := ih (μ j) (hn ▸ hlt) j a₁ w₁ rfl (hc1.le hle) b k cs
        exact ⟨e₂, a₂, w₂, hq₂, .of_steps (Steps.trans harr (.one step_inLoop)) harr₂⟩
      | exit id => exact ⟨_, a₁, w₁, ⟨s1, hq, hc1⟩, .pass (x := .inLoop c) rfl (fun _ _ => .inl (by simp)) harr⟩
      | goto l => exact ⟨_, a₁, w₁, ⟨s1, hq, hc1⟩, .pass (x := .inLoop c) rfl (fun _ _ => .inl (by simp)) harr⟩
      | ret => exact ⟨_, a₁, w₁, ⟨s1, hq, hc1⟩, .pass (x := .inLoop c) rfl (fun _ _ => .inl (by simp)) harr⟩
      | panic ch => exact ⟨_, a₁, w₁, ⟨s1, hq, hc1⟩, .pass (x := .inLoop c) rfl (fun _ _ => .inl (by simp)) harr⟩
      | outgrown => exact ⟨_, a₁, w₁, ⟨s1, hq, hc1⟩, .pass (x := .inLoop c) rfl (fun _ _ => .inl (by simp)) harr⟩
  intro b k cs
  obtain ⟨e, a', w', hq, harr⟩ := key _ i0 a w rfl (hc.le h0) b k cs
  exact ⟨e, a', w', hq, .of_steps (.one step_loop) harr⟩
theorem AWP.region0 (hT : TabOk P T) {id : Nat} {ops : Array Oper} {l : List Oper} (hl : ops.toList = l) (h : VOps P T ops l s (Q .normal)) : AWP P w0 m0 F0 (.region id ops false) Q s := by
  intro a w hc
  refine wp_region ?_
  have := VOps_sound hT (K := Q .normal) (Q := PostQ P w0 m0 F0 Q) (fun s a w h1 h2 => ⟨s, h1, h2⟩) l 0 s a w (by simpa using hl) h hc
  have hlen : l.length = ops.size := by rw [← hl]; simp
  rwa [← List.range_eq_range', hlen] at this
theorem AWP.region (hT : TabOk P T) {id : Nat} {ops : Array Oper} {l : List Oper} (hl : ops.toList = l) (h : ∀ K : St → Prop, (∀ s', Q .normal s' → K s') → VOps P T ops l s K) : AWP P w0 m0 F0 (.region id ops false) Q s :=
  AWP.region0 hT hl (h _ fun _ h => h)
end rules
end
end Go.Bw
