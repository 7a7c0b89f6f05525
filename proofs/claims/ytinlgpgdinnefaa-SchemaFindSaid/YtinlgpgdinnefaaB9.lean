/-
  THE LAYER, 9: new rows; append.
-/
import Derived.Test.YtinlgpgdinnefaaB8
set_option linter.unusedSimpArgs false
set_option linter.unusedVariables false
namespace Go.Bw
open Go.RowKit

section
variable {P : Program} {w0 : World} {m0 : Mem} {s s' : St} {a : Act} {w w' : World} {m : Mem} {ω : Wh} {F0 : Home} {T : TypeId → Option TI}

theorem noRow_live {id : Nat} {κ : Bool} {i : Nat} (h : (s.noRow id).live κ i) : s.live κ i ∧ ¬ (κ = true ∧ i = id) := by
  cases κ with
  | false =>
    simp only [St.live] at h ⊢
    obtain ⟨x, hx⟩ := Option.isSome_iff_exists.1 h
    obtain ⟨y, hy, _⟩ := map_look hx
    exact ⟨by rw [hy]; rfl, fun e => by cases e.1⟩
  | true =>
    simp only [St.live] at h ⊢
    obtain ⟨x, hx⟩ := Option.isSome_iff_exists.1 h
    obtain ⟨y, hy, _⟩ := map_look hx
    rw [look_del] at hy
    split at hy
    · cases hy
    · rename_i hne; exact ⟨by rw [hy]; rfl, fun e => hne e.2⟩
def St.killRow (s : St) : Option Nat → St
  | none => s
  | some id => s.noRow id
def L.kill : Option Nat → L → L
  | none, l => l
  | some id, l => l.noRow id
def RowC.kill : Option Nat → RowC → RowC
  | none, r => r
  | some id, r => r.map (L.noRow id)
def St.newRow0 (s : St) (src : Option Nat) (d : Nat) (r : RowC) : St :=
  { (s.killRow src).noRow d with row := (d, (r.kill src).map (L.noRow d)) :: ((s.killRow src).noRow d).row }

theorem CI.rowNew (h : CI P w0 m0 F0 s a w m ω) (src : Option Nat) (d : Nat) (hd : d < s.n) (ri : RowI) (Fd : Nat → Prop) {r : RowC}
    (hw : Below w.heap.size w w' ∨ ∃ b id, src = some id ∧ s.live true id ∧ ω.f true id b ∧ w.grownBy w' (some b))
    (hF : ∀ k, Fd k → (∃ id, src = some id ∧ s.live true id ∧ ω.f true id k) ∨ (w.heap.size ≤ k ∧ k < w'.heap.size))
    (hR : RowRepG m w' ω ri Fd r) :
    ∃ ω', CI P w0 m0 F0 (s.newRow0 src d r) a w' m ω' ∧ ω'.row d = ri ∧ ∀ v l, ERep m ω v l → ERep m ω' v ((l.kill src).noRow d) := by
  have hwle : w.heap.size ≤ w'.heap.size := by
    rcases hw with hw | ⟨b, id, _, _, _, hw⟩
    · exact hw.size
    · exact hw.size
  -- the source is dropped
  have k1 : ∃ ω1, CI P w0 m0 F0 (s.killRow src) a w m ω1 ∧ (∀ v l, ERep m ω v l → ERep m ω1 v (l.kill src)) ∧ (∀ κ i, (s.killRow src).live κ i → s.live κ i ∧ ω1.f κ i = ω.f κ i ∧ ∀ id, src = some id → ¬ (κ = true ∧ i = id)) ∧ RowRepG m w' ω1 ri Fd (r.kill src) := by
    cases src with
    | none => exact ⟨ω, h, fun _ _ h => h, fun κ i hl => ⟨hl, rfl, fun id e => by cases e⟩, hR⟩
    | some id =>
      refine ⟨_, h.noRow id (ω.row id) (ω.f true id), fun v l hl => ?_, fun κ i hl => ?_, ?_⟩
      · refine noRow_e (ω := ω) (fun i hi => ?_) ?_ hl
        · simp [upd, hi]
        · rfl
      · obtain ⟨h1, h2⟩ := noRow_live hl
        exact ⟨h1, by simp only [if_neg h2], fun id' e => by injection e with e; subst e; exact h2⟩
      · refine RowRepG.remap (ω := ω) ⟨Mem.le_refl m, fun v l hl => ?_, fun _ _ => rfl⟩ hR
        refine noRow_e (ω := ω) (fun i hi => ?_) ?_ hl
        · simp [upd, hi]
        · rfl
  obtain ⟨ω1, h1, e1, l1, r1⟩ := k1
  have h2 := h1.noRow d ri Fd
  have hlive : ∀ κ i, ((s.killRow src).noRow d).live κ i → s.live κ i ∧ (∀ id, src = some id → ¬ (κ = true ∧ i = id)) ∧ (if κ = true ∧ i = d then Fd else ω1.f κ i) = ω.f κ i := by
    intro κ i hl
    obtain ⟨g1, g2⟩ := noRow_live hl
    obtain ⟨g3, g4, g5⟩ := l1 κ i g1
    exact ⟨g3, g5, by rw [if_neg g2]; exact g4⟩
  have h3 : CI P w0 m0 F0 ((s.killRow src).noRow d) a w' m { box := ω1.box, row := upd ω1.row d ri, f := fun κ i => if κ = true ∧ i = d then Fd else ω1.f κ i } := by
    rcases hw with hw | ⟨b, id, hs, hl, hb, hw⟩
    · refine h2.grow hw (Mem.le_refl m) (fun _ _ => rfl) (fun x v hx => ?_)
      rw [hw.cell (World.block_lt_of_cell? w x (h.ok x v hx))]
      exact h.ok x v hx
    · have hf := h.fresh true id hl b hb
      refine h2.touch hw hf.2.1 (fun κ i hl' hk => ?_) hf.2.2
      obtain ⟨g1, g2, g3⟩ := hlive κ i hl'
      have hk' : ω.f κ i b := by rw [← g3]; exact hk
      exact g2 id hs (h.apart κ i true id g1 hl b hk' hb)
  refine ⟨_, h3.addRow d ((r.kill src).map (L.noRow d)) (noRow_none _ d) (fun b hb => by have := (h.home.big d (.inr (by rw [hb]; rfl))).1; omega) ?_ ?_ ?_, by simp [upd], fun v l hl => ?_⟩
  · have hRR : RowRepG m w' { box := ω1.box, row := upd ω1.row d ri, f := fun κ i => if κ = true ∧ i = d then Fd else ω1.f κ i } ri Fd ((r.kill src).map (L.noRow d)) := by
      refine RowRepG.remap (ω := ω1) ⟨Mem.le_refl m, fun v l hl => ?_, fun _ _ => rfl⟩ r1
      refine noRow_e (ω := ω1) (fun i hi => ?_) ?_ hl
      · simp [upd, hi]
      · rfl
    have e2 : (upd ω1.row d ri) d = ri := by simp [upd]
    have e3 : (fun (κ : Bool) (i : Nat) => if κ = true ∧ i = d then Fd else ω1.f κ i) true d = Fd := by simp
    unfold RowRep
    simp only [e2, e3]
    exact hRR
  · intro k hk
    simp only [true_and, if_true] at hk
    rcases hF k hk with ⟨id, hs, hl, hk⟩ | ⟨g1, g2⟩
    · obtain ⟨g1, g2, g3⟩ := h.fresh true id hl k hk
      exact ⟨Nat.lt_of_lt_of_le g1 hwle, g2, g3⟩
    · refine ⟨g2, .inl (Nat.le_trans h.keeps.size g1), fun x v hx he => ?_⟩
      rw [m_lt h.ok (by omega)] at hx
      cases hx
  · intro κ i hl k hk hk'
    obtain ⟨g1, g2, g3⟩ := hlive κ i hl
    have hk : ω.f κ i k := by rw [← g3]; exact hk
    simp only [true_and, if_true] at hk'
    rcases hF k hk' with ⟨id, hs, hl', hk''⟩ | ⟨g4, _⟩
    · exact g2 id hs (h.apart κ i true id g1 hl' k hk hk'')
    · have := (h.fresh κ i g1 k hk).1
      omega
  · refine noRow_e (ω := ω1) (fun i hi => ?_) ?_ (e1 v l hl)
    · simp [upd, hi]
    · rfl

/-! ### slices that are read -/
def ovShift (n : Nat) : List (Nat × Nat × L) → List (Nat × Nat × L)
  | [] => []
  | p :: r => (n + p.1, p.2.1, p.2.2) :: ovShift n r
theorem ovGet_shift (n : Nat) : ∀ (ov : List (Nat × Nat × L)) (i j : Nat), ovGet (ovShift n ov) i j = if n ≤ i then ovGet ov (i - n) j else none
  | [], i, j => by simp [ovShift, ovGet]
  | (p, q, l) :: r, i, j => by
    simp only [ovShift, ovGet]
    rw [ovGet_shift n r]
    by_cases hi : n ≤ i
    · rw [if_pos hi]
      by_cases h1 : n + p = i ∧ q = j
      · rw [if_pos h1, if_pos hi, if_pos ⟨by omega, h1.2⟩]
      · rw [if_neg h1, if_pos hi, if_neg (fun e => h1 ⟨by omega, e.2⟩)]
    · rw [if_neg hi, if_neg (fun e => hi (by omega)), if_neg hi]

/-- The slice v reads as these cells, in the world as it stands. -/
def SliceRd (m : Mem) (w : World) (ω : Wh) (v : Value) (sz : Nat) (ys : List (List L)) (ov : List (Nat × Nat × L)) : Prop :=
  ∃ A c, v = .slice A ys.length c ∧ ys.length ≤ c ∧ (∀ y ∈ ys, y.length = sz) ∧ (A = none → ys = []) ∧ ∀ ad, A = some ad → ∃ news : List Value, news.length = ys.length * sz ∧ (∀ (j : Nat) (u : Value), news[j]? = some u → w.cell? (ad.add j) = some u) ∧
    (∀ u ∈ news, u.oneCell' = true) ∧ ∀ i j u, cellOf ys i j = some u → ∃ v, news[i * sz + j]? = some v ∧ RCell m w ω (fun _ => False) v u (ovGet ov i j)

/-- The cells of a slice, one behind the other. -/
theorem flat_cells (hok : ∀ x v, m x = some v → w.cell? x = some v) {ad : Addr} {n c sz : Nat} {ys : List (List L)} (h : Rep m (.slice (some ad) n c) (.sl sz ys)) :
    n = ys.length ∧ ∃ news : List Value, news.length = n * sz ∧ (∀ (j : Nat) (u : Value), news[j]? = some u → w.cell? (ad.add j) = some u) ∧ (∀ u ∈ news, u.oneCell' = true) ∧
      ∀ i j u, cellOf ys i j = some u → ∃ v, news[i * sz + j]? = some v ∧ Rep m v u := by
  cases h with
  | sl _ _ _ _ _ vals hlen hc hz hm hr =>
    refine ⟨hlen, ?_⟩
    have hcell : ∀ q, q < n * sz → ∃ u, cellOf ys (q / sz) (q % sz) = some u := by
      intro q hq
      have hsz : 0 < sz := by
        rcases Nat.eq_zero_or_pos sz with h0 | h0
        · rw [h0] at hq; simp at hq
        · exact h0
      have h1 : q / sz < ys.length := by rw [← hlen]; exact Nat.div_lt_of_lt_mul (by rw [Nat.mul_comm]; exact hq)
      have h2 : (ys[q / sz]).length = sz := hz _ (List.getElem_mem h1)
      have h3 : q % sz < (ys[q / sz]).length := by rw [h2]; exact Nat.mod_lt _ hsz
      exact ⟨ys[q / sz][q % sz], by simp [cellOf, h1, h3]⟩
    refine ⟨List.ofFn fun q : Fin (n * sz) => vals (q / sz) (q % sz), by simp, fun j u hj => ?_, fun u hu => ?_, fun i j u hu => ?_⟩
    · rw [List.getElem?_ofFn] at hj
      split at hj
      · rename_i hlt
        injection hj with hj
        subst hj
        obtain ⟨l, hl⟩ := hcell j hlt
        have := hok _ _ (hm _ _ _ hl)
        rwa [show j / sz * sz + j % sz = j from by rw [Nat.mul_comm]; exact Nat.div_add_mod j sz] at this
      · cases hj
    · obtain ⟨q, rfl⟩ := List.mem_ofFn.1 hu
      obtain ⟨l, hl⟩ := hcell q q.2
      exact (hr _ _ _ hl).oneCell
    · have hi : i < n := by
        unfold cellOf at hu
        cases h1 : ys[i]? with
        | none => rw [h1] at hu; simp at hu
        | some x => rw [hlen]; exact (List.getElem?_eq_some_iff.1 h1).1
      have hj : j < sz := by
        unfold cellOf at hu
        cases h1 : ys[i]? with
        | none => rw [h1] at hu; simp at hu
        | some x =>
          rw [h1] at hu
          have := hz x (List.mem_of_getElem? h1)
          rw [← this]
          exact (List.getElem?_eq_some_iff.1 hu).1
      have hlt : i * sz + j < n * sz := by
        have : (i + 1) * sz ≤ n * sz := Nat.mul_le_mul_right sz hi
        rw [Nat.add_mul] at this
        omega
      refine ⟨vals i j, ?_, hr _ _ _ hu⟩
      rw [List.getElem?_ofFn, dif_pos hlt]
      have hsz : 0 < sz := by omega
      have e1 : (i * sz + j) / sz = i := by
        rw [Nat.mul_comm, Nat.mul_add_div hsz, Nat.div_eq_of_lt hj]; simp
      have e2 : (i * sz + j) % sz = j := by
        rw [Nat.mul_comm, Nat.mul_add_mod, Nat.mod_eq_of_lt hj]
      simp only [e1, e2]

theorem sliceRd_sl (hok : ∀ x v, m x = some v → w.cell? x = some v) {v : Value} {sz : Nat} {ys : List (List L)} (h : Rep m v (.sl sz ys)) : SliceRd m w ω v sz ys [] := by
  cases h with
  | slNil => exact ⟨none, 0, rfl, Nat.le_refl _, (fun y hy => by cases hy), fun _ => rfl, fun ad h => by cases h⟩
  | sl ad len cap _ _ vals hlen hc hz hm hr =>
    obtain ⟨_, news, h1, h2, h3, h4⟩ := flat_cells hok (Rep.sl (m := m) ad len cap sz ys vals hlen hc hz hm hr)
    subst hlen
    refine ⟨some ad, cap, rfl, hc, hz, (fun h => by cases h), fun ad' e => ?_⟩
    injection e with e
    subst e
    exact ⟨news, h1, h2, h3, fun i j u hu => let ⟨v, h5, h6⟩ := h4 i j u hu; ⟨v, h5, CRep.fr h6⟩⟩
theorem sliceRd_nil {v : Value} {z : Nat} (h : Rep m v (.nil z)) (sz : Nat) : SliceRd m w ω v sz [] [] := by
  cases h
  exact ⟨none, 0, rfl, Nat.le_refl _, (fun y hy => by cases hy), fun _ => rfl, fun ad h => by cases h⟩

def L.isOwn : L → Bool | .own _ _ => true | _ => false
def noOwn (xs : List (List L)) : Prop := ∀ x ∈ xs, ∀ l ∈ x, l.isOwn = false
theorem cellOf_mem {xs : List (List L)} {i j : Nat} {u : L} (h : cellOf xs i j = some u) : ∃ x ∈ xs, u ∈ x := by
  unfold cellOf at h
  cases hx : xs[i]? with
  | none => rw [hx] at h; simp at h
  | some x => rw [hx] at h; exact ⟨x, List.mem_of_getElem? hx, List.mem_of_getElem? h⟩
theorem RCell.noOwn {G : Nat → Prop} {v : Value} {u : L} {o : Option L} (h : RCell m w ω G v u o) (hu : u.isOwn = false) (G' : Nat → Prop) : RCell m w ω G' v u o := by
  cases o with
  | some l => exact h
  | none =>
    have h : CRep m w G v u := h
    cases h with
    | fr h => exact CRep.fr h
    | ownNil => cases hu
    | own => cases hu
theorem RCell.noOwnF {v : Value} {u : L} {o : Option L} (h : RCell m w ω (fun _ => False) v u o) (_ G' : Nat → Prop) : RCell m w ω G' v u o := by
  cases o with
  | some l => exact h
  | none => exact CRep.sub h fun k hk => hk.elim
theorem RCell.oneCell {G : Nat → Prop} {v : Value} {u : L} {o : Option L} (h : RCell m w ω G v u o) : v.oneCell' = true := by
  cases o with
  | some l => exact ERep.oneCell h
  | none => exact CRep.oneCell h

/-- The cells of some elements of a row. -/
theorem row_flat (h : CI P w0 m0 F0 s a w m ω) {id : Nat} {r : RowC} (hb : look s.row id = some r) {b : Nat} (hblk : (ω.row id).blk = some b) {lo n : Nat} (hn : lo + n ≤ r.xs.length) :
    ∃ (cs : Array Value) (e : TypeId) (G : Nat → Nat → Nat → Prop), w.heap[b]? = some (.cells cs e (0, 0)) ∧ cs.size = (ω.row id).cap * r.sz ∧ (∀ i j k, G i j k → ω.f true id k ∧ k ≠ b) ∧ (∀ i j i' j' k, G i j k → G i' j' k → i = i' ∧ j = j') ∧ ω.f true id b ∧
      ∃ news : List Value, news.length = n * r.sz ∧ news = (cs.toList.drop (lo * r.sz)).take (n * r.sz) ∧ (∀ u ∈ news, u.oneCell' = true) ∧ (∀ i j u, cellOf ((r.xs.drop lo).take n) i j = some u → ∃ v, news[i * r.sz + j]? = some v ∧ RCell m w ω (G (lo + i) j) v u (ovGet r.ov (lo + i) j)) := by
  obtain ⟨g1, g2, g3⟩ := h.row id r hb
  rw [hblk] at g3
  obtain ⟨cs, e, k1, k2, k3, k4, k5, G, k6, k7, k8⟩ := g3
  have hfit : lo * r.sz + n * r.sz ≤ cs.size := by
    rw [k2, ← Nat.add_mul]
    exact Nat.mul_le_mul_right _ (by omega)
  have hcell : ∀ i j u, cellOf ((r.xs.drop lo).take n) i j = some u → i < n ∧ j < r.sz ∧ cellOf r.xs (lo + i) j = some u := by
    intro i j u hu
    unfold cellOf at hu ⊢
    rw [List.getElem?_take] at hu
    split at hu
    · rename_i hi
      rw [List.getElem?_drop] at hu
      refine ⟨hi, ?_, hu⟩
      cases hx : r.xs[lo + i]? with
      | none => rw [hx] at hu; simp at hu
      | some x =>
        rw [hx] at hu
        rw [← g2 x (List.mem_of_getElem? hx)]
        exact (List.getElem?_eq_some_iff.1 hu).1
    · simp at hu
  have hget : ∀ k, ((cs.toList.drop (lo * r.sz)).take (n * r.sz))[k]? = if k < n * r.sz then cs[lo * r.sz + k]? else none := by
    intro k
    rw [List.getElem?_take]
    split
    · rw [List.getElem?_drop]; simp
    · rfl
  refine ⟨cs, e, G, k1, k2, k6, k7, k5, _, ?_, rfl, fun u hu => ?_, fun i j u hu => ?_⟩
  · simp only [List.length_take, List.length_drop, Array.length_toList]
    omega
  · obtain ⟨q, hq, rfl⟩ := List.mem_iff_getElem.1 hu
    have hq' : q < n * r.sz := by simp at hq; omega
    have hsz : 0 < r.sz := by
      rcases Nat.eq_zero_or_pos r.sz with h0 | h0
      · rw [h0] at hq'; simp at hq'
      · exact h0
    have h1 : q / r.sz < n := Nat.div_lt_of_lt_mul (by rw [Nat.mul_comm]; exact hq')
    have hlt : lo + q / r.sz < r.xs.length := by omega
    have h2 : (r.xs[lo + q / r.sz]).length = r.sz := g2 _ (List.getElem_mem hlt)
    have h3 : q % r.sz < (r.xs[lo + q / r.sz]).length := by rw [h2]; exact Nat.mod_lt _ hsz
    obtain ⟨v, h4, h5⟩ := k8 (lo + q / r.sz) (q % r.sz) (r.xs[lo + q / r.sz][q % r.sz]) (by simp [cellOf, hlt, h3])
    have h6 : (lo + q / r.sz) * r.sz + q % r.sz = lo * r.sz + q := by
      rw [Nat.add_mul, Nat.add_assoc, Nat.mul_comm (q / r.sz), Nat.div_add_mod]
    rw [h6] at h4
    have h7 := hget q
    rw [if_pos hq', h4, List.getElem?_eq_getElem hq] at h7
    injection h7 with h7
    rw [h7]
    exact h5.oneCell
  · obtain ⟨hi, hj, hu'⟩ := hcell i j u hu
    obtain ⟨v, h4, h5⟩ := k8 _ j u hu'
    refine ⟨v, ?_, h5⟩
    have hlt : i * r.sz + j < n * r.sz := by
      have : (i + 1) * r.sz ≤ n * r.sz := Nat.mul_le_mul_right r.sz hi
      rw [Nat.add_mul] at this
      omega
    rw [hget, if_pos hlt, ← h4]
    congr 1
    rw [Nat.add_mul]
    omega

theorem sliceRd_ref (h : CI P w0 m0 F0 s a w m ω) {v : Value} {id lo n : Nat} {r : RowC} (hv : RefAt (ω.row id) lo n v) (hb : look s.row id = some r) (hn : lo + n ≤ r.xs.length) (ho : noOwn r.xs) {ov : List (Nat × Nat × L)} (hov : ∀ i j, i < n → ovGet ov i j = ovGet r.ov (lo + i) j) :
    SliceRd m w ω v r.sz ((r.xs.drop lo).take n) ov := by
  obtain ⟨g1, g2, g3⟩ := h.row id r hb
  have hlen : ((r.xs.drop lo).take n).length = n := by simp; omega
  rcases hv with ⟨g0, rfl, rfl, rfl⟩ | ⟨b, ad, k1, k2, rfl, k4⟩
  · exact ⟨none, 0, rfl, by simp, by simp, fun _ => by simp, fun ad h => by cases h⟩
  · obtain ⟨cs, e, G, q1, q2, q3, q4, q5, news, q6, q7, q8, q9⟩ := row_flat h hb k1 hn
    refine ⟨some ad, _, by rw [hlen], by rw [hlen]; omega, (fun y hy => g2 y (List.mem_of_mem_drop (List.mem_of_mem_take hy))), (fun h => by cases h), fun ad' e => ?_⟩
    injection e with e
    subst e
    refine ⟨news, by rw [hlen]; exact q6, fun j u hu => ?_, q8, fun i j u hu => ?_⟩
    · have hj : j < n * r.sz := by rw [← q6]; exact (List.getElem?_eq_some_iff.1 hu).1
      have hlt : lo < (ω.row id).cap := by
        rcases Nat.eq_zero_or_pos n with h0 | h0
        · rw [h0] at hj; simp at hj
        · omega
      rw [k4 (.inl hlt), Addr.add_lit, cell_of_row w _ _ cs e (0, 0) q1, g1]
      rw [q7, List.getElem?_take, if_pos hj, List.getElem?_drop] at hu
      simpa using hu
    · obtain ⟨v, h5, h6⟩ := q9 i j u hu
      have hi : i < n := by
        unfold cellOf at hu
        rw [List.getElem?_take] at hu
        split at hu
        · assumption
        · simp at hu
      refine ⟨v, h5, ?_⟩
      rw [hov i j hi]
      have hu2 : u.isOwn = false := by
        obtain ⟨x, hx, hux⟩ := cellOf_mem hu
        exact ho x (List.mem_of_mem_drop (List.mem_of_mem_take hx)) u hux
      exact h6.noOwn hu2 _
end
end Go.Bw
