/-
  THE LAYER, 10: append.
-/
import Derived.Test.YtinlgpgdinnefaaB9
set_option linter.unusedSimpArgs false
set_option linter.unusedVariables false
namespace Go.Bw
open Go.RowKit

section
variable {P : Program} {w0 : World} {m0 : Mem} {s s' : St} {a : Act} {w w' : World} {m : Mem} {ω : Wh} {F0 : Home} {T : TypeId → Option TI}

theorem run_append_room' (t ty e e' : TypeId) (i : TypeInfo) (ht : P.underlying t = some (.slice e)) (hi : P.info? e = some i)
    (g sLen sCap : Nat) (cur : Array Value) (hg : w.heap[g]? = some (.cells cur e' (0, 0)))
    (ad : Addr) (k c : Nat) (news : List Value) (hl : news.length = k * i.size) (hnews : ∀ j u, news[j]? = some u → w.cell? (ad.add j) = some u) (h1 : ∀ u ∈ news, u.oneCell' = true)
    (hroom : sLen + k ≤ sCap) (hfit : sLen * i.size + news.length ≤ cur.size) :
    (Builtin.append_ #[t, t] ty #[.slice (some ⟨g, 0, none⟩) sLen sCap, .slice (some ad) k c]).run P w =
      .ok (.slice (some ⟨g, 0, none⟩) (sLen + k) sCap) (w.setRow g (cur.toList.take (sLen * i.size) ++ news ++ cur.toList.drop (sLen * i.size + news.length)).toArray) := by
  have hf := run_firstCells_some (P := P) w i.size k ad k c news hl hnews
  have hst := run_storeCells_at P g (sLen * i.size) e' news 0 cur w hg (by simpa using hfit) h1
  simp only [Nat.add_zero] at hst
  simp [Builtin.append_, run_underlying ht, sizeOf, typeInfo, hi, Builtin.lenOf, hroom, hf, Addr.add_lit, hst]

theorem cellOf_append {xs ys : List (List L)} {i j : Nat} {u : L} (h : cellOf (xs ++ ys) i j = some u) : (i < xs.length ∧ cellOf xs i j = some u) ∨ (xs.length ≤ i ∧ cellOf ys (i - xs.length) j = some u) := by
  unfold cellOf at h ⊢
  by_cases hi : i < xs.length
  · rw [List.getElem?_append_left hi] at h
    exact .inl ⟨hi, h⟩
  · rw [List.getElem?_append_right (by omega)] at h
    exact .inr ⟨by omega, h⟩


/-- Where the slice that is appended to comes from: it is nil, or it lies at the head of an own row. -/
inductive Dst (s : St) : L → Nat → List (List L) → Option Nat → Prop
  | nil (z sz : Nat) : Dst s (.nil z) sz [] none
  | ref (id n : Nat) (r : RowC) (hb : look s.row id = some r) (hov : r.ov = []) (hn : n ≤ r.xs.length) : Dst s (.ref id 0 n) r.sz (r.xs.take n) (some id)

def St.appended (s : St) (src : Option Nat) (d sz : Nat) (xs : List (List L)) (ov : List (Nat × Nat × L)) : St :=
  (s.newRow0 src d ⟨sz, xs, ov⟩).put d (.v (.one (.ref d 0 xs.length)))

theorem newRow0_n (src : Option Nat) (d : Nat) (r : RowC) : (s.newRow0 src d r).n = s.n := by cases src <;> rfl

theorem moves_append {o : Oper} {t e : TypeId} {i j : TI} {x y : Operand} {ty : TypeId} {d sz : Nat} {l1 : L} {xs ys : List (List L)} {src : Option Nat} {z : List L} {ov : List (Nat × Nat × L)} (ho : o.op = .call { callee := .builtin .append, args := #[x, y], argTypes := #[t, t] })
    (hd : o.dst = some d) (hn : d < s.n) (hT : tiOk P t i = true) (he : i.elem = some e) (hE : tiOk P e j = true) (hz : j.zero = some z) (hsz : j.size = sz) (hzl : z.length = sz) (h : CI P w0 m0 F0 s a w m ω)
    (hx : evalO T s ty x = some (.v (.one l1))) (hs : Dst s l1 sz xs src) (hy : SliceRd m w ω (a.eval y) sz ys ov)
    (hb : (xs.length + ys.length) * j.bytes ≤ 140737488355328) (hm : xs.length + ys.length ≤ 9223372036854775807) : Moves P w0 m0 F0 o a w (s.appended src d sz (xs ++ ys) (ovShift xs.length ov)) := by
  have hu := (tiFacts hT).elem e he
  obtain ⟨inf, zv, g1, g2, g3, _⟩ := (tiFacts hE).zero z hz
  obtain ⟨inf', g4, g5, g6⟩ := (tiFacts hE).info
  rw [g1] at g4
  injection g4 with g4
  subst g4
  rw [hsz] at g5
  have hzs : zv.cells.size = sz := by
    have := (matchAll_rep (m := m) zv.cells.toList z g3).1
    simpa [hzl] using this
  obtain ⟨q, hq⟩ := run_call_builtin (P := P) (a := a) (w := w) ho
  have hv1 : ERep m ω (a.eval x) l1 := evalO_sound h hx
  generalize hax : a.eval x = v1 at *
  generalize hay : a.eval y = v2 at *
  have hrun : (execOp a.eval o).run P w = ((Builtin.append_ #[t, t] o.type #[v1, v2]).run P w).andThen fun v w' => .ok (.value v) w' := by
    rw [hq]
    simp only [List.map_toArray, List.map_cons, List.map_nil, hax, hay, builtin, Sem.run_bind, Sem.run_pure]
  have hmaxw : maxLen = 9223372036854775807 := rfl
  obtain ⟨A2, c2, rfl, hc2, hys, hnone, hnews⟩ := hy
  -- the end, alike on all ways
  have fin : ∀ (v' : Value) (w' : World) (ri : RowI) (Fd : Nat → Prop), (Builtin.append_ #[t, t] o.type #[v1, .slice A2 ys.length c2]).run P w = .ok v' w' →
      (Below w.heap.size w w' ∨ ∃ b id, src = some id ∧ s.live true id ∧ ω.f true id b ∧ w.grownBy w' (some b)) →
      (∀ k, Fd k → (∃ id, src = some id ∧ s.live true id ∧ ω.f true id k) ∨ (w.heap.size ≤ k ∧ k < w'.heap.size)) →
      RowRepG m w' ω ri Fd ⟨sz, xs ++ ys, ovShift xs.length ov⟩ → RefAt ri 0 (xs ++ ys).length v' → Moves P w0 m0 F0 o a w (s.appended src d sz (xs ++ ys) (ovShift xs.length ov)) := by
    intro v' w' ri Fd hr hw hF hR hv'
    refine gives_of_run (v := v') (w' := w') (by rw [hrun, hr]; rfl) ?_
    obtain ⟨ω', hC, hri, _⟩ := h.rowNew src d hn ri Fd hw hF hR
    rw [hd]
    exact ⟨m, ω', hC.put (by rw [newRow0_n]; exact hn) (by show RefAt (ω'.row d) 0 _ v'; rw [hri]; exact hv')⟩
  -- a new row: whatever was there before
  have grown : ∀ (olds news : List Value) (old : Nat) (Fd : Nat → Prop) (G : Nat → Nat → Nat → Prop), olds.length = xs.length * sz → news.length = ys.length * sz → (∀ x ∈ xs, x.length = sz) →
      (∀ k, Fd k → ∃ id, src = some id ∧ s.live true id ∧ ω.f true id k) → (∀ i j k, G i j k → Fd k) → (∀ i j i' j' k, G i j k → G i' j' k → i = i' ∧ j = j') →
      (∀ i j u, cellOf xs i j = some u → ∃ v, olds[i * sz + j]? = some v ∧ CRep m w (G i j) v u) →
      (∀ i j u, cellOf ys i j = some u → ∃ v, news[i * sz + j]? = some v ∧ RCell m w ω (fun _ => False) v u (ovGet ov i j)) → old < xs.length + ys.length →
      (Builtin.append_ #[t, t] o.type #[v1, .slice A2 ys.length c2]).run P w = .ok (.slice (some ⟨w.heap.size, 0, none⟩) (xs.length + ys.length) (grownCap w (xs.length + ys.length) old e))
        (w.drew.alloc (.cells (olds.toArray ++ news.toArray ++ Builtin.zeroCells zv.cells (grownCap w (xs.length + ys.length) old e - (xs.length + ys.length))) e)) →
      Moves P w0 m0 F0 o a w (s.appended src d sz (xs ++ ys) (ovShift xs.length ov)) := by
    intro olds news old Fd G ho' hnw hxs hFd hG hGD h1 h2 hlt hr
    have hge := grownCap_ge w (xs.length + ys.length) old e
    have hcm : grownCap w (xs.length + ys.length) old e ≤ maxLen := grownCap_le_maxLen w _ old e (by rw [hmaxw]; exact hm)
    have hbl : Below w.heap.size w (w.drew.alloc (.cells (olds.toArray ++ news.toArray ++ Builtin.zeroCells zv.cells (grownCap w (xs.length + ys.length) old e - (xs.length + ys.length))) e)) :=
      ((Below.refl _ w).drew).alloc (Nat.le_refl _) _
    have hh : (w.drew.alloc (.cells (olds.toArray ++ news.toArray ++ Builtin.zeroCells zv.cells (grownCap w (xs.length + ys.length) old e - (xs.length + ys.length))) e)).heap[w.heap.size]? = _ := heap_alloc_new w.drew _
    have hsize : w.heap.size < (w.drew.alloc (.cells (olds.toArray ++ news.toArray ++ Builtin.zeroCells zv.cells (grownCap w (xs.length + ys.length) old e - (xs.length + ys.length))) e)).heap.size := (Array.getElem?_eq_some_iff.1 hh).1
    have hold : ∀ k, Fd k → k < w.heap.size := fun k hk => by
      obtain ⟨id, _, hl, hk⟩ := hFd k hk
      exact (h.fresh true id hl k hk).1
    refine fin _ _ ⟨some w.heap.size, grownCap w (xs.length + ys.length) old e, sz⟩ (fun k => Fd k ∨ k = w.heap.size) hr (.inl hbl) (fun k hk => ?_) ⟨rfl, fun x hx => ?_, ?_⟩ (.inr ⟨w.heap.size, ⟨w.heap.size, 0, none⟩, rfl, by simp; omega, by simp, fun _ => by simp⟩)
    · rcases hk with hk | rfl
      · exact .inl (hFd k hk)
      · exact .inr ⟨Nat.le_refl _, hsize⟩
    · rcases List.mem_append.1 hx with hx | hx
      · exact hxs x hx
      · exact hys x hx
    · refine ⟨_, e, hh, ?_, by simpa using hge, hcm, .inr rfl, G, (fun i j k hk => ⟨.inl (hG i j k hk), fun e => ?_⟩), hGD, fun i j u hu => ?_⟩
      · simp only [Array.size_append, List.size_toArray, size_zeroCells, hzs, ho', hnw, ← Nat.add_mul]
        congr 1
        omega
      · have := hold k (hG i j k hk)
        omega
      · simp only at hu
        have hszr : (⟨sz, xs ++ ys, ovShift xs.length ov⟩ : RowC).sz = sz := rfl
        rw [hszr]
        rcases cellOf_append hu with ⟨hi, hu⟩ | ⟨hi, hu⟩
        · obtain ⟨v, h3, h4⟩ := h1 i j u hu
          refine ⟨v, ?_, ?_⟩
          · have hlt' : i * sz + j < olds.length := (List.getElem?_eq_some_iff.1 h3).1
            rw [Array.getElem?_append_left (by simp; omega), Array.getElem?_append_left (by simpa using hlt')]
            simpa using h3
          · rw [ovGet_shift, if_neg (by omega)]
            exact CRep.keep (Mem.le_refl m) h4 fun k hk => hbl.block k (hold k (hG i j k hk))
        · obtain ⟨v, h3, h4⟩ := h2 _ j u hu
          refine ⟨v, ?_, ?_⟩
          · have hlt' := (List.getElem?_eq_some_iff.1 h3).1
            have he1 : i * sz + j - olds.length = (i - xs.length) * sz + j := by
              rw [ho', Nat.sub_mul]
              have : xs.length * sz ≤ i * sz := Nat.mul_le_mul_right _ hi
              omega
            have hge' : olds.length ≤ i * sz + j := by
              rw [ho']
              have : xs.length * sz ≤ i * sz := Nat.mul_le_mul_right _ hi
              omega
            rw [Array.getElem?_append_left (by simp; omega), Array.getElem?_append_right (by simpa using hge')]
            simp only [List.size_toArray, he1]
            simpa using h3
          · rw [ovGet_shift, if_pos hi]
            exact (h4.noOwnF (fun _ => False) (G i j)).keep (Mem.le_refl m) fun k hk => hbl.block k (hold k (hG i j k hk))
  -- onto nil
  have onnil : ∀ (_ : v1 = .slice none 0 0) (_ : xs = []), Moves P w0 m0 F0 o a w (s.appended src d sz (xs ++ ys) (ovShift xs.length ov)) := by
    intro e1 e2
    subst e1 e2
    rcases Nat.eq_zero_or_pos ys.length with h0 | h0
    · have hy0 : ys = [] := List.eq_nil_of_length_eq_zero h0
      subst hy0
      have hrun0 : (Builtin.append_ #[t, t] o.type #[.slice none 0 0, .slice A2 0 c2]).run P w = .ok (.slice none 0 0) w := by
        cases A2 with
        | none => simp [Builtin.append_, run_underlying hu, sizeOf, typeInfo, g1, Builtin.lenOf, Builtin.firstCells]
        | some ad2 => simp [Builtin.append_, run_underlying hu, sizeOf, typeInfo, g1, Builtin.lenOf, Builtin.firstCells, loadCells, loadCellsFrom]
      exact fin _ w ⟨none, 0, sz⟩ (fun _ => False) hrun0 (.inl (Below.refl _ _)) (fun k hk => hk.elim) ⟨rfl, fun x hx => by simp at hx, rfl, rfl⟩ (.inl ⟨rfl, rfl, rfl, rfl⟩)
    · cases A2 with
      | none => rw [hnone rfl] at h0; simp at h0
      | some ad2 =>
        obtain ⟨news, hnl, hnc, hn1, hnr⟩ := hnews ad2 rfl
        have hr := run_append_nil (P := P) w t o.type e inf zv hu g1 g2 ad2 ys.length c2 news (by rw [g5]; exact hnl) hnc h0 (by simp only [List.length_nil, Nat.zero_add] at hm; omega) (by simp only [List.length_nil, Nat.zero_add] at hb; rw [g6]; omega)
        refine grown [] news 0 (fun _ => False) (fun _ _ _ => False) (by simp) hnl (fun x hx => by cases hx) (fun k hk => hk.elim) (fun i j k hk => hk) (fun i j i' j' k hk => hk.elim) (fun i j u hu' => by simp [cellOf] at hu') hnr (by simp; omega) ?_
        simp only [List.length_nil, Nat.zero_add]
        rw [hr]
        simp
  cases hs with
  | nil z sz =>
    have hv1 : Rep m v1 (.nil z) := hv1
    cases hv1
    exact onnil rfl rfl
  | ref id n r hrow hov hnr' =>
    rcases hv1 with ⟨_, _, rfl, rfl⟩ | ⟨b, ad, k1, k2, rfl, k4⟩
    · exact onnil rfl (by simp)
    · have had := k4 (.inr rfl)
      have hlive : s.live true id := by show (look s.row id).isSome; rw [hrow]; rfl
      obtain ⟨q1, q2, q3⟩ := h.row id r hrow
      simp only [Nat.zero_mul] at had
      subst had
      have hlx : (r.xs.take n).length = n := by simp; omega
      obtain ⟨cur, e', G, p1, p2, p3, p4, p5, olds, p6, p7, p8, p9⟩ := row_flat h hrow k1 (lo := 0) (n := n) (by omega)
      simp only [List.drop_zero, Nat.zero_mul, Nat.zero_add] at p7 p9
      have hxs : ∀ x ∈ r.xs.take n, x.length = r.sz := fun x hx => q2 x (List.mem_of_mem_take hx)
      have hcap : (ω.row id).cap ≤ maxLen := by
        rw [k1] at q3
        obtain ⟨_, _, _, _, _, q4, _⟩ := q3
        exact q4
      have holds : ∀ i j u, cellOf (r.xs.take n) i j = some u → ∃ v, olds[i * r.sz + j]? = some v ∧ CRep m w (G i j) v u := by
        intro i j u hu
        obtain ⟨v, h3, h4⟩ := p9 i j u hu
        rw [hov] at h4
        exact ⟨v, h3, h4⟩
      rw [hlx] at hb hm ⊢
      simp only [Nat.sub_zero] at *
      -- in place
      have inplace : ∀ (news : List Value) (w' : World) (cs' : Array Value), news.length = ys.length * r.sz → n + ys.length ≤ (ω.row id).cap → w'.heap[b]? = some (.cells cs' e' (0, 0)) → w.grownBy w' (some b) → cs'.size = cur.size →
          (∀ k, cs'[k]? = if n * r.sz ≤ k ∧ k < n * r.sz + news.length then news[k - n * r.sz]? else cur[k]?) →
          (∀ i j u, cellOf ys i j = some u → ∃ v, news[i * r.sz + j]? = some v ∧ RCell m w ω (fun _ => False) v u (ovGet ov i j)) →
          (Builtin.append_ #[t, t] o.type #[.slice (some ⟨b, 0, none⟩) n (ω.row id).cap, .slice A2 ys.length c2]).run P w = .ok (.slice (some ⟨b, 0, none⟩) (n + ys.length) (ω.row id).cap) w' →
          Moves P w0 m0 F0 o a w (s.appended (some id) d r.sz (r.xs.take n ++ ys) (ovShift n ov)) := by
        intro news w' cs' hnl hroom hhw hg hcs hget hnr hr
        have := fin _ w' (ω.row id) (ω.f true id) hr (.inr ⟨b, id, rfl, hlive, p5, hg⟩) (fun k hk => .inl ⟨id, rfl, hlive, hk⟩) ⟨q1, fun x hx => ?_, ?_⟩ (.inr ⟨b, ⟨b, 0, none⟩, k1, by simp; omega, by simp [hlx], fun _ => by simp⟩)
        · rw [hlx] at this
          exact this
        · rcases List.mem_append.1 hx with hx | hx
          · exact hxs x hx
          · exact hys x hx
        · rw [k1]
          refine ⟨cs', e', hhw, by rw [hcs]; exact p2, by simp; omega, hcap, p5, (fun i j k => i < n ∧ G i j k), (fun i j k hk => p3 i j k hk.2), (fun i j i' j' k hk hk' => p4 i j i' j' k hk.2 hk'.2), fun i j u hu => ?_⟩
          simp only at hu
          have hszr : (⟨r.sz, r.xs.take n ++ ys, ovShift (r.xs.take n).length ov⟩ : RowC).sz = r.sz := rfl
          rw [hszr, hlx]
          rw [hget]
          rcases cellOf_append hu with ⟨hi, hu⟩ | ⟨hi, hu⟩
          · rw [hlx] at hi
            obtain ⟨v, h3, h4⟩ := holds i j u hu
            have hlt : i * r.sz + j < n * r.sz := by rw [← p6]; exact (List.getElem?_eq_some_iff.1 h3).1
            rw [if_neg (by omega)]
            refine ⟨v, ?_, ?_⟩
            · rw [p7, List.getElem?_take, if_pos hlt] at h3
              simpa using h3
            · rw [ovGet_shift, if_neg (by omega)]
              refine CRep.keep (Mem.le_refl m) (h4.sub (F' := fun k => i < n ∧ G i j k) fun k hk => ⟨hi, hk⟩) fun k hk => hg.block k (h.fresh true id hlive k (p3 i j k hk.2).1).1 fun e => ?_
              injection e with e
              exact (p3 i j k hk.2).2 e
          · rw [hlx] at hi hu
            obtain ⟨v, h3, h4⟩ := hnr _ j u hu
            have hlt := (List.getElem?_eq_some_iff.1 h3).1
            have hle : n * r.sz ≤ i * r.sz := Nat.mul_le_mul_right _ hi
            rw [Nat.sub_mul] at hlt h3
            rw [if_pos ⟨by omega, by omega⟩]
            refine ⟨v, by rw [← h3]; congr 1; omega, ?_⟩
            rw [ovGet_shift, if_pos hi]
            refine (h4.noOwnF (fun _ => False) (fun k => i < n ∧ G i j k)).keep (Mem.le_refl m) fun k hk => ?_
            exact absurd hk.1 (by omega)
      cases A2 with
      | none =>
        have hy0 := hnone rfl
        subst hy0
        have hrun0 : (Builtin.append_ #[t, t] o.type #[.slice (some ⟨b, 0, none⟩) n (ω.row id).cap, .slice none 0 c2]).run P w = .ok (.slice (some ⟨b, 0, none⟩) n (ω.row id).cap) w := by
          have : n ≤ (ω.row id).cap := by omega
          simp [Builtin.append_, run_underlying hu, sizeOf, typeInfo, g1, Builtin.lenOf, Builtin.firstCells, this, storeCells]
        exact inplace [] w cur (by simp) (by simp; omega) p1 ⟨rfl, rfl, rfl, Nat.le_refl _, fun _ _ _ => rfl⟩ rfl (fun k => by rw [if_neg (by simp)]) (fun i j u hu => by simp [cellOf] at hu) hrun0
      | some ad2 =>
        obtain ⟨news, hnl, hnc, hn1, hnr⟩ := hnews ad2 rfl
        by_cases hroom : n + ys.length ≤ (ω.row id).cap
        · have hfit : n * r.sz + news.length ≤ cur.size := by rw [hnl, p2, ← Nat.add_mul]; exact Nat.mul_le_mul_right _ hroom
          have hr := run_append_room' (P := P) (w := w) t o.type e e' inf hu g1 b n (ω.row id).cap cur p1 ad2 ys.length c2 news (by rw [g5]; exact hnl) hnc hn1 hroom (by rw [g5]; exact hfit)
          rw [g5] at hr
          exact inplace news _ _ hnl hroom (setRow_heap w b cur _ e' _ p1) (grownBy_setRow w b _) (store_size hfit) (fun k => store_get hfit k) hnr hr
        · have hr := run_append_grow (P := P) w t o.type e inf zv hu g1 g2 ⟨b, 0, none⟩ n (ω.row id).cap olds (by rw [g5]; exact p6) (fun j u hj => by
            rw [cell_row p1]
            have hlt : j < n * r.sz := by rw [← p6]; exact (List.getElem?_eq_some_iff.1 hj).1
            rw [p7, List.getElem?_take, if_pos hlt] at hj
            simpa using hj) ad2 ys.length c2 news (by rw [g5]; exact hnl) hnc (by omega) (by omega) (growslice_fits (by omega) (by rw [g6]; exact hb))
          have := grown olds news (ω.row id).cap (fun k => ω.f true id k ∧ k ≠ b) (fun i j k => i < n ∧ G i j k) (by rw [hlx]; exact p6) hnl hxs (fun k hk => ⟨id, rfl, hlive, hk.1⟩) (fun i j k hk => p3 i j k hk.2) (fun i j i' j' k hk hk' => p4 i j i' j' k hk.2 hk'.2) (fun i j u hu => by
            obtain ⟨v, h3, h4⟩ := holds i j u hu
            refine ⟨v, h3, h4.sub fun k hk => ⟨?_, hk⟩⟩
            unfold cellOf at hu
            rw [List.getElem?_take] at hu
            split at hu
            · assumption
            · simp at hu) hnr (by rw [hlx]; omega) (by rw [hlx]; exact hr)
          rw [hlx] at this
          exact this
end
end Go.Bw
