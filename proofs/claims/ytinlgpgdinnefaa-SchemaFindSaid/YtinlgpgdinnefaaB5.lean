/-
  THE LAYER, 5: reading memory; addresses; slices.
-/
import Derived.Test.YtinlgpgdinnefaaB4
set_option linter.unusedSimpArgs false
set_option linter.unusedVariables false
namespace Go.Bw
open Go.RowKit

section
variable {P : Program} {w0 : World} {m0 : Mem} {s : St} {a : Act} {w : World} {m : Mem} {ω : Wh} {F0 : Home} {T : TypeId → Option TI}

/-! ### load -/
def loadV (i : TI) (ls : List L) : Option V := if i.size ≤ ls.length then asV i.agg (ls.take i.size) else none

theorem loadV_some {i : TI} {ls : List L} {x : V} (h : loadV i ls = some x) : i.size ≤ ls.length ∧ asV i.agg (ls.take i.size) = some x := by
  unfold loadV at h
  split at h
  · exact ⟨by assumption, h⟩
  · cases h

/-- The cells of an element, the open ones as they are. -/
def overlay (ov : List (Nat × Nat × L)) (i : Nat) : Nat → List L → List L
  | _, [] => []
  | k, l :: r => ((ovGet ov i k).getD l.peek) :: overlay ov i (k + 1) r
theorem overlay_length (ov : List (Nat × Nat × L)) (i : Nat) : ∀ (k : Nat) (x : List L), (overlay ov i k x).length = x.length
  | _, [] => rfl
  | k, l :: r => by simp [overlay, overlay_length ov i (k + 1) r]
theorem overlay_get (ov : List (Nat × Nat × L)) (i : Nat) : ∀ (k : Nat) (x : List L) (j : Nat), (overlay ov i k x)[j]? = (x[j]?).map fun l => (ovGet ov i (k + j)).getD l.peek
  | _, [], j => by simp [overlay]
  | k, l :: r, 0 => by simp [overlay]
  | k, l :: r, j + 1 => by
    simp only [overlay, List.getElem?_cons_succ]
    rw [overlay_get ov i (k + 1) r j, show k + 1 + j = k + (j + 1) by omega]

theorem run_load_cells {o : Oper} {t : TypeId} {i : TI} {x : Operand} {ad : Addr} {y : V} (ho : o.op = .load t x) (hT : tiOk P t i = true) (h : CI P w0 m0 F0 s a w m ω) (had : a.eval x = .pointer (some ad)) {cs : List Value} {ls : List L} (hl : cs.length = ls.length)
    (hc : ∀ (j : Nat) (v : Value), cs[j]? = some v → w.cell? (ad.add j) = some v) (hr : ∀ (j : Nat) (l : L), ls[j]? = some l → ∃ v, cs[j]? = some v ∧ ERep m ω v l) (hy : loadV i ls = some y) : GivesA P w0 m0 F0 s o (.v y) a w ω := by
  obtain ⟨hsz, hv⟩ := loadV_some hy
  obtain ⟨v, h4, h5⟩ := run_loadAt (P := P) (w := w) (m := m) (ω := ω) hT (ad := ad) (cs := cs.take i.size) (ls := ls.take i.size) (by simp [hl]) (by rw [List.length_take]; omega)
    (fun j v hv => hc j v (by rw [List.getElem?_take] at hv; split at hv; exact hv; cases hv))
    (fun j l hl => by
      rw [List.getElem?_take] at hl
      split at hl
      · rename_i hj
        obtain ⟨v, h6, h7⟩ := hr j l hl
        exact ⟨v, by rw [List.getElem?_take, if_pos hj]; exact h6, h7⟩
      · cases hl) hv
  refine givesA_of_value h (v := v) ?_ h5
  unfold execOp
  simp only [ho, had, Sem.run_bind, Sem.run_pure, Result.andThen_ok, h4]

theorem givesA_load_fz {o : Oper} {t : TypeId} {i : TI} {x : Operand} {ty : TypeId} {ls : List L} {y : V} (ho : o.op = .load t x) (hT : tiOk P t i = true) (h : CI P w0 m0 F0 s a w m ω)
    (hx : evalO T s ty x = some (.v (.one (.fz ls)))) (hy : loadV i ls = some y) : GivesA P w0 m0 F0 s o (.v y) a w ω := by
  obtain ⟨ad, had, hf⟩ := Rep.frep (evalO_sound h hx)
  obtain ⟨cs, h1, h2, h3⟩ := cells_of_frep h.ok hf
  exact run_load_cells ho hT h had h1 h2 (fun j l hj => let ⟨v, h4, h5⟩ := h3 j l hj; ⟨v, h4, h5.erep⟩) hy

/-- What a box holds, as values in memory. -/
theorem box_cells (h : CI P w0 m0 F0 s a w m ω) {id : Nat} {ls : List L} (hb : look s.box id = some ls) (off : Nat) :
    ∃ cs : List Value, cs.length = ((ls.drop off).map L.peek).length ∧ (∀ (j : Nat) (v : Value), cs[j]? = some v → w.cell? ((⟨ω.box id, off, none⟩ : Addr).add j) = some v) ∧
      ∀ (j : Nat) (l : L), ((ls.drop off).map L.peek)[j]? = some l → ∃ v, cs[j]? = some v ∧ ERep m ω v l := by
  obtain ⟨cs, e, h1, h2, h3, G, h4, h5, h6⟩ := h.box id ls hb
  refine ⟨cs.toList.drop off, by simp [h2], fun j v hv => ?_, fun j l hl => ?_⟩
  · rw [Addr.add_lit, cell_of_row w _ _ cs e (0, 0) h1]
    simpa [List.getElem?_drop] using hv
  · rw [List.getElem?_map, List.getElem?_drop, Option.map_eq_some_iff] at hl
    obtain ⟨l0, hl, rfl⟩ := hl
    obtain ⟨v, h7, h8⟩ := h6 _ l0 hl
    exact ⟨v, by simpa [List.getElem?_drop] using h7, h8.peek⟩

theorem givesA_load_ptr {o : Oper} {t : TypeId} {i : TI} {x : Operand} {ty : TypeId} {id off : Nat} {ls : List L} {y : V} (ho : o.op = .load t x) (hT : tiOk P t i = true) (h : CI P w0 m0 F0 s a w m ω)
    (hx : evalO T s ty x = some (.v (.one (.ptr id off)))) (hb : look s.box id = some ls) (hy : loadV i ((ls.drop off).map L.peek) = some y) : GivesA P w0 m0 F0 s o (.v y) a w ω := by
  have had : a.eval x = _ := evalO_sound h hx
  obtain ⟨cs, h1, h2, h3⟩ := box_cells h hb off
  exact run_load_cells ho hT h had h1 h2 h3 hy

theorem cellOf_row {xs : List (List L)} {i : Nat} (hi : i < xs.length) (j : Nat) : cellOf xs i j = (xs.getD i [])[j]? := by
  simp [cellOf, List.getD, hi]

/-- What an element of a row holds, as values in memory. -/
theorem row_cells (h : CI P w0 m0 F0 s a w m ω) {id : Nat} {r : RowC} (hb : look s.row id = some r) {i : Nat} (hi : i < r.xs.length) (off : Nat) :
    ∃ b, (ω.row id).blk = some b ∧ (ω.row id).sz = r.sz ∧ ∃ cs : List Value, cs.length = ((overlay r.ov i 0 (r.xs.getD i [])).drop off).length ∧ (∀ (j : Nat) (v : Value), cs[j]? = some v → w.cell? ((⟨b, i * r.sz + off, none⟩ : Addr).add j) = some v) ∧
      ∀ (j : Nat) (l : L), ((overlay r.ov i 0 (r.xs.getD i [])).drop off)[j]? = some l → ∃ v, cs[j]? = some v ∧ ERep m ω v l := by
  obtain ⟨h1, h2, h3⟩ := h.row id r hb
  split at h3
  · rw [h3.1] at hi; simp at hi
  · rename_i b hblk
    obtain ⟨cs, e, g1, g2, g3, g4, g5, G, g6, g7, g8⟩ := h3
    have hlen : (r.xs.getD i []).length = r.sz := by
      rw [show r.xs.getD i [] = r.xs[i] by simp [List.getD, hi]]
      exact h2 _ (List.getElem_mem hi)
    have hfit : i * r.sz + r.sz ≤ cs.size := by
      have : (i + 1) * r.sz ≤ (ω.row id).cap * r.sz := Nat.mul_le_mul_right _ (by omega)
      rw [Nat.add_mul] at this
      omega
    refine ⟨b, hblk, h1, (cs.toList.drop (i * r.sz + off)).take (r.sz - off), ?_, fun j v hv => ?_, fun j l hl => ?_⟩
    · simp only [List.length_take, List.length_drop, Array.length_toList, overlay_length, hlen]
      omega
    · rw [List.getElem?_take] at hv
      split at hv
      · rw [Addr.add_lit, cell_of_row w _ _ cs e (0, 0) g1]
        simpa [List.getElem?_drop] using hv
      · cases hv
    · rw [List.getElem?_drop, overlay_get, Option.map_eq_some_iff] at hl
      obtain ⟨u, hu, rfl⟩ := hl
      have hj : off + j < r.sz := by rw [← hlen]; exact (List.getElem?_eq_some_iff.1 hu).1
      obtain ⟨v, g9, g10⟩ := g8 i (off + j) u (by rw [cellOf_row hi]; exact hu)
      refine ⟨v, ?_, ?_⟩
      · rw [List.getElem?_take, if_pos (by omega), List.getElem?_drop, show i * r.sz + off + j = i * r.sz + (off + j) by omega]
        simpa using g9
      · simp only [Nat.zero_add]
        cases hov : ovGet r.ov i (off + j) with
        | some q => rw [hov] at g10; exact g10
        | none =>
          rw [hov] at g10
          simp only [Option.getD_none]
          have g10 : CRep m w (G i (off + j)) v u := g10
          cases g10 with
          | fr hq =>
            cases u with
            | own => cases hq
            | _ => exact hq.erep
          | ownNil => exact Rep.any _ rfl
          | own => exact Rep.any _ rfl

theorem givesA_load_eptr {o : Oper} {t : TypeId} {i : TI} {x : Operand} {ty : TypeId} {id k off : Nat} {r : RowC} {y : V} (ho : o.op = .load t x) (hT : tiOk P t i = true) (h : CI P w0 m0 F0 s a w m ω)
    (hx : evalO T s ty x = some (.v (.one (.eptr id k off)))) (hb : look s.row id = some r) (hk : k < r.xs.length) (hy : loadV i ((overlay r.ov k 0 (r.xs.getD k [])).drop off) = some y) : GivesA P w0 m0 F0 s o (.v y) a w ω := by
  obtain ⟨b, hblk, had⟩ := evalO_sound h hx
  obtain ⟨b', hblk', hsz, cs, h1, h2, h3⟩ := row_cells h hb hk off
  rw [hblk] at hblk'
  injection hblk' with hbb
  subst hbb
  rw [hsz] at had
  exact run_load_cells ho hT h had h1 h2 h3 hy

/-! ### addresses -/
theorem run_fieldAt {t : TypeId} {i : TI} {l : List (Nat × TypeId)} {f off : Nat} {ft : TypeId} (hT : tiOk P t i = true) (hl : i.fields = some l) (hf : l[f]? = some (off, ft)) (ad : Addr) :
    (Instr.fieldAt t (.pointer (some ad)) f).run P w = .ok (.pointer (some (ad.add off))) w := by
  obtain ⟨fs, h1, h2, h3⟩ := (tiFacts hT).fields l hl
  rw [← h2, List.getElem?_map, Option.map_eq_some_iff] at hf
  obtain ⟨fd, hf, he⟩ := hf
  simp only [Prod.mk.injEq] at he
  obtain ⟨rfl, rfl⟩ := he
  obtain ⟨inf, h4, h5⟩ := h3 fd (List.mem_of_getElem? hf)
  have hf' : fs[f]? = some fd := by simpa using hf
  simp only [Instr.fieldAt, Sem.run_bind, run_underlying h1, Result.andThen_ok, hf', Instr.sureAddr, Sem.run_pure, fieldPlace, run_sizeOf h4, if_neg h5]

def fieldOff (i : TI) (f : Nat) : Option Nat := match i.fields with | some l => (match l[f]? with | some (off, _) => some off | none => none) | none => none
def moveL (n : Nat) : L → Option L
  | .fz ls => some (.fz (ls.drop n))
  | .ptr id o => some (.ptr id (o + n))
  | .eptr id i o => some (.eptr id i (o + n))
  | _ => none
theorem moveL_sound {n : Nat} {v : Value} {l l' : L} (h : moveL n l = some l') (hv : ERep m ω v l) : ∃ ad, v = .pointer (some ad) ∧ ERep m ω (.pointer (some (ad.add n))) l' := by
  cases l <;> simp only [moveL, Option.some.injEq, reduceCtorEq] at h <;> subst h
  · obtain ⟨ad, h1, h2⟩ := Rep.frep hv
    exact ⟨ad, h1, (h2.drop n).rep⟩
  · exact ⟨_, hv, by rw [Addr.add_lit]; rfl⟩
  · obtain ⟨b, h1, h2⟩ := hv
    exact ⟨_, h2, b, h1, by rw [Addr.add_lit]; simp only [Nat.add_assoc]⟩

theorem givesA_fieldAddr {o : Oper} {t : TypeId} {i : TI} {x : Operand} {ty : TypeId} {f off : Nat} {y z : L} (ho : o.op = .fieldAddr t x f) (hT : tiOk P t i = true) (h : CI P w0 m0 F0 s a w m ω)
    (hx : evalO T s ty x = some (.v (.one y))) (hf : fieldOff i f = some off) (hz : moveL off y = some z) : GivesA P w0 m0 F0 s o (.v (.one z)) a w ω := by
  obtain ⟨ad, had, hv⟩ := moveL_sound hz (evalO_sound h hx)
  unfold fieldOff at hf
  split at hf
  · rename_i l hl
    split at hf
    · rename_i off' ft hf'
      simp only [Option.some.injEq] at hf
      subst hf
      refine givesA_of_value h (v := .pointer (some (ad.add off'))) ?_ hv
      unfold execOp
      simp only [ho, had, Sem.run_bind, Sem.run_pure, Result.andThen_ok, run_fieldAt hT hl hf']
    · cases hf
  · cases hf

theorem givesA_indexAddr {o : Oper} {t e : TypeId} {i j : TI} {x y : Operand} {ty ty' : TypeId} {sz : Nat} {xs : List (List L)} {k : IntKind} {n : Int} (ho : o.op = .indexAddr t x y) (hT : tiOk P t i = true)
    (he : i.elem = some e) (hE : tiOk P e j = true) (hsz : j.size = sz) (h : CI P w0 m0 F0 s a w m ω) (hx : evalO T s ty x = some (.v (.one (.sl sz xs)))) (hy : evalO T s ty' y = some (.v (.one (.int k n))))
    (h0 : 0 ≤ n) (h1 : n < xs.length) : GivesA P w0 m0 F0 s o (.v (.one (.fz (xs.getD n.toNat [])))) a w ω := by
  have hu := (tiFacts hT).elem e he
  obtain ⟨inf, hinf, hs, _⟩ := (tiFacts hE).info
  have hvx : Rep m (a.eval x) (.sl sz xs) := evalO_sound h hx
  have hvy : Rep m (a.eval y) (.int k n) := evalO_sound h hy
  generalize hax : a.eval x = u at hvx
  generalize hay : a.eval y = u' at hvy
  cases hvy with
  | int =>
  cases hvx with
  | slNil => simp at h1; omega
  | sl ad len cap _ _ vals hlen hc hz hm hr =>
    have hlt : n.toNat < xs.length := by omega
    refine givesA_of_value h (v := .pointer (some (ad.add (n.toNat * sz)))) ?_ (Rep.erep (ω := ω) (FRep.rep fun jj u hu' => ?_))
    · unfold execOp
      have : n < (len : Int) := by omega
      simp only [ho, hax, hay, Sem.run_bind, Sem.run_pure, Result.andThen_ok, Instr.indexAt, asIntOf, run_underlying hu, run_sizeOf hinf, hs, hsz, h0, this, and_self, if_true]
    · have hget : xs.getD n.toNat [] = xs[n.toNat] := by simp [List.getD, hlt]
      rw [hget] at hu'
      have hc' : cellOf xs n.toNat jj = some u := by simp [cellOf, List.getElem?_eq_getElem hlt, hu']
      rw [add_add]
      exact ⟨_, hm _ _ _ hc', hr _ _ _ hc'⟩

theorem givesA_indexRef {o : Oper} {t e : TypeId} {i j : TI} {x y : Operand} {ty ty' : TypeId} {id lo q : Nat} {r : RowC} {k : IntKind} {n : Int} (ho : o.op = .indexAddr t x y) (hT : tiOk P t i = true)
    (he : i.elem = some e) (hE : tiOk P e j = true) (h : CI P w0 m0 F0 s a w m ω) (hx : evalO T s ty x = some (.v (.one (.ref id lo q)))) (hb : look s.row id = some r) (hsz : j.size = r.sz) (hy : evalO T s ty' y = some (.v (.one (.int k n))))
    (h0 : 0 ≤ n) (h1 : n < q) : GivesA P w0 m0 F0 s o (.v (.one (.eptr id (lo + n.toNat) 0))) a w ω := by
  have hu := (tiFacts hT).elem e he
  obtain ⟨inf, hinf, hs, _⟩ := (tiFacts hE).info
  have hvx : RefAt (ω.row id) lo q (a.eval x) := evalO_sound h hx
  have hvy : Rep m (a.eval y) (.int k n) := evalO_sound h hy
  generalize hax : a.eval x = u at hvx
  generalize hay : a.eval y = u' at hvy
  cases hvy with
  | int =>
  have hrs := (h.row id r hb).1
  rcases hvx with ⟨_, _, rfl, _⟩ | ⟨b, ad, g1, g2, rfl, g4⟩
  · simp at h1; omega
  · have had := g4 (.inl (by omega))
    subst had
    refine givesA_of_value h (v := .pointer (some ((⟨b, lo * (ω.row id).sz, none⟩ : Addr).add (n.toNat * r.sz)))) ?_ ?_
    · unfold execOp
      simp only [ho, hax, hay, Sem.run_bind, Sem.run_pure, Result.andThen_ok, Instr.indexAt, asIntOf, run_underlying hu, run_sizeOf hinf, hs, hsz, h0, h1, and_self, if_true]
    · refine ⟨b, g1, ?_⟩
      rw [Addr.add_lit, hrs, Nat.add_mul, Nat.add_zero]

/-! ### slices of slices -/
def boundN (T : TypeId → Option TI) (s : St) (ty : TypeId) (dflt : Nat) : Option Operand → Option Int
  | none => some dflt
  | some x => match evalO T s ty x with | some (.v (.one (.int _ n))) => some n | _ => none
def BoundV (a : Act) (dflt : Nat) (q : Int) : Option Operand → Prop
  | none => q = dflt
  | some z => ∃ k, a.eval z = .int k q
theorem boundN_sound (h : CI P w0 m0 F0 s a w m ω) {ty : TypeId} {d : Nat} {x : Option Operand} {q : Int} (hq : boundN T s ty d x = some q) : BoundV a d q x := by
  cases x with
  | none => simp only [boundN, Option.some.injEq] at hq; exact hq.symm
  | some z =>
    simp only [boundN] at hq
    split at hq
    · rename_i k n hz
      simp only [Option.some.injEq] at hq
      subst hq
      have hv : Rep m (a.eval z) (.int k n) := evalO_sound h hz
      refine ⟨k, ?_⟩
      generalize a.eval z = u at hv
      cases hv
      rfl
    · cases hq

theorem run_sliceBound {k : IntKind} {n : Int} {y : Nat} {code : BoundsCode} (h0 : 0 ≤ n) (h1 : n ≤ y) : (Instr.sliceBound (.int k n) y code).run P w = .ok n.toNat w := by
  simp [Instr.sliceBound, asIntOf, h0, h1]

theorem run_bounds {lo hi : Option Operand} {len cap : Nat} {isS : Bool} {l h : Int} (hl : BoundV a 0 l lo) (hh : BoundV a len h hi) (h0 : 0 ≤ l) (h1 : l ≤ h) (h2 : h ≤ cap) :
    (Instr.sliceBounds isS len cap (lo.map a.eval) (hi.map a.eval) none).run P w = .ok (l.toNat, h.toNat, cap) w := by
  unfold Instr.sliceBounds
  cases hi with
  | none =>
    have hh : h = len := hh
    cases lo with
    | none =>
      have hl : l = (0 : Nat) := hl
      simp only [Option.map_none, Sem.run_bind, Sem.run_pure, Result.andThen_ok, hh, hl, Int.toNat_natCast]
    | some z =>
      obtain ⟨k, hz⟩ := hl
      simp only [Option.map_none, Option.map_some, hz, Option.isSome_none, Bool.false_eq_true, if_false, Sem.run_bind, Sem.run_pure, Result.andThen_ok]
      rw [run_sliceBound h0 (by omega)]
      simp only [Result.andThen_ok, hh, Int.toNat_natCast]
  | some z2 =>
    obtain ⟨k2, hz2⟩ := hh
    cases lo with
    | none =>
      have hl : l = (0 : Nat) := hl
      simp only [Option.map_none, Option.map_some, hz2, Sem.run_bind, Sem.run_pure, Result.andThen_ok]
      rw [run_sliceBound (by omega) h2]
      simp only [Result.andThen_ok, hl, Int.toNat_natCast]
    | some z =>
      obtain ⟨k, hz⟩ := hl
      simp only [Option.map_none, Option.map_some, hz, hz2, Option.isSome_none, Bool.false_eq_true, if_false, Sem.run_bind, Sem.run_pure, Result.andThen_ok]
      rw [run_sliceBound (by omega) h2]
      simp only [Result.andThen_ok]
      rw [run_sliceBound h0 (by omega)]
      simp only [Result.andThen_ok]

theorem run_slice_op {o : Oper} {t e : TypeId} {inf : TypeInfo} {x : Operand} {lo hi : Option Operand} {A : Option Addr} {len cap : Nat} {l h : Int} (ho : o.op = .slice t x lo hi none) (hu : P.underlying t = some (.slice e)) (hinf : P.info? e = some inf) (hax : a.eval x = .slice A len cap)
    (hl : BoundV a 0 l lo) (hh : BoundV a len h hi) (h0 : 0 ≤ l) (h1 : l ≤ h) (h2 : h ≤ cap) :
    (execOp a.eval o).run P w = .ok (.value (.slice (if cap = l.toNat then A else A.map (·.add (l.toNat * inf.size))) (h.toNat - l.toNat) (cap - l.toNat))) w := by
  unfold execOp
  simp only [ho, hax, Option.map_none, Sem.run_bind, Instr.sliceAt, run_underlying hu, Result.andThen_ok, Instr.slice]
  rw [run_bounds (P := P) (w := w) hl hh h0 h1 h2]
  simp only [Result.andThen_ok, Sem.run_bind, run_sizeOf hinf, Sem.run_pure]

theorem rep_sub {v : Value} {sz : Nat} {xs : List (List L)} (hv : Rep m v (.sl sz xs)) (l h' : Nat) (hl : l ≤ h') (hh : h' ≤ xs.length) :
    ∃ A n c, v = .slice A n c ∧ n = xs.length ∧ n ≤ c ∧ Rep m (.slice (if c = l then A else A.map (·.add (l * sz))) (h' - l) (c - l)) (.sl sz ((xs.take h').drop l)) := by
  cases hv with
  | slNil =>
    refine ⟨none, 0, 0, rfl, rfl, Nat.le_refl _, ?_⟩
    simp at hh
    have : l = 0 := by omega
    subst this
    subst hh
    simp
    exact .slNil _
  | sl ad len cap _ _ vals hlen hc hz hm hr =>
    refine ⟨some ad, len, cap, rfl, hlen, hc, ?_⟩
    have hlen' : ((xs.take h').drop l).length = h' - l := by simp; omega
    by_cases hcl : cap = l
    · rw [if_pos hcl]
      have h0 : h' - l = 0 := by omega
      have hnil : (xs.take h').drop l = [] := List.eq_nil_of_length_eq_zero (by omega)
      rw [hnil, h0]
      exact .sl ad 0 _ sz [] vals rfl (Nat.zero_le _) (fun x hx => by cases hx) (fun i j u hu => by simp [cellOf] at hu) (fun i j u hu => by simp [cellOf] at hu)
    · rw [if_neg hcl]
      have hcell : ∀ i j u, cellOf ((xs.take h').drop l) i j = some u → cellOf xs (l + i) j = some u := by
        intro i j u hu
        unfold cellOf at hu ⊢
        rw [List.getElem?_drop, List.getElem?_take] at hu
        split at hu
        · exact hu
        · simp at hu
      refine .sl (ad.add (l * sz)) (h' - l) (cap - l) sz _ (fun i j => vals (l + i) j) hlen'.symm (by omega) (fun x hx => hz x (List.mem_of_mem_take (List.mem_of_mem_drop hx))) (fun i j u hu => ?_) (fun i j u hu => hr _ _ _ (hcell i j u hu))
      have := hm _ _ _ (hcell i j u hu)
      rw [add_add, show l * sz + (i * sz + j) = (l + i) * sz + j from by rw [Nat.add_mul]; omega]
      exact this

theorem givesA_slice {o : Oper} {t e : TypeId} {i j : TI} {x : Operand} {lo hi : Option Operand} {sz : Nat} {xs : List (List L)} {l hh : Int} (ho : o.op = .slice t x lo hi none) (hT : tiOk P t i = true)
    (he : i.elem = some e) (hE : tiOk P e j = true) (hsz : j.size = sz) (h : CI P w0 m0 F0 s a w m ω) (hx : evalO T s t x = some (.v (.one (.sl sz xs))))
    (hl : boundN T s t 0 lo = some l) (hhi : boundN T s t xs.length hi = some hh) (h0 : 0 ≤ l) (h1 : l ≤ hh) (h2 : hh ≤ xs.length) :
    GivesA P w0 m0 F0 s o (.v (.one (.sl sz ((xs.take hh.toNat).drop l.toNat)))) a w ω := by
  have hu := (tiFacts hT).elem e he
  obtain ⟨inf, hinf, hs, _⟩ := (tiFacts hE).info
  obtain ⟨A, n, c, hax, hn, hnc, hrep⟩ := rep_sub (m := m) (evalO_sound h hx) l.toNat hh.toNat (by omega) (by omega)
  rw [← hn] at hhi
  refine givesA_of_value h (run_slice_op ho hu hinf hax (boundN_sound h hl) (boundN_sound h hhi) h0 h1 (by omega)) ?_
  rw [hs, hsz]
  exact hrep

theorem givesA_sliceRef {o : Oper} {t e : TypeId} {i j : TI} {x : Operand} {lo hi : Option Operand} {id b0 q : Nat} {r : RowC} {l hh : Int} (ho : o.op = .slice t x lo hi none) (hT : tiOk P t i = true)
    (he : i.elem = some e) (hE : tiOk P e j = true) (h : CI P w0 m0 F0 s a w m ω) (hx : evalO T s t x = some (.v (.one (.ref id b0 q)))) (hb : look s.row id = some r) (hsz : j.size = r.sz)
    (hl : boundN T s t 0 lo = some l) (hhi : boundN T s t q hi = some hh) (h0 : 0 ≤ l) (h1 : l ≤ hh) (h2 : hh ≤ q ∨ (hh ≤ r.xs.length - b0 ∧ b0 ≤ r.xs.length)) :
    GivesA P w0 m0 F0 s o (.v (.one (.ref id (b0 + l.toNat) (hh.toNat - l.toNat)))) a w ω := by
  have hu := (tiFacts hT).elem e he
  obtain ⟨inf, hinf, hs, _⟩ := (tiFacts hE).info
  have hvx : RefAt (ω.row id) b0 q (a.eval x) := evalO_sound h hx
  obtain ⟨hrs, _, hrow⟩ := h.row id r hb
  generalize hax : a.eval x = u at hvx
  rcases hvx with ⟨g0, rfl, rfl, rfl⟩ | ⟨b, ad, g1, g2, rfl, g4⟩
  · rw [g0] at hrow
    have hx0 : r.xs.length = 0 := by rw [hrow.1]; rfl
    have hh0 : hh = 0 := by omega
    have hl0 : l = 0 := by omega
    subst hh0 hl0
    refine givesA_of_value h (run_slice_op ho hu hinf hax (boundN_sound h hl) (boundN_sound h hhi) (Int.le_refl 0) (Int.le_refl 0) (Int.le_refl 0)) ?_
    exact .inl ⟨g0, rfl, rfl, rfl⟩
  · rw [g1] at hrow
    obtain ⟨cs, e', k1, k2, k3, k4, _⟩ := hrow
    have hcap : hh.toNat ≤ (ω.row id).cap - b0 := by omega
    refine givesA_of_value h (run_slice_op ho hu hinf hax (boundN_sound h hl) (boundN_sound h hhi) h0 h1 (by omega)) ?_
    refine .inr ⟨b, if (ω.row id).cap - b0 = l.toNat then ad else ad.add (l.toNat * inf.size), g1, by omega, ?_, fun hlt => ?_⟩
    · rw [Nat.sub_sub]
      congr 1
      split <;> simp
    · by_cases hc : (ω.row id).cap - b0 = l.toNat
      · rw [if_pos hc]
        have : b0 + l.toNat = 0 := by omega
        have hb0 : b0 = 0 := by omega
        have hl0 : l.toNat = 0 := by omega
        rw [hl0, Nat.add_zero]
        exact g4 (.inr hb0)
      · rw [if_neg hc, g4 (.inl (by omega)), Addr.add_lit, hs, hsz, hrs, Nat.add_mul]

def nL : L → Option Nat
  | .sl _ xs => some xs.length
  | .ref _ _ q => some q
  | .nil _ => some 0
  | _ => none
/-- A slice with three bounds is made, and not looked at. -/
theorem givesA_slice3 {o : Oper} {t e : TypeId} {i j : TI} {x : Operand} {lo hi : Option Operand} {z : Operand} {v1 : L} {n : Nat} {l hh mx : Int} (ho : o.op = .slice t x lo hi (some z)) (hT : tiOk P t i = true)
    (he : i.elem = some e) (hE : tiOk P e j = true) (h : CI P w0 m0 F0 s a w m ω) (hx : evalO T s t x = some (.v (.one v1))) (hn : nL v1 = some n)
    (hl : boundN T s t 0 lo = some l) (hhi : boundN T s t n hi = some hh) (hhs : hi.isSome = true) (hmx : boundN T s t 0 (some z) = some mx) (h0 : 0 ≤ l) (h1 : l ≤ hh) (h2 : hh ≤ mx) (h3 : mx ≤ n) :
    GivesA P w0 m0 F0 s o (.v (.one .any)) a w ω := by
  have hu := (tiFacts hT).elem e he
  obtain ⟨inf, hinf, hs, _⟩ := (tiFacts hE).info
  have hv := evalO_sound h hx
  have hsl : ∃ A c, a.eval x = .slice A n c ∧ n ≤ c := by
    generalize a.eval x = u at hv
    cases v1 <;> simp only [nL, Option.some.injEq, reduceCtorEq] at hn
    · subst hn
      have hv : Rep m u (.sl _ _) := hv
      cases hv with
      | slNil => exact ⟨none, 0, rfl, Nat.le_refl _⟩
      | sl ad len cap _ _ vals hlen hc => subst hlen; exact ⟨some ad, cap, rfl, hc⟩
    · subst hn
      have hv : Rep m u (.nil _) := hv
      cases hv
      exact ⟨none, 0, rfl, Nat.le_refl _⟩
    · subst hn
      rcases hv with ⟨_, _, rfl, rfl⟩ | ⟨b, ad, _, g2, rfl, _⟩
      · exact ⟨none, 0, rfl, Nat.le_refl _⟩
      · exact ⟨some ad, _, rfl, by omega⟩
  obtain ⟨A, c, hax, hnc⟩ := hsl
  obtain ⟨kz, hz⟩ := boundN_sound h hmx
  have hbl := boundN_sound h hl
  have hbh := boundN_sound h hhi
  obtain ⟨zh, rfl⟩ := Option.isSome_iff_exists.1 hhs
  obtain ⟨kh, hzh⟩ := hbh
  refine givesA_of_value h (v := .slice (if mx.toNat = l.toNat then A else A.map (·.add (l.toNat * inf.size))) (hh.toNat - l.toNat) (mx.toNat - l.toNat)) ?_ (Rep.any _ rfl)
  have hb : (Instr.sliceBounds true n c (lo.map a.eval) (some (.int kh hh)) (some (.int kz mx))).run P w = .ok (l.toNat, hh.toNat, mx.toNat) w := by
    unfold Instr.sliceBounds
    simp only [Sem.run_bind, if_true, Option.isSome_some]
    rw [run_sliceBound (by omega) (by omega)]
    simp only [Result.andThen_ok]
    rw [run_sliceBound (by omega) (by omega)]
    simp only [Result.andThen_ok]
    cases lo with
    | none =>
      have hbl : l = (0 : Nat) := hbl
      simp only [Option.map_none, Sem.run_bind, Sem.run_pure, Result.andThen_ok, hbl, Int.toNat_natCast]
    | some zl =>
      obtain ⟨kl, hzl⟩ := hbl
      simp only [Option.map_some, hzl, Sem.run_bind]
      rw [run_sliceBound h0 (by omega)]
      simp only [Result.andThen_ok, Sem.run_pure]
  unfold execOp
  simp only [ho, hax, Option.map_some, hzh, hz, Sem.run_bind, Instr.sliceAt, run_underlying hu, Result.andThen_ok, Instr.slice]
  rw [hb]
  simp only [Result.andThen_ok, Sem.run_bind, run_sizeOf hinf, Sem.run_pure]

theorem givesA_sliceStr {o : Oper} {t : TypeId} {i : TI} {x : Operand} {lo hi : Option Operand} {q : ByteArray} {l hh : Int} (ho : o.op = .slice t x lo hi none) (hT : tiOk P t i = true)
    (hs : i.isStr = true) (h : CI P w0 m0 F0 s a w m ω) (hx : evalO T s t x = some (.v (.one (.str q))))
    (hl : boundN T s t 0 lo = some l) (hhi : boundN T s t q.size hi = some hh) (h0 : 0 ≤ l) (h1 : l ≤ hh) (h2 : hh ≤ q.size) :
    GivesA P w0 m0 F0 s o (.v (.one (.str (q.extract l.toNat hh.toNat)))) a w ω := by
  have hu := (tiFacts hT).str hs
  have hv : Rep m (a.eval x) (.str q) := evalO_sound h hx
  generalize hax : a.eval x = u at hv
  cases hv
  refine givesA_of_value h (v := .string (q.extract l.toNat hh.toNat)) ?_ (Rep.str _)
  unfold execOp
  simp only [ho, hax, Option.map_none, Sem.run_bind, Instr.sliceAt, run_underlying hu, Result.andThen_ok, Instr.slice, Option.isSome_none, Bool.false_eq_true, if_false, Sem.run_pure]
  rw [run_bounds (P := P) (w := w) (boundN_sound h hl) (boundN_sound h hhi) h0 h1 h2]
  simp only [Result.andThen_ok]
end
end Go.Bw
