/-
  THE LAYER, 16: a function, by its body.
-/
import Derived.Test.YtinlgpgdinnefaaB15
set_option linter.unusedSimpArgs false
set_option linter.unusedVariables false
namespace Go.Bw
open Go.RowKit

section
variable {P : Program} {w0 : World} {m0 : Mem} {s s' : St} {a : Act} {w : World} {m : Mem} {ω : Wh} {F0 : Home} {T : TypeId → Option TI}

def resOf : List V → A
  | [y] => .v y
  | ys => .tup ys
def cellRV (s : St) (i : TI) : L → Option V
  | .fz ls => loadV i ls
  | .ptr id off => match look s.box id with | some ls => loadV i ((ls.drop off).map L.peek) | none => none
  | .eptr id k off => match look s.row id with | some r => if k < r.xs.length then loadV i ((overlay r.ov k 0 (r.xs.getD k [])).drop off) else none | none => none
  | _ => none
def resVals (T : TypeId → Option TI) (s : St) : List ResultVar → Option (List V)
  | [] => some []
  | .tmp t :: r => match vOf (look s.env t), resVals T s r with | some y, some q => some (y :: q) | _, _ => none
  | .cell x t :: r => match oneOf (look s.env x), T t, resVals T s r with
    | some l, some i, some q => (match cellRV s i l with | some y => some (y :: q) | none => none)
    | _, _, _ => none

theorem run_loadAt_cells {t : TypeId} {i : TI} (hT : tiOk P t i = true) {ad : Addr} {cs : List Value} {ls : List L} {y : V} (hl : cs.length = ls.length)
    (hc : ∀ (j : Nat) (v : Value), cs[j]? = some v → w.cell? (ad.add j) = some v) (hr : ∀ (j : Nat) (l : L), ls[j]? = some l → ∃ v, cs[j]? = some v ∧ ERep m ω v l) (hy : loadV i ls = some y) : ∃ v, (Instr.loadAt t (.pointer (some ad))).run P w = .ok v w ∧ VRep m ω v y := by
  obtain ⟨hsz, hv⟩ := loadV_some hy
  exact run_loadAt (P := P) (w := w) (m := m) (ω := ω) hT (ad := ad) (cs := cs.take i.size) (ls := ls.take i.size) (by simp [hl]) (by rw [List.length_take]; omega)
    (fun j v hv => hc j v (by rw [List.getElem?_take] at hv; split at hv; exact hv; cases hv))
    (fun j l hl => by
      rw [List.getElem?_take] at hl
      split at hl
      · rename_i hj
        obtain ⟨v, h6, h7⟩ := hr j l hl
        exact ⟨v, by rw [List.getElem?_take, if_pos hj]; exact h6, h7⟩
      · cases hl) hv
theorem cellRV_run {t : TypeId} {i : TI} {l : L} {v : Value} {y : V} (hT : tiOk P t i = true) (h : CI P w0 m0 F0 s a w m ω) (hv : ERep m ω v l) (hy : cellRV s i l = some y) : ∃ ad u, v = .pointer (some ad) ∧ (Instr.loadAt t (.pointer (some ad))).run P w = .ok u w ∧ VRep m ω u y := by
  cases l with
  | fz ls =>
    obtain ⟨ad, had, hf⟩ := Rep.frep hv
    obtain ⟨cs, h1, h2, h3⟩ := cells_of_frep h.ok hf
    obtain ⟨u, h4, h5⟩ := run_loadAt_cells (ω := ω) hT h1 h2 (fun j l hj => let ⟨v, h4, h5⟩ := h3 j l hj; ⟨v, h4, h5.erep⟩) hy
    exact ⟨ad, u, had, h4, h5⟩
  | ptr id off =>
    simp only [cellRV] at hy
    split at hy
    · rename_i ls hb
      obtain ⟨cs, h1, h2, h3⟩ := box_cells h hb off
      obtain ⟨u, h4, h5⟩ := run_loadAt_cells hT h1 h2 h3 hy
      exact ⟨_, u, hv, h4, h5⟩
    · cases hy
  | eptr id k off =>
    simp only [cellRV] at hy
    split at hy
    · rename_i r hb
      split at hy
      · rename_i hk
        obtain ⟨b, hblk, had⟩ := hv
        obtain ⟨b', hblk', hsz, cs, h1, h2, h3⟩ := row_cells h hb hk off
        rw [hblk] at hblk'
        injection hblk' with hbb
        subst hbb
        rw [hsz] at had
        obtain ⟨u, h4, h5⟩ := run_loadAt_cells hT h1 h2 h3 hy
        exact ⟨_, u, had, h4, h5⟩
      · cases hy
    · cases hy
  | _ => cases hy

theorem resVals_run (hT : TabOk P T) (hC : CI P w0 m0 F0 s a w m ω) : ∀ (l : List ResultVar) (ys : List V), resVals T s l = some ys →
    ∃ vs : List Value, (l.mapM fun (x : ResultVar) => (match x with
      | .tmp t => pure (a.tmps.getD t undef)
      | .cell x t => do loadVar t (← asAddr (a.tmps.getD x undef)) : Sem Value)).run P w = .ok vs w ∧ vs.length = ys.length ∧ ∀ (j : Nat) (y : V), ys[j]? = some y → ∃ v, vs[j]? = some v ∧ VRep m ω v y
  | [], ys, h => by simp only [resVals, Option.some.injEq] at h; subst h; exact ⟨[], by simp, rfl, fun j y hj => by simp at hj⟩
  | .tmp t :: r, ys, h => by
    simp only [resVals] at h
    split at h
    · rename_i y q hy hq
      simp only [Option.some.injEq] at h
      subst h
      obtain ⟨vs, h1, h2, h3⟩ := resVals_run hT hC r q hq
      have hv : VRep m ω (a.tmps.getD t undef) y := hC.env t _ (vOf_some hy)
      refine ⟨a.tmps.getD t undef :: vs, ?_, by simp [h2], fun j y' hj => ?_⟩
      · simp only [List.mapM_cons, Sem.run_bind, Sem.run_pure, Result.andThen_ok, h1]
      · cases j with
        | zero => simp only [List.getElem?_cons_zero, Option.some.injEq] at hj; subst hj; exact ⟨_, rfl, hv⟩
        | succ j => exact h3 j y' (by simpa using hj)
    · cases h
  | .cell x t :: r, ys, h => by
    simp only [resVals] at h
    split at h
    · rename_i l i q hx hi hq
      split at h
      · rename_i y hy
        simp only [Option.some.injEq] at h
        subst h
        have hv : ERep m ω (a.tmps.getD x undef) l := hC.env x _ (oneOf_some hx)
        obtain ⟨ad, u, had, hld, hvu⟩ := cellRV_run (hT _ _ hi) hC hv hy
        obtain ⟨vs, h1, h2, h3⟩ := resVals_run hT hC r q hq
        have hld' : (loadVar t ad).run P w = .ok u w := by
          simpa only [Instr.loadAt, Instr.sureAddr, Sem.run_bind, Sem.run_pure, Result.andThen_ok] using hld
        refine ⟨u :: vs, ?_, by simp [h2], fun j y' hj => ?_⟩
        · have has : (asAddr (a.tmps.getD x undef)).run P w = .ok ad w := by rw [had]; rfl
          simp only [List.mapM_cons, Sem.run_bind, has, Sem.run_pure, Result.andThen_ok, hld', h1]
        · cases j with
          | zero => simp only [List.getElem?_cons_zero, Option.some.injEq] at hj; subst hj; exact ⟨_, rfl, hvu⟩
          | succ j => exact h3 j y' (by simpa using hj)
      · cases h
    · cases h

theorem results_run (hT : TabOk P T) (hC : CI P w0 m0 F0 s a w m ω) {fn : Func} {ys : List V} (hr : resVals T s fn.results.toList = some ys) :
    ∃ v, (results fn a.tmps).run P w = .ok v w ∧ ARep m ω v (resOf ys) := by
  obtain ⟨vs, h1, h2, h3⟩ := resVals_run hT hC fn.results.toList ys hr
  have hrun : (results fn a.tmps).run P w = .ok (if h : vs.toArray.size = 1 then vs.toArray[0] else .tuple vs.toArray) w := by
    unfold results
    rw [Array.mapM_eq_mapM_toList]
    simp only [Sem.run_bind, Sem.run_map]
    erw [h1]
    simp only [Result.andThen_ok, Sem.run_pure]
  refine ⟨_, hrun, ?_⟩
  match ys, vs, h2, h3 with
  | [], [], _, _ => exact ⟨#[], rfl, rfl, fun j x hj => by simp at hj⟩
  | [y], [v], _, h3 =>
    obtain ⟨u, hu, hv⟩ := h3 0 y rfl
    simp only [List.getElem?_cons_zero, Option.some.injEq] at hu
    subst hu
    exact hv
  | y :: y2 :: rest, v :: v2 :: vs, h2, h3 =>
    have hne : ¬ ((v :: v2 :: vs).toArray.size = 1) := by simp
    rw [dif_neg hne]
    exact ⟨_, rfl, by simpa using h2, fun j x hj => let ⟨u, h4, h5⟩ := h3 j x hj; ⟨u, by simpa using h4, h5⟩⟩
  | [], _ :: _, h2, _ => simp at h2
  | _ :: _, [], h2, _ => simp at h2
  | [_], _ :: _ :: _, h2, _ => simp at h2
  | _ :: _ :: _, [_], h2, _ => simp at h2

def envOf : Nat → List V → List (Nat × A)
  | _, [] => []
  | k, x :: xs => (k, .v x) :: envOf (k + 1) xs
theorem look_envOf : ∀ (xs : List V) (k t : Nat) (x : A), look (envOf k xs) t = some x → k ≤ t ∧ ∃ y, xs[t - k]? = some y ∧ x = .v y
  | [], k, t, x, h => by simp [envOf, look] at h
  | y :: xs, k, t, x, h => by
    simp only [envOf, look] at h
    split at h
    · rename_i hk
      injection h with h
      subst hk
      exact ⟨Nat.le_refl _, y, by simp, h.symm⟩
    · rename_i hk
      obtain ⟨h1, z, h2, h3⟩ := look_envOf xs (k + 1) t x h
      refine ⟨by omega, z, ?_, h3⟩
      have : t - k = (t - (k + 1)) + 1 := by omega
      rw [this, List.getElem?_cons_succ]
      exact h2

/-- Less is known, read off lists. -/
def allIn {α : Type} (e : List (Nat × α)) : List (Nat × α) → Prop
  | [] => True
  | (t, x) :: r => look e t = some x ∧ allIn e r
theorem allIn_look {α : Type} {e : List (Nat × α)} : ∀ {r : List (Nat × α)}, allIn e r → ∀ t x, look r t = some x → look e t = some x
  | [], _, t, x, h => by cases h
  | (t', y) :: r, ⟨h1, h2⟩, t, x, h => by
    simp only [look] at h
    split at h
    · rename_i ht; injection h with h; subst h; subst ht; exact h1
    · exact allIn_look h2 t x h
theorem St.le_mk {n : Nat} {e e' : List (Nat × A)} {b b' : List (Nat × List L)} {k k' : List (Nat × RowC)} (he : allIn e e') (hb : allIn b b') (hk : allIn k k') : St.le ⟨n, e', b', k'⟩ ⟨n, e, b, k⟩ :=
  ⟨rfl, allIn_look he, allIn_look hb, allIn_look hk⟩
theorem allIn_nil {α : Type} (e : List (Nat × α)) : allIn e [] = True := rfl
theorem allIn_cons {α : Type} (e : List (Nat × α)) (t : Nat) (x : α) (r : List (Nat × α)) : allIn e ((t, x) :: r) = (look e t = some x ∧ allIn e r) := rfl

/-- What is asked where a body ends: all but the boxes of kb and the rows of kr is frozen. -/
def retQ (T : TypeId → Option TI) (fn : Func) (kb kr : List Nat) (r : A) (bx' : Boxes) (rw' : Rows) : Exit → St → Prop
  | .normal, s | .ret, s => mO (resVals T s fn.results.toList) fun ys => (resOf (ys.map fun y => (y.map (topL kb kr (s.rest kb kr))).map L.norm) = r) ∧ allIn (s.freeze kb kr).box bx' ∧ allIn (s.freeze kb kr).row rw'
  | _, _ => False

theorem resOf_map (g : V → V) (ys : List V) : resOf (ys.map g) = (match resOf ys with | .v y => .v (g y) | .tup q => .tup (q.map g)) := by
  match ys with
  | [] => rfl
  | [y] => rfl
  | y :: z :: r => rfl

theorem satM_of_body (hT : TabOk P T) {f : FuncId} {fn : Func} {c : Code} {xs : List V} {bx bx' : Boxes} {rw rw' : Rows} {r : A} (kb kr : List Nat) (hf : P.funcs[f]? = some fn) (hb : fn.body = some c) (hn : (fn.name == "runtime.NumGoroutine") = false) (hx : xs.length ≤ fn.ntmps ∧ fn.ntmps ≤ 1000)
    (h : ∀ w0 m0 F0, AWP P w0 m0 F0 c (retQ T fn kb kr r bx' rw') { n := fn.ntmps, env := envOf 0 xs, box := bx, row := rw }) : SatM P f xs bx rw r bx' rw' := by
  refine ⟨fun m w vs ω hC hA => ?_⟩
  refine .inr ⟨?_, ?_⟩
  · simp only [callFunc, Sem.run_bind, program, Sem.run, Result.andThen_ok, hf]
    rw [hn, hb]
    simp
  · refine calls_of_wp hf hb ?_
    have hCC : Conc P w m (handed bx rw ω) { n := fn.ntmps, env := envOf 0 xs, box := bx, row := rw } { tmps := vs.toArray ++ Array.replicate (fn.ntmps - vs.toArray.size) undef, defers := [] } w := by
      refine ⟨m, ω, { size := ?_, defers := rfl, keeps := hC.keeps, mle := hC.mle, mold := hC.mold, ok := hC.ok, env := fun t x ht => ?_, box := hC.box, row := hC.row, fresh := fun κ id hl => hC.fresh κ id (by cases κ <;> exact hl), apart := fun κ id κ' id' hl hl' => hC.apart κ id κ' id' (by cases κ <;> exact hl) (by cases κ' <;> exact hl'), home := ⟨fun id hid => ?_, hC.home.box, hC.home.row⟩ }⟩
      · simp [hA.1]
        omega
      · obtain ⟨_, y, h2, rfl⟩ := look_envOf xs 0 t x ht
        simp only [Nat.sub_zero] at h2
        obtain ⟨v, h3, h4⟩ := hA.2 t y h2
        have : (vs.toArray ++ Array.replicate (fn.ntmps - vs.toArray.size) undef).getD t undef = v := by
          rw [Array.getD_eq_getD_getElem?, Array.getElem?_append_left (by simpa using (List.getElem?_eq_some_iff.1 h3).1)]
          simp [h3]
        rw [this]
        exact h4
      · have := hC.home.big id hid
        exact ⟨by show fn.ntmps ≤ id; omega, this.2⟩
    refine wp_mono (h w m _ _ _ hCC) fun e a' w' he => ?_
    obtain ⟨s', hq, m', ω', hC'⟩ := he
    have fin : (mO (resVals T s' fn.results.toList) fun ys => (resOf (ys.map fun y => (y.map (topL kb kr (s'.rest kb kr))).map L.norm) = r) ∧ allIn (s'.freeze kb kr).box bx' ∧ allIn (s'.freeze kb kr).row rw') → a'.defers = [] ∧ ∃ v, (results fn a'.tmps).run P w' = .ok v w' ∧ ∃ v', Ending.returned v = .returned v' ∧ Post P w m ω bx rw r bx' rw' v' w' := by
      intro hq
      obtain ⟨ys, h1, h2, h3, h4⟩ := mO_elim hq
      obtain ⟨v, h5, h6⟩ := results_run hT hC' h1
      obtain ⟨m'', hF, hle, hg⟩ := hC'.freeze kb kr
      have h7 : ARep m'' ω' v r := by
        rw [← h2]
        have := (h6.map hg).map (g := L.norm) (fun v l hl => norm_e (m := m'') (ω := ω') hl)
        have e : ((resOf ys).map (topL kb kr (s'.rest kb kr))).map L.norm = resOf (ys.map fun y => (y.map (topL kb kr (s'.rest kb kr))).map L.norm) := by
          rw [resOf_map]
          cases resOf ys with
          | v y => rfl
          | tup q => simp [A.map]
        rw [e] at this
        exact this
      have h8 : CI P w m (handed bx rw ω) (roots bx' rw') a0 w' m'' ω' := by
        have hw := hF.weaken (s' := { s'.freeze kb kr with env := [], box := bx', row := rw' }) rfl (fun t x hx => by cases hx) (allIn_look h3) (allIn_look h4)
        exact { size := rfl, defers := rfl, keeps := hw.keeps, mle := hw.mle, mold := hw.mold, ok := hw.ok, env := (fun t x hx => by cases hx), box := hw.box, row := hw.row, fresh := fun κ id hl => hw.fresh κ id (by cases κ <;> exact hl), apart := fun κ id κ' id' hl hl' => hw.apart κ id κ' id' (by cases κ <;> exact hl) (by cases κ' <;> exact hl'), home := ⟨fun id hid => ⟨Nat.zero_le _, (hw.home.big id hid).2⟩, hw.home.box, hw.home.row⟩ }
      exact ⟨hC'.defers, v, h5, v, rfl, m'', ω', h8, h7⟩
    cases e with
    | normal => exact fin hq
    | ret => exact fin hq
    | _ => cases hq
theorem sat_of_body (hT : TabOk P T) {f : FuncId} {fn : Func} {c : Code} {xs : List V} {r : A} (hf : P.funcs[f]? = some fn) (hb : fn.body = some c) (hn : (fn.name == "runtime.NumGoroutine") = false) (hx : xs.length ≤ fn.ntmps ∧ fn.ntmps ≤ 1000)
    (h : ∀ w0 m0 F0, AWP P w0 m0 F0 c (retQ T fn [] [] r [] []) { n := fn.ntmps, env := envOf 0 xs, box := [], row := [] }) : Sat P f xs r :=
  satM_of_body hT [] [] hf hb hn hx h
end
end Go.Bw
namespace Go.Bw
/-- What a call made of its own is frozen. -/
theorem SatM.frz {P : Program} {f : FuncId} {xs : List V} {r r' : A} {bx' : Boxes} {rw' : Rows} (h : SatM P f xs [] [] r bx' rw') (e : r.map (topL [] [] ((roots bx' rw').rest [] [])) = r') : Sat P f xs r' := by
  refine ⟨fun m w vs ω hC hA => ?_⟩
  refine (h.call m w vs ω hC hA).mono fun v w' hp => ?_
  obtain ⟨m', ω', hC', hv⟩ := hp
  obtain ⟨m'', hF, hle, hg⟩ := hC'.freeze [] []
  refine ⟨m'', ω', ?_, e ▸ hv.map hg⟩
  have hw := hF.weaken (s' := roots [] []) rfl (fun t x hx => by cases hx) (fun t x hx => by cases hx) (fun t x hx => by cases hx)
  exact hw
end Go.Bw
