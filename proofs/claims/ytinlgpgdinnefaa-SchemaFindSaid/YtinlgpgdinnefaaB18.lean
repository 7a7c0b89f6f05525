/-
  THE LAYER, 18: a region that draws its order, fresh variables among its head.
-/
import Derived.Test.YtinlgpgdinnefaaB17
set_option linter.unusedSimpArgs false
set_option linter.unusedVariables false
namespace Go.Bw
open Go.RowKit

section
variable {P : Program} {w0 : World} {m0 : Mem} {s s' : St} {a : Act} {w : World} {m : Mem} {ω : Wh} {F0 : Home} {T : TypeId → Option TI}

/-- Whatever is drawn, what holds of a listed set goes on from set to set. -/
theorem draw_headG (hT : TabOk P T) {ops : Array Oper} {na dep : Nat} (F : DrawFacts ops na dep) {K : St → Prop} {Q : Exit → Act → World → Prop} (hQ : ∀ s a w, K s → Conc P w0 m0 F0 s a w → Q .normal a w) {s2 : St}
    {C : (Nat → Bool) → Act → World → Prop}
    (hstep : ∀ (S : Nat → Bool) (i : Nat) (a : Act) (w : World) (o : Oper), ops[i]? = some o → i < na → S i = false → (∀ j, na ≤ j → S j = false) → (∀ j ∈ clo ops dep i, S j = true) → (∀ j, S j = true → ∀ j' ∈ clo ops dep j, S j' = true) → C S a w →
      ∀ (K' : Act → World → Prop) (Q : Exit → Act → World → Prop), (∀ a' w', C (fun j => if j = i then true else S j) a' w' → K' a' w') → if Region.wanted o (yielded ops a.tmps) then o.wp P a w K' Q ∨ (o.asks P a w ∧ LetsOut Q) else K' (a.put o.dst undef) w)
    (hend : ∀ S a w, (∀ j, j < na → S j = true) → (∀ j, na ≤ j → S j = false) → C S a w → Conc P w0 m0 F0 s2 a w) (hV : VOps P T ops (ops.toList.drop na) s2 K) :
    ∀ (fuel : Nat) (listed : Array Bool) (a : Act) (w : World) (c : Nat), c + fuel = ops.size → listed.size = ops.size → ((List.range ops.size).filter fun i => listed.getD i false).length = c →
      (∀ i, i < ops.size → listed.getD i false = true → ∀ j ∈ direct ops i, listed.getD j false = true) → (∀ i, na ≤ i → listed.getD i false = false) →
      C (fun i => listed.getD i false) a w → wpAny P .any ops Q fuel listed a w := by
  intro fuel
  induction fuel with
  | zero =>
    intro listed a w c hc hsz hcnt hcl htl hC
    have hall : ∀ i, i < ops.size → listed.getD i false = true := by
      intro i hi
      have h1 : ((List.range ops.size).filter fun i => listed.getD i false).length = (List.range ops.size).length := by rw [hcnt, List.length_range]; omega
      have h2 := List.length_filter_eq_length_iff.1 h1
      exact h2 i (by simpa using hi)
    have hna : na = ops.size := by
      rcases Nat.lt_or_ge na ops.size with h | h
      · have := htl na (Nat.le_refl _)
        rw [hall na h] at this
        cases this
      · have := F.le; omega
    have hd : ops.toList.drop na = [] := by apply List.drop_eq_nil_of_le; simp; omega
    rw [hd] at hV
    refine ⟨?_, hQ s2 a w hV (hend _ a w (fun j hj => hall j (by omega)) htl hC)⟩
    apply List.eq_nil_iff_forall_not_mem.2
    intro i hi
    obtain ⟨h1, h2, _⟩ := (mem_ready hsz).1 hi
    rw [hall i h1] at h2
    cases h2
  | succ fuel ih =>
    intro listed a w c hc hsz hcnt hcl htl hC
    by_cases hdone : ∀ i, i < na → listed.getD i false = true
    · have hcna : c = na := by
        rw [← hcnt]
        have h1 : ((List.range ops.size).filter fun i => listed.getD i false) = (List.range ops.size).filter fun i => decide (i < na) := by
          apply List.filter_congr
          intro i hi
          have hi : i < ops.size := by simpa using hi
          by_cases hlt : i < na
          · rw [hdone i hlt]; simp [hlt]
          · rw [htl i (by omega)]; simp [hlt]
        rw [h1]
        have h2 : ∀ n, na ≤ n → ((List.range n).filter fun i => decide (i < na)).length = na := by
          intro n hn
          induction n with
          | zero => simp; omega
          | succ n ihn =>
            rw [List.range_succ, List.filter_append, List.length_append]
            rcases Nat.lt_or_ge n na with h | h
            · have hna : na = n + 1 := by omega
              have : ((List.range n).filter fun i => decide (i < na)) = List.range n := by
                apply List.filter_eq_self.2
                intro i hi
                have : i < n := by simpa using hi
                simp; omega
              rw [this]
              simp [h]
              omega
            · rw [ihn h]
              simp [show ¬ n < na from by omega]
        exact h2 _ F.le
      exact draw_tail hT F hQ (fuel + 1) na listed s2 a w (Nat.le_refl _) (by omega) hsz (fun i hi => ⟨(fun hl => by
        rcases Nat.lt_or_ge i na with h | h
        · exact h
        · rw [htl i h] at hl
          cases hl), fun hlt => hdone i hlt⟩) hV (hend _ a w hdone htl hC)
    · have hex : ∃ i, i < na ∧ listed.getD i false = false := by
        apply Classical.byContradiction
        intro hn
        apply hdone
        intro i hi
        cases hb : listed.getD i false with
        | true => rfl
        | false => exact absurd ⟨i, hi, hb⟩ hn
      have hclo : ∀ i, (∀ j ∈ direct ops i, listed.getD j false = true) → ∀ j ∈ clo ops dep i, listed.getD j false = true := fun i h3 =>
        clo_listed (ops := ops) (listed := fun j => listed.getD j false = true) (fun j hj j' hj' => by
          have hjn : j < ops.size := by
            rcases Nat.lt_or_ge j ops.size with h | h
            · exact h
            · rw [Array.getD_eq_getD_getElem?, Array.getElem?_eq_none (by omega)] at hj; cases hj
          exact hcl j hjn hj j' hj') dep i h3
      refine ⟨fun hn => ?_, fun i hi => ?_⟩
      · exfalso
        obtain ⟨i, h1, h2⟩ := hex
        have key : ∀ n i, i ≤ n → i < na → listed.getD i false = false → ∃ k, k ∈ Region.ready .any ops listed := by
          intro n
          induction n with
          | zero =>
            intro i hi hina hb
            have : i = 0 := by omega
            subst this
            refine ⟨0, (mem_ready hsz).2 ⟨by have := F.le; omega, hb, fun j hj => ?_⟩⟩
            have := F.back 0 (by have := F.le; omega) j hj
            omega
          | succ n ihn =>
            intro i hi hina hb
            by_cases hall : ∀ j ∈ direct ops i, listed.getD j false = true
            · exact ⟨i, (mem_ready hsz).2 ⟨by have := F.le; omega, hb, hall⟩⟩
            · have : ∃ j, j ∈ direct ops i ∧ listed.getD j false = false := by
                apply Classical.byContradiction
                intro hn
                apply hall
                intro j hj
                cases hb : listed.getD j false with
                | true => rfl
                | false => exact absurd ⟨j, hj, hb⟩ hn
              obtain ⟨j, hj, hjb⟩ := this
              have := F.back i (by have := F.le; omega) j hj
              exact ihn j (by omega) (by omega) hjb
        obtain ⟨k, hk⟩ := key i i (Nat.le_refl _) h1 h2
        rw [hn] at hk
        cases hk
      · obtain ⟨h1, h2, h3⟩ := (mem_ready hsz).1 hi
        have hcl' := hclo i h3
        have hina : i < na := by
          rcases Nat.lt_or_ge i na with h | h
          · exact h
          · obtain ⟨j, hj, hjb⟩ := hex
            have := hcl' j (F.tail i j h h1 (by omega))
            rw [hjb] at this
            cases this
        have ho : ops[i]? = some ops[i] := Array.getElem?_eq_getElem h1
        simp only [wpOp, ho]
        refine hstep _ i a w ops[i] ho hina h2 htl hcl' (fun j hj => hclo j (hcl j (by
          rcases Nat.lt_or_ge j ops.size with h | h
          · exact h
          · have hj : listed.getD j false = true := hj
            rw [Array.getD_eq_getD_getElem?, Array.getElem?_eq_none (by omega)] at hj; cases hj) hj)) hC _ _ fun a' w' hC' => ?_
        refine ih (listed.setIfInBounds i true) a' w' (c + 1) (by omega) (by simpa using hsz) ?_ ?_ ?_ ?_
        · rw [← hcnt]
          have h4 : ∀ n, i < n → ((List.range n).filter fun j => (listed.setIfInBounds i true).getD j false).length = ((List.range n).filter fun j => listed.getD j false).length + 1 := by
            intro n hn
            induction n with
            | zero => omega
            | succ n ihn =>
              rw [List.range_succ, List.filter_append, List.filter_append, List.length_append, List.length_append]
              rcases Nat.lt_or_ge i n with hlt | hge
              · rw [ihn hlt]
                have : ([n].filter fun j => (listed.setIfInBounds i true).getD j false) = [n].filter fun j => listed.getD j false := by
                  apply List.filter_congr
                  intro j hj
                  have : j = n := by simpa using hj
                  rw [getD_setB listed (by omega), if_neg (by omega)]
                rw [this]
                omega
              · have hin : i = n := by omega
                subst hin
                have e1 : ((List.range i).filter fun j => (listed.setIfInBounds i true).getD j false) = (List.range i).filter fun j => listed.getD j false := by
                  apply List.filter_congr
                  intro j hj
                  have : j < i := by simpa using hj
                  rw [getD_setB listed (by omega), if_neg (by omega)]
                have e2 : ([i].filter fun j => (listed.setIfInBounds i true).getD j false).length = 1 := by
                  have : (listed.setIfInBounds i true).getD i false = true := by rw [getD_setB listed (by omega), if_pos rfl]
                  simp only [List.filter_cons, this, if_true, List.filter_nil, List.length_cons, List.length_nil]
                have e3 : ([i].filter fun j => listed.getD j false).length = 0 := by
                  simp only [List.filter_cons, h2, Bool.false_eq_true, if_false, List.filter_nil, List.length_nil]
                rw [e1, e2, e3]
          exact h4 _ h1
        · intro j hj hb k hk
          rw [getD_setB listed (by omega)] at hb ⊢
          by_cases hki : k = i
          · rw [if_pos hki]
          · rw [if_neg hki]
            by_cases hji : j = i
            · subst hji; exact h3 k hk
            · rw [if_neg hji] at hb; exact hcl j hj hb k hk
        · intro j hj
          rw [getD_setB listed (by omega), if_neg (by omega)]
          exact htl j hj
        · have e : (fun j => (listed.setIfInBounds i true).getD j false) = fun j => if j = i then true else listed.getD j false := funext fun j => getD_setB listed (by omega) j
          rw [e]
          exact hC'

/-! ### the states on the way -/
theorem sel_step {ps : List (Option Tmp × A)} (hA : ApartP ps) {S : Nat → Bool} {i : Nat} {p : Option Tmp × A} (hp : ps[i]? = some p) (hi : S i = false) (t : Tmp) :
    look (puts s (sel (fun j => if j = i then true else S j) ps)).env t = if p.1 = some t then some p.2 else look (puts s (sel S ps)).env t := by
  apply Option.ext
  intro y
  rw [look_puts _ _ (sel_apart hA).apart]
  have hmem : ∀ q, q ∈ sel (fun j => if j = i then true else S j) ps ↔ q = p ∨ q ∈ sel S ps := by
    intro q
    simp only [mem_sel]
    constructor
    · rintro ⟨j, hb, hj⟩
      by_cases hji : j = i
      · subst hji
        rw [hp] at hj
        injection hj with hj
        exact .inl hj.symm
      · simp only [if_neg hji] at hb
        exact .inr ⟨j, hb, hj⟩
    · rintro (rfl | ⟨j, hb, hj⟩)
      · exact ⟨i, by simp, hp⟩
      · refine ⟨j, ?_, hj⟩
        split
        · rfl
        · exact hb
  by_cases hd : p.1 = some t
  · rw [if_pos hd]
    have hno : ∀ q ∈ sel S ps, q.1 ≠ some t := by
      intro q hq he
      obtain ⟨j, hb, hj⟩ := mem_sel.1 hq
      have := hA.apart i j _ _ t hp hj hd he
      subst this
      rw [hi] at hb
      cases hb
    simp only [hmem]
    constructor
    · rintro (h5 | ⟨h5, _⟩)
      · rcases h5 with h5 | h5
        · rw [← h5]
        · exact absurd rfl (hno _ h5)
      · exact absurd hd (h5 _ (.inl rfl))
    · intro h5
      injection h5 with h5
      refine .inl (.inl ?_)
      rw [← h5, ← hd]
  · rw [if_neg hd, look_puts _ _ (sel_apart hA).apart]
    simp only [hmem]
    constructor
    · rintro (h5 | ⟨h5, h6⟩)
      · rcases h5 with h5 | h5
        · exact absurd (by rw [← h5]) hd
        · exact .inl h5
      · exact .inr ⟨fun q hq => h5 q (.inr hq), h6⟩
    · rintro (h5 | ⟨h5, h6⟩)
      · exact .inl (.inr h5)
      · refine .inr ⟨fun q hq => ?_, h6⟩
        rcases hq with rfl | hq
        · exact hd
        · exact h5 q hq

theorem look_head {ops : Array Oper} {na dep : Nat} (F : DrawFacts ops na dep) {ps : List (Option Tmp × A)} (hA : ApartP ps) (hdst : ∀ j p, ps[j]? = some p → j < na ∧ dstAt ops j = p.1) {S : Nat → Bool} {i : Nat} (hina : i < na) (hi : S i = false)
    (hcl : ∀ j ∈ clo ops dep i, S j = true) (hcl2 : ∀ j, S j = true → ∀ j' ∈ clo ops dep j, S j' = true) {t : Tmp} (ht : t ∈ looksAt ops i) :
    look (puts s (ps.take i)).env t = look (puts s (sel S ps)).env t := by
  have happ : Apart (ps.take i) := ApartP.apart (List.Pairwise.sublist (List.take_sublist i ps) hA)
  apply Option.ext
  intro y
  rw [look_puts _ _ happ, look_puts _ _ (sel_apart hA).apart]
  have hmem : ∀ y, (some t, y) ∈ ps.take i ↔ (some t, y) ∈ sel S ps := by
    intro y
    rw [mem_sel]
    constructor
    · intro hm
      obtain ⟨j, hj, he⟩ := List.mem_iff_getElem.1 hm
      have hjl : j < i := by simp at hj; omega
      have hpj : ps[j]? = some (some t, y) := by
        have := List.getElem?_eq_getElem hj
        rw [he, List.getElem?_take, if_pos hjl] at this
        exact this
      obtain ⟨hjna, hjd⟩ := hdst j _ hpj
      exact ⟨j, hcl j ((F.reads i j t hina hjna (by omega) hjd ht).1 hjl), hpj⟩
    · rintro ⟨j, hjb, hpj⟩
      obtain ⟨hjna, hjd⟩ := hdst j _ hpj
      have hji : j ≠ i := fun e => by rw [e, hi] at hjb; cases hjb
      rcases Nat.lt_or_ge j i with hlt | hge
      · refine List.mem_of_getElem? (i := j) ?_
        rw [List.getElem?_take, if_pos hlt]
        exact hpj
      · have hm := (F.reads i j t hina hjna (fun e => hji e.symm) hjd ht).2 (by omega)
        have hb := hcl2 j hjb i hm
        rw [hi] at hb
        cases hb
  have hall : (∀ p ∈ ps.take i, p.1 ≠ some t) ↔ (∀ p ∈ sel S ps, p.1 ≠ some t) := by
    constructor
    · intro hh p hp' he
      obtain ⟨p1, p2⟩ := p
      simp only at he
      subst he
      exact hh _ ((hmem p2).2 hp') rfl
    · intro hh p hp' he
      obtain ⟨p1, p2⟩ := p
      simp only at he
      subst he
      exact hh _ ((hmem p2).1 hp') rfl
  rw [hmem y, hall]

def ptrA (d : Nat) : A := .v (.one (.ptr d 0))
def addBox (s : St) (p : Nat × List L) : St := { s with env := (p.1, ptrA p.1) :: s.env, box := p :: s.box }
theorem newBox_free {d : Nat} {ls : List L} (h : s.noBox d = s) (hl : ls.map (L.noPtr d) = ls) : s.newBox d ls = addBox s (d, ls) := by
  unfold St.newBox St.newBox0 St.put addBox
  rw [h, hl]
  rfl

theorem free_env {d : Nat} (h : s.noBox d = s) {t : Tmp} {x : A} (hx : look s.env t = some x) : x.map (L.noPtr d) = x := by
  have h1 : (s.noBox d).env = s.env := by rw [h]
  have h2 : (s.env.map fun p => (p.1, p.2.map (L.noPtr d))) = s.env := h1
  have h3 : look (s.env.map fun p => (p.1, p.2.map (L.noPtr d))) t = some x := by rw [h2]; exact hx
  rw [look_map (fun x : A => x.map (L.noPtr d)), hx] at h3
  simpa using h3
theorem free_box {d : Nat} (h : s.noBox d = s) {i : Nat} {ls : List L} (hx : look s.box i = some ls) : i ≠ d ∧ ls.map (L.noPtr d) = ls := by
  have h1 : (s.noBox d).box = s.box := by rw [h]
  have h2 : ((Bw.del d s.box).map fun p => (p.1, p.2.map (L.noPtr d))) = s.box := h1
  have h3 : look ((Bw.del d s.box).map fun p => (p.1, p.2.map (L.noPtr d))) i = some ls := by rw [h2]; exact hx
  obtain ⟨y, h4, h5⟩ := map_look h3
  rw [look_del] at h4
  split at h4
  · cases h4
  · rename_i hne
    rw [hx] at h4
    injection h4 with h4
    rw [← h4] at h5
    exact ⟨hne, h5.symm⟩
theorem free_row {d : Nat} (h : s.noBox d = s) {i : Nat} {r : RowC} (hx : look (s.noBox d).row i = some r) : look s.row i = some r := by rw [h] at hx; exact hx

theorem ptrA_free {d d' : Nat} (h : d ≠ d') : (ptrA d).map (L.noPtr d') = ptrA d := by
  simp [ptrA, A.map, V.map, L.noPtr, L.noPtr0, h]

theorem addBox_free {d : Nat} {p : Nat × List L} (hne : p.1 ≠ d) (h : s.noBox d = s) (hl : p.2.map (L.noPtr d) = p.2) : (addBox s p).noBox d = addBox s p := by
  have h1 : (s.noBox d).env = s.env := by rw [h]
  have h2 : (s.noBox d).box = s.box := by rw [h]
  have h3 : (s.noBox d).row = s.row := by rw [h]
  have h1 : (s.env.map fun p => (p.1, p.2.map (L.noPtr d))) = s.env := h1
  have h2 : ((Bw.del d s.box).map fun p => (p.1, p.2.map (L.noPtr d))) = s.box := h2
  obtain ⟨d', ls⟩ := p
  simp only at hne hl
  show ({ n := s.n, env := (((d', ptrA d') :: s.env).map fun p => (p.1, p.2.map (L.noPtr d))), box := ((Bw.del d ((d', ls) :: s.box)).map fun p => (p.1, p.2.map (L.noPtr d))), row := (s.noBox d).row } : St) = addBox s (d', ls)
  simp only [List.map_cons, h1, del, if_neg hne, h2, h3, hl, ptrA_free hne]
  rfl

def floats (T : TypeId → Option TI) (n : Nat) : List Oper → Option (List (Nat × List L))
  | [] => some []
  | o :: l => match o.op, o.dst, o.guard with
    | .alloc e, some d, none => ((T e).bind (·.zero)).bind fun ls => if d < n then (floats T n l).map ((d, ls) :: ·) else none
    | _, _, _ => none
theorem floats_cons {n : Nat} {o : Oper} {l : List Oper} {bx : List (Nat × List L)} (h : floats T n (o :: l) = some bx) :
    ∃ e d i ls bx', o.op = .alloc e ∧ o.dst = some d ∧ o.guard = none ∧ T e = some i ∧ i.zero = some ls ∧ d < n ∧ floats T n l = some bx' ∧ bx = (d, ls) :: bx' := by
  unfold floats at h
  split at h
  · rename_i e d h1 h2 h3
    obtain ⟨ls, h4, h5⟩ := Option.bind_eq_some_iff.1 h
    obtain ⟨i, h6, h7⟩ := Option.bind_eq_some_iff.1 h4
    split at h5
    · rename_i hd
      obtain ⟨bx', h8, h9⟩ := Option.map_eq_some_iff.1 h5
      exact ⟨e, d, i, ls, bx', h1, h2, h3, h6, h7, hd, h8, h9.symm⟩
    · cases h5
  · cases h
theorem floats_get {n : Nat} : ∀ {l : List Oper} {bx : List (Nat × List L)}, floats T n l = some bx → bx.length = l.length ∧ ∀ (j : Nat) (o : Oper), l[j]? = some o →
    ∃ e d i ls, o.op = .alloc e ∧ o.dst = some d ∧ o.guard = none ∧ T e = some i ∧ i.zero = some ls ∧ d < n ∧ bx[j]? = some (d, ls)
  | [], bx, h => by
    injection h with h
    subst h
    exact ⟨rfl, fun j o hj => by simp at hj⟩
  | o :: l, bx, h => by
    obtain ⟨e, d, i, ls, bx', h1, h2, h3, h4, h5, h6, h7, rfl⟩ := floats_cons h
    obtain ⟨h8, h9⟩ := floats_get h7
    refine ⟨by simp [h8], fun j o' hj => ?_⟩
    cases j with
    | zero => simp only [List.getElem?_cons_zero, Option.some.injEq] at hj; subst hj; exact ⟨e, d, i, ls, h1, h2, h3, h4, h5, h6, rfl⟩
    | succ j => exact h9 j o' (by simpa using hj)

/-- The fresh variables in the order of the text. -/
theorem VOps_floats {ops : Array Oper} {K : St → Prop} {l2 : List Oper} : ∀ {l : List Oper} {bx : List (Nat × List L)} {s : St}, floats T s.n l = some bx → VOps P T ops (l ++ l2) s K →
    bx.Pairwise (fun p q => p.1 ≠ q.1) → (∀ p ∈ bx, s.noBox p.1 = s) → (∀ p ∈ bx, ∀ q ∈ bx, q.2.map (L.noPtr p.1) = q.2) → VOps P T ops l2 (bx.foldl addBox s) K
  | [], bx, s, hf, h, _, _, _ => by
    injection hf with hf
    subst hf
    exact h
  | o :: l, bx, s, hf, h, hp, hs, hz => by
    obtain ⟨e, d, i, ls, bx', h1, h2, h3, h4, h5, h6, h7, rfl⟩ := floats_cons hf
    simp only [List.cons_append, VOps] at h
    have hg : guardOf ops s o = some true := by unfold guardOf; rw [h3]
    rw [hg] at h
    simp only at h
    unfold VOp at h
    simp only [h1, h2, h4, h5, mO_some] at h
    rw [newBox_free (hs _ (by simp)) (hz (d, ls) (by simp) (d, ls) (by simp))] at h
    obtain ⟨hp1, hp2⟩ := List.pairwise_cons.1 hp
    exact VOps_floats (s := addBox s (d, ls)) h7 h.2 hp2 (fun p hp' => addBox_free (hp1 p hp') (hs p (by simp [hp'])) (hz p (by simp [hp']) (d, ls) (by simp))) fun p hp q hq => hz p (by simp [hp]) q (by simp [hq])

theorem fold_env {t : Tmp} {x : A} : ∀ {bx : List (Nat × List L)} {s : St}, look (bx.foldl addBox s).env t = some x → (∃ p ∈ bx, p.1 = t ∧ x = ptrA t) ∨ ((∀ p ∈ bx, p.1 ≠ t) ∧ look s.env t = some x)
  | [], s, h => .inr ⟨fun p hp => by simp at hp, h⟩
  | p :: bx, s, h => by
    rcases fold_env (bx := bx) (s := addBox s p) h with ⟨q, h1, h2, h3⟩ | ⟨h1, h2⟩
    · exact .inl ⟨q, by simp [h1], h2, h3⟩
    · simp only [addBox, look] at h2
      by_cases hp : p.1 = t
      · rw [if_pos hp] at h2
        injection h2 with h2
        exact .inl ⟨p, by simp, hp, by rw [← h2, hp]⟩
      · rw [if_neg hp] at h2
        refine .inr ⟨fun q hq => ?_, h2⟩
        rcases List.mem_cons.1 hq with rfl | hq
        · exact hp
        · exact h1 q hq
theorem fold_box {t : Nat} {x : List L} : ∀ {bx : List (Nat × List L)} {s : St}, look (bx.foldl addBox s).box t = some x → (t, x) ∈ bx ∨ ((∀ p ∈ bx, p.1 ≠ t) ∧ look s.box t = some x)
  | [], s, h => .inr ⟨fun p hp => by simp at hp, h⟩
  | p :: bx, s, h => by
    rcases fold_box (bx := bx) (s := addBox s p) h with h1 | ⟨h1, h2⟩
    · exact .inl (by simp [h1])
    · obtain ⟨p1, p2⟩ := p
      simp only [addBox, look] at h2
      by_cases hp : p1 = t
      · rw [if_pos hp] at h2
        injection h2 with h2
        exact .inl (by rw [← h2, ← hp]; simp)
      · rw [if_neg hp] at h2
        refine .inr ⟨fun q hq => ?_, h2⟩
        rcases List.mem_cons.1 hq with rfl | hq
        · exact hp
        · exact h1 q hq
theorem fold_row {bx : List (Nat × List L)} : ∀ {s : St}, (bx.foldl addBox s).row = s.row ∧ (bx.foldl addBox s).n = s.n := by
  induction bx with
  | nil => exact ⟨rfl, rfl⟩
  | cons p bx ih => intro s; exact ⟨(ih (s := addBox s p)).1, (ih (s := addBox s p)).2⟩

/-! ### the rule -/
theorem look_app {α : Type} {i : Nat} {x : α} : ∀ {l e : List (Nat × α)}, (l.Pairwise fun p q => p.1 ≠ q.1) → (look (l ++ e) i = some x ↔ (i, x) ∈ l ∨ ((∀ p ∈ l, p.1 ≠ i) ∧ look e i = some x))
  | [], e, _ => by simp
  | (t, y) :: l, e, h => by
    obtain ⟨h1, h2⟩ := List.pairwise_cons.1 h
    simp only [List.cons_append, look]
    by_cases ht : t = i
    · rw [if_pos ht]
      constructor
      · intro hx
        injection hx with hx
        exact .inl (by rw [← hx, ← ht]; simp)
      · rintro (hx | ⟨hx, _⟩)
        · rcases List.mem_cons.1 hx with hx | hx
          · injection hx with _ hx; rw [hx]
          · exact absurd ht (h1 _ hx)
        · exact absurd ht (hx (t, y) (by simp))
    · rw [if_neg ht, look_app h2]
      constructor
      · rintro (hx | ⟨hx, hy⟩)
        · exact .inl (by simp [hx])
        · refine .inr ⟨fun q hq => ?_, hy⟩
          rcases List.mem_cons.1 hq with rfl | hq
          · exact ht
          · exact hx q hq
      · rintro (hx | ⟨hx, hy⟩)
        · rcases List.mem_cons.1 hx with hx | hx
          · injection hx with hx _; exact absurd hx.symm ht
          · exact .inl hx
        · exact .inr ⟨fun q hq => hx q (by simp [hq]), hy⟩

theorem puts_append (qs : List (Option Tmp × A)) : ∀ (ps : List (Option Tmp × A)) (s : St), puts s (ps ++ qs) = puts (puts s ps) qs
  | [], _ => rfl
  | p :: ps, s => puts_append qs ps (s.putO p.1 p.2)


/-- The variables made fresh that are listed, with what they hold. -/
def selB (na nb : Nat) (S : Nat → Bool) (es : List (Nat × List L × List L)) : List (Nat × List L) := (es.zipIdx.filter fun p => S (na + p.2)).map fun p => (p.1.1, if S (na + nb + p.2) then p.1.2.2 else p.1.2.1)
theorem mem_selB {na nb : Nat} {S : Nat → Bool} {es : List (Nat × List L × List L)} {p : Nat × List L} : p ∈ selB na nb S es ↔ ∃ j e, S (na + j) = true ∧ es[j]? = some e ∧ p = (e.1, if S (na + nb + j) then e.2.2 else e.2.1) := by
  unfold selB
  simp only [List.mem_map, List.mem_filter]
  constructor
  · rintro ⟨⟨q, i⟩, ⟨h1, h2⟩, rfl⟩
    exact ⟨i, q, h2, by simpa using List.mem_zipIdx_iff_getElem?.1 h1, rfl⟩
  · rintro ⟨i, e, h1, h2, rfl⟩
    exact ⟨(e, i), ⟨List.mem_zipIdx_iff_getElem?.2 (by simpa using h2), h1⟩, rfl⟩
theorem selB_keys {na nb : Nat} {S : Nat → Bool} {es : List (Nat × List L × List L)} (h : es.Pairwise fun p q => p.1 ≠ q.1) : (selB na nb S es).Pairwise fun p q => p.1 ≠ q.1 := by
  unfold selB
  rw [List.pairwise_map]
  have h1 : es.zipIdx.Pairwise fun p q => p.1.1 ≠ q.1.1 := by
    have h3 : es.zipIdx.map (fun p : (Nat × List L × List L) × Nat => p.1) = es := by simp
    rw [← h3, List.pairwise_map] at h
    exact h
  exact List.Pairwise.sublist List.filter_sublist h1
theorem keys_inj {es : List (Nat × List L × List L)} (h : es.Pairwise fun p q => p.1 ≠ q.1) {i j : Nat} {e f : Nat × List L × List L} (hi : es[i]? = some e) (hj : es[j]? = some f) (he : e.1 = f.1) : i = j := by
  obtain ⟨li, ei⟩ := List.getElem?_eq_some_iff.1 hi
  obtain ⟨lj, ej⟩ := List.getElem?_eq_some_iff.1 hj
  rcases Nat.lt_trichotomy i j with hlt | heq | hgt
  · exact absurd (by rw [ei, ej]; exact he) (List.pairwise_iff_getElem.1 h i j li lj hlt)
  · exact heq
  · exact absurd (by rw [ei, ej]; exact he.symm) (List.pairwise_iff_getElem.1 h j i lj li hgt)

def storesOk (ds : List Nat) : List (Nat × List L) → List Oper → Bool
  | [], [] => true
  | p :: bx, o :: l => (match o.op, o.dst, o.guard with
    | .store _ (.tmp d) y, none, none => d == p.1 && (match y with | .tmp u => !(ds.contains u) | _ => true)
    | _, _, _ => false) && storesOk ds bx l
  | _, _ => false
theorem storesOk_cons {ds : List Nat} {p : Nat × List L} {bx : List (Nat × List L)} {o : Oper} {l : List Oper} (h : storesOk ds (p :: bx) (o :: l) = true) : (∃ t y, o.op = .store t (.tmp p.1) y ∧ o.dst = none ∧ o.guard = none ∧ ∀ u, y = .tmp u → u ∉ ds) ∧ storesOk ds bx l = true := by
  unfold storesOk at h
  rw [Bool.and_eq_true] at h
  obtain ⟨h, h'⟩ := h
  refine ⟨?_, h'⟩
  split at h
  · rename_i t d y h1 h2 h3
    rw [Bool.and_eq_true] at h
    obtain ⟨h, hu⟩ := h
    have hd : d = p.1 := by simpa using h
    subst hd
    refine ⟨t, y, h1, h2, h3, fun u hy => ?_⟩
    subst hy
    simpa using hu
  · cases h

theorem VOps_stores {ops : Array Oper} {K : St → Prop} {ds : List Nat} {l2 : List Oper} : ∀ {l : List Oper} {bx : List (Nat × List L)} {s : St}, storesOk ds bx l = true → VOps P T ops (l ++ l2) s K → (bx.Pairwise fun p q => p.1 ≠ q.1) →
    (∀ p ∈ bx, look s.env p.1 = some (ptrA p.1) ∧ look s.box p.1 = some p.2) → ∃ fins : List (List L), fins.length = bx.length ∧ VOps P T ops l2 { s with box := (bx.zip fins).foldl (fun b q => sput q.1.1 q.2 b) s.box } K ∧
      ∀ (j : Nat) (o : Oper), l[j]? = some o → ∃ t y i vs p, bx[j]? = some p ∧ o.op = .store t (.tmp p.1) y ∧ o.dst = none ∧ o.guard = none ∧ (∀ u, y = .tmp u → u ∉ ds) ∧ T t = some i ∧ partCells T s 0 y = some vs ∧ vs.length = i.size ∧ vs.length ≤ p.2.length ∧ fins[j]? = some (setL 0 vs p.2)
  | [], bx, s, hst, h, hp, hb => by
    cases bx with
    | nil => exact ⟨[], rfl, h, fun j o hj => by simp at hj⟩
    | cons p bx => cases hst
  | o :: l, bx, s, hst, h, hp, hb => by
    cases bx with
    | nil => cases hst
    | cons p bx =>
      obtain ⟨⟨t, y, h1, h2, h3, hu⟩, hst'⟩ := storesOk_cons hst
      simp only [List.cons_append, VOps] at h
      have hg : guardOf ops s o = some true := by unfold guardOf; rw [h3]
      rw [hg] at h
      simp only at h
      unfold VOp at h
      simp only [h1] at h
      obtain ⟨_, h⟩ := h
      obtain ⟨i, h4, h⟩ := mO_elim h
      obtain ⟨vs, h5, h⟩ := mO_elim h
      obtain ⟨x, h6, h⟩ := mO_elim h
      have h7 : evalO T s 0 (.tmp p.1) = some (ptrA p.1) := (hb p (by simp)).1
      rw [h7] at h6
      have h6 : some (L.ptr p.1 0) = some x := h6
      injection h6 with h6
      subst h6
      simp only [storeK, (hb p (by simp)).2, mO_some, Nat.zero_add] at h
      obtain ⟨⟨h8, h9⟩, h⟩ := h
      obtain ⟨hp1, hp2⟩ := List.pairwise_cons.1 hp
      obtain ⟨fins, g1, g2, g3⟩ := VOps_stores (s := { s with box := sput p.1 (setL 0 vs p.2) s.box }) hst' h hp2 fun q hq => ⟨(hb q (by simp [hq])).1, by
        show look (sput p.1 (setL 0 vs p.2) s.box) q.1 = _
        rw [look_sput, if_neg (fun e => hp1 q hq e.symm)]
        exact (hb q (by simp [hq])).2⟩
      refine ⟨setL 0 vs p.2 :: fins, by simp [g1], g2, fun j o' hj => ?_⟩
      cases j with
      | zero =>
        simp only [List.getElem?_cons_zero, Option.some.injEq] at hj
        subst hj
        exact ⟨t, y, i, vs, p, rfl, h1, h2, h3, hu, h4, h5, h8, h9, rfl⟩
      | succ j =>
        obtain ⟨t', y', i', vs', q, k1, k2, k3, k4, k5, k6, k7, k8, k9, k10⟩ := g3 j o' (by simpa using hj)
        exact ⟨t', y', i', vs', q, k1, k2, k3, k4, k5, k6, k7, k8, k9, k10⟩

theorem partCells_free {d : Nat} {ty : TypeId} {x : Operand} {vs : List L} (he : ∀ t y, x = .tmp t → look s.env t = some y → y.map (L.noPtr d) = y) (h : partCells T s ty x = some vs) : vs.map (L.noPtr d) = vs := by
  unfold partCells at h
  have hx : ∀ y, evalO T s ty x = some y → y.map (L.noPtr d) = y := by
    intro y hy
    cases x with
    | tmp t => exact he t y rfl hy
    | const c =>
      have hy : constA T ty c = some y := hy
      unfold constA at hy
      split at hy <;> first | (injection hy with hy; subst hy; rfl) | cases hy
    | func f => injection hy with hy; subst hy; rfl
    | global g => cases hy
  split at h
  · rename_i l hl
    injection h with h
    subst h
    have := hx _ hl
    simp only [A.map, V.map, A.v.injEq, V.one.injEq] at this
    simp [this]
  · rename_i ls hl
    injection h with h
    subst h
    have := hx _ hl
    simpa only [A.map, V.map, A.v.injEq, V.agg.injEq] using this
  · cases h
theorem setL_free {d : Nat} : ∀ (n : Nat) (vs ls : List L), vs.map (L.noPtr d) = vs → ls.map (L.noPtr d) = ls → (setL n vs ls).map (L.noPtr d) = setL n vs ls
  | 0, [], ls, _, h => by simpa [setL] using h
  | 0, v :: vs, l :: ls, hv, h => by
    simp only [List.map_cons, List.cons.injEq] at hv h
    simp only [setL, List.map_cons, hv.1, setL_free 0 vs ls hv.2 h.2]
  | n + 1, vs, l :: ls, hv, h => by
    simp only [List.map_cons, List.cons.injEq] at h
    simp only [setL, List.map_cons, h.1, setL_free n vs ls hv h.2]
  | 0, v :: vs, [], _, _ => rfl
  | n + 1, vs, [], _, _ => rfl

theorem fold_sput {id : Nat} {x : List L} : ∀ {bx : List (Nat × List L)} {fins : List (List L)} {b : List (Nat × List L)}, fins.length = bx.length → (bx.Pairwise fun p q => p.1 ≠ q.1) → (look ((bx.zip fins).foldl (fun b q => sput q.1.1 q.2 b) b) id = some x ↔
    (∃ (j : Nat) (p : Nat × List L), bx[j]? = some p ∧ p.1 = id ∧ fins[j]? = some x) ∨ ((∀ p ∈ bx, p.1 ≠ id) ∧ look b id = some x))
  | [], fins, b, _, _ => by simp
  | p :: bx, [], b, h, _ => by simp at h
  | p :: bx, f :: fins, b, h, hp => by
    obtain ⟨hp1, hp2⟩ := List.pairwise_cons.1 hp
    rw [List.zip_cons_cons, List.foldl_cons, fold_sput (by simpa using h) hp2]
    simp only [look_sput]
    constructor
    · rintro (⟨j, q, h1, h2, h3⟩ | ⟨h1, h2⟩)
      · exact .inl ⟨j + 1, q, by simpa using h1, h2, by simpa using h3⟩
      · split at h2
        · rename_i he
          injection h2 with h2
          exact .inl ⟨0, p, rfl, he.symm, by simp [h2]⟩
        · rename_i he
          refine .inr ⟨fun q hq => ?_, h2⟩
          rcases List.mem_cons.1 hq with rfl | hq
          · exact fun e => he e.symm
          · exact h1 q hq
    · rintro (⟨j, q, h1, h2, h3⟩ | ⟨h1, h2⟩)
      · cases j with
        | zero =>
          simp only [List.getElem?_cons_zero, Option.some.injEq] at h1 h3
          subst h1 h3
          refine .inr ⟨fun q hq e => hp1 q hq (by rw [h2, e]), ?_⟩
          rw [if_pos h2.symm]
        | succ j => exact .inl ⟨j, q, by simpa using h1, h2, by simpa using h3⟩
      · refine .inr ⟨fun q hq => h1 q (by simp [hq]), ?_⟩
        rw [if_neg (fun e => h1 p (by simp) e.symm)]
        exact h2


theorem fold_env_ne {t : Tmp} : ∀ {bx : List (Nat × List L)} {s : St}, (∀ p ∈ bx, p.1 ≠ t) → look (bx.foldl addBox s).env t = look s.env t
  | [], s, _ => rfl
  | p :: bx, s, h => by
    rw [List.foldl_cons, fold_env_ne (fun q hq => h q (by simp [hq]))]
    simp only [addBox, look]
    rw [if_neg (h p (by simp))]
theorem look_puts_ne {t : Tmp} : ∀ {ps : List (Option Tmp × A)} {s : St}, (∀ p ∈ ps, p.1 ≠ some t) → look (puts s ps).env t = look s.env t
  | [], s, _ => rfl
  | p :: ps, s, h => by
    rw [puts, look_puts_ne (fun q hq => h q (by simp [hq]))]
    have hp := h p (by simp)
    unfold St.putO
    cases hd : p.1 with
    | none => rfl
    | some d =>
      simp only [St.put, look]
      rw [if_neg (fun e => hp (by rw [hd, e]))]

def stS (s : St) (ps : List (Option Tmp × A)) (na nb : Nat) (es : List (Nat × List L × List L)) (S : Nat → Bool) : St := { n := s.n, env := (puts s (sel S ps)).env, box := selB na nb S es ++ s.box, row := s.row }

/-- NA quiet operations, NB fresh variables, NB stores of the one into the other; the order is drawn. -/
theorem AWP.drawS (hT : TabOk P T) (hm : P.follows .mixedOrders = true) {Q : Exit → St → Prop} {id : Nat} {l l1 l2 l3 l4 : List Oper} (na nb dep : Nat) (bx : List (Nat × List L)) (hchk : drawOk l.toArray (na + nb + nb) dep = true) (h1 : l.take na = l1) (h2 : (l.drop na).take nb = l2)
    (h4 : (l.drop (na + nb)).take nb = l4) (h3 : l.drop (na + nb + nb) = l3)
    (hfl : floats T s.n l2 = some bx) (hso : storesOk (bx.map (·.1)) bx l4 = true) (hz : ∀ p ∈ bx, ∀ q ∈ bx, q.2.map (L.noPtr p.1) = q.2) (hs : ∀ p ∈ bx, s.noBox p.1 = s)
    (h : ∀ K : St → Prop, (∀ s', Q .normal s' → K s') → VHead P T l.toArray l1 s fun s1 => (∀ p ∈ bx, s1.noBox p.1 = s1) ∧ VOps P T l.toArray (l2 ++ (l4 ++ l3)) s1 K) : AWP P w0 m0 F0 (.region id l.toArray true) Q s := by
  intro a w hc
  have F := drawFacts hchk
  have hle : na + nb + nb ≤ l.length := by simpa using F.le
  obtain ⟨ps, g1, ⟨hs1, hV⟩, g3⟩ := VHead_chain _ _ (h _ fun _ h => h)
  have hlen : ps.length = na := by rw [g1, ← h1, List.length_take]; omega
  obtain ⟨hbl, hbg⟩ := floats_get hfl
  have hbl : bx.length = nb := by rw [hbl, ← h2, List.length_take, List.length_drop]; omega
  have hl4 : l4.length = nb := by rw [← h4, List.length_take, List.length_drop]; omega
  generalize hps : ps ++ ((bx.map fun p => (some p.1, ptrA p.1)) ++ List.replicate nb ((none, .tup []) : Option Tmp × A)) = ps'
  have hget : ∀ j, j < l.length → ∃ o, l[j]? = some o := fun j hj => ⟨l[j], List.getElem?_eq_getElem hj⟩
  -- the stores' shape
  have hsto : ∀ (j : Nat) (o : Oper), l4[j]? = some o → ∃ p t y, bx[j]? = some p ∧ o.op = .store t (.tmp p.1) y ∧ o.dst = none := by
    have key : ∀ (ds : List Nat) (bx : List (Nat × List L)) (l4 : List Oper), storesOk ds bx l4 = true → ∀ (j : Nat) (o : Oper), l4[j]? = some o → ∃ p t y, bx[j]? = some p ∧ o.op = .store t (.tmp p.1) y ∧ o.dst = none := by
      intro ds bx
      induction bx with
      | nil =>
        intro l4 hh j o hj
        cases l4 with
        | nil => simp at hj
        | cons _ _ => cases hh
      | cons p bx ih =>
        intro l4 hh j o hj
        cases l4 with
        | nil => simp at hj
        | cons o' l4 =>
          obtain ⟨⟨t, y, k1, k2, _⟩, k3⟩ := storesOk_cons hh
          cases j with
          | zero => simp only [List.getElem?_cons_zero, Option.some.injEq] at hj; subst hj; exact ⟨p, t, y, rfl, k1, k2⟩
          | succ j => exact ih l4 k3 j o (by simpa using hj)
    exact key _ bx l4 hso
  -- what each writes
  have hq : ∀ j p, ps'[j]? = some p → j < na + nb + nb ∧ dstAt l.toArray j = p.1 := by
    intro j p hp
    rw [← hps] at hp
    have hj : j < na + nb + nb := by
      have := (List.getElem?_eq_some_iff.1 hp).1
      simp only [List.length_append, List.length_map, List.length_replicate, hlen, hbl] at this
      omega
    refine ⟨hj, ?_⟩
    obtain ⟨o, ho⟩ := hget j (by omega)
    rcases Nat.lt_or_ge j na with hjn | hjn
    · rw [List.getElem?_append_left (by omega)] at hp
      obtain ⟨x, h5, _⟩ := g3 j o (by rw [← h1, List.getElem?_take, if_pos hjn, ho])
      rw [hp] at h5
      injection h5 with h5
      simp [dstAt, ho, h5]
    · rw [List.getElem?_append_right (by omega), hlen] at hp
      rcases Nat.lt_or_ge (j - na) nb with hjb | hjb
      · rw [List.getElem?_append_left (by simp; omega), List.getElem?_map] at hp
        obtain ⟨q, h5, h6⟩ := Option.map_eq_some_iff.1 hp
        obtain ⟨e, d, i, ls, k1, k2, k3, k4, k5, k6, k7⟩ := hbg (j - na) o (by rw [← h2, List.getElem?_take, if_pos hjb, List.getElem?_drop, show na + (j - na) = j by omega, ho])
        rw [h5] at k7
        injection k7 with k7
        subst h6 k7
        simp [dstAt, ho, k2]
      · rw [List.getElem?_append_right (by simp; omega)] at hp
        simp only [List.length_map, hbl] at hp
        rw [List.getElem?_replicate, if_pos (by omega)] at hp
        injection hp with hp
        obtain ⟨q, t, y, k1, k2, k3⟩ := hsto (j - na - nb) o (by rw [← h4, List.getElem?_take, if_pos (by omega), List.getElem?_drop, show na + nb + (j - na - nb) = j by omega, ho])
        subst hp
        simp [dstAt, ho, k3]
  have hapart : ApartP ps' := by
    refine List.pairwise_iff_getElem.2 fun i j hi hj hij t hp => ?_
    obtain ⟨a1, a2⟩ := hq i _ (List.getElem?_eq_getElem hi)
    obtain ⟨b1, b2⟩ := hq j _ (List.getElem?_eq_getElem hj)
    rw [← b2]
    exact F.apart i j a1 b1 (by omega) t (by rw [a2, hp])
  have hapart' := hapart
  rw [← hps] at hapart'
  obtain ⟨hap1, hap2, hap3⟩ := List.pairwise_append.1 hapart'
  have hkeys : bx.Pairwise fun p q => p.1 ≠ q.1 := by
    have h5 := (List.pairwise_map.1 (List.pairwise_append.1 hap2).1)
    exact h5.imp fun {p q} hpq e => hpq p.1 rfl (by rw [e])
  -- nothing else points to a fresh one
  have hfree : ∀ p ∈ ps', ∀ t, p.1 = some t → ∀ q ∈ bx, t ≠ q.1 → p.2.map (L.noPtr q.1) = p.2 := by
    intro p hp t ht q hq' hne
    rw [← hps] at hp
    rcases List.mem_append.1 hp with hp | hp
    · have h5 : look (puts s ps).env t = some p.2 := (look_puts ps s (ApartP.apart hap1) t p.2).2 (.inl (by rw [← ht]; exact hp))
      exact free_env (hs1 q hq') h5
    · rcases List.mem_append.1 hp with hp | hp
      · obtain ⟨r, h5, rfl⟩ := List.mem_map.1 hp
        have ht : some r.1 = some t := ht
        injection ht with ht
        exact ptrA_free (by rw [ht]; exact hne)
      · rw [(List.mem_replicate.1 hp).2] at ht
        cases ht
  have hV2 := VOps_floats (s := puts s ps) (by rw [puts_n]; exact hfl) hV hkeys hs1 hz
  -- the looks of the state after them
  have hfe : ∀ p ∈ bx, look (bx.foldl addBox (puts s ps)).env p.1 = some (ptrA p.1) := by
    have key : ∀ (bx : List (Nat × List L)) (s : St), (bx.Pairwise fun p q => p.1 ≠ q.1) → (∀ p, (p ∈ bx ∨ look s.env p.1 = some (ptrA p.1)) → look (bx.foldl addBox s).env p.1 = some (ptrA p.1)) := by
      intro bx
      induction bx with
      | nil => intro s _ p hp; rcases hp with hp | hp; · cases hp
               · exact hp
      | cons q bx ih =>
        intro s hk p hp
        refine ih (addBox s q) (List.pairwise_cons.1 hk).2 p ?_
        rcases hp with hp | hp
        · rcases List.mem_cons.1 hp with rfl | hp
          · right; simp [addBox, look]
          · exact .inl hp
        · right
          simp only [addBox, look]
          split
          · rename_i e; rw [e]
          · exact hp
    exact fun p hp => key bx _ hkeys p (.inl hp)
  have hfb : ∀ p ∈ bx, look (bx.foldl addBox (puts s ps)).box p.1 = some p.2 := by
    have key : ∀ (bx : List (Nat × List L)) (s : St), (bx.Pairwise fun p q => p.1 ≠ q.1) → (∀ p, (p ∈ bx ∨ ((∀ q ∈ bx, q.1 ≠ p.1) ∧ look s.box p.1 = some p.2)) → look (bx.foldl addBox s).box p.1 = some p.2) := by
      intro bx
      induction bx with
      | nil => intro s _ p hp; rcases hp with hp | hp; · cases hp
               · exact hp.2
      | cons q bx ih =>
        intro s hk p hp
        obtain ⟨hk1, hk2⟩ := List.pairwise_cons.1 hk
        refine ih (addBox s q) hk2 p ?_
        rcases hp with hp | ⟨hp1, hp2⟩
        · rcases List.mem_cons.1 hp with rfl | hp
          · right
            refine ⟨fun q hq e => hk1 q hq e.symm, ?_⟩
            obtain ⟨p1, p2⟩ := p
            simp [addBox, look]
          · exact .inl hp
        · right
          refine ⟨fun q' hq => hp1 q' (by simp [hq]), ?_⟩
          obtain ⟨q1, q2⟩ := q
          simp only [addBox, look]
          rw [if_neg (hp1 (q1, q2) (by simp))]
          exact hp2
    exact fun p hp => key bx _ hkeys p (.inl hp)
  obtain ⟨fins, f1, hV3, f3⟩ := VOps_stores hso hV2 hkeys fun p hp => ⟨hfe p hp, hfb p hp⟩
  generalize hes : ((bx.zip fins).map fun q => (q.1.1, q.1.2, q.2)) = es
  have he1 : ∀ (j : Nat) (e : Nat × List L × List L), es[j]? = some e → bx[j]? = some (e.1, e.2.1) ∧ fins[j]? = some e.2.2 := by
    intro j e he
    rw [← hes, List.getElem?_map] at he
    obtain ⟨q, h5, h6⟩ := Option.map_eq_some_iff.1 he
    rw [List.getElem?_zip_eq_some] at h5
    subst h6
    exact h5
  have he2 : ∀ (j : Nat) (p : Nat × List L) (f : List L), bx[j]? = some p → fins[j]? = some f → es[j]? = some (p.1, p.2, f) := by
    intro j p f hp hf
    have hz' : (bx.zip fins)[j]? = some (p, f) := List.getElem?_zip_eq_some.2 ⟨hp, hf⟩
    rw [← hes, List.getElem?_map, hz']
    rfl
  have hek : es.Pairwise fun p q => p.1 ≠ q.1 := by
    refine List.pairwise_iff_getElem.2 fun i j hi hj hij => ?_
    obtain ⟨li, ei⟩ := List.getElem?_eq_some_iff.1 (he1 i _ (List.getElem?_eq_getElem hi)).1
    obtain ⟨lj, ej⟩ := List.getElem?_eq_some_iff.1 (he1 j _ (List.getElem?_eq_getElem hj)).1
    have := List.pairwise_iff_getElem.1 hkeys i j li lj hij
    rw [ei, ej] at this
    exact this
  have hbxm : ∀ (j : Nat) (e : Nat × List L × List L), es[j]? = some e → (e.1, e.2.1) ∈ bx := fun j e he => List.mem_of_getElem? (he1 j e he).1
  have hff : ∀ (j : Nat) (e : Nat × List L × List L), es[j]? = some e → ∀ q ∈ bx, e.2.2.map (L.noPtr q.1) = e.2.2 := by
    intro j e he q hq'
    obtain ⟨k1, k2⟩ := he1 j e he
    have hjl : j < l4.length := by rw [hl4, ← hbl]; exact (List.getElem?_eq_some_iff.1 k1).1
    obtain ⟨t, y, i, vs, p, m1, m2, m3, m4, m5, m6, m7, m8, m9, m10⟩ := f3 j l4[j] (List.getElem?_eq_getElem hjl)
    rw [k2] at m10
    injection m10 with m10
    rw [m10]
    refine setL_free 0 vs p.2 (partCells_free (fun u z hy hz' => ?_) m7) (hz q hq' p (List.mem_of_getElem? m1))
    have hu : ∀ p ∈ bx, p.1 ≠ u := fun p hp e => m5 u hy (List.mem_map.2 ⟨p, hp, e⟩)
    rw [fold_env_ne hu] at hz'
    exact free_env (hs1 q hq') hz'
  have hzf : ∀ (j : Nat) (e : Nat × List L × List L) (S : Nat → Bool), es[j]? = some e → ∀ q ∈ bx, (if S (na + nb + j) then e.2.2 else e.2.1).map (L.noPtr q.1) = if S (na + nb + j) then e.2.2 else e.2.1 := by
    intro j e S he q hq'
    split
    · exact hff j e he q hq'
    · exact hz q hq' _ (hbxm j e he)
  have hps2 : ∀ (j : Nat) (p : Nat × List L), bx[j]? = some p → ps'[na + j]? = some (some p.1, ptrA p.1) := by
    intro j p hp
    have hj : j < nb := by rw [← hbl]; exact (List.getElem?_eq_some_iff.1 hp).1
    rw [← hps, List.getElem?_append_right (by omega), hlen, show na + j - na = j by omega, List.getElem?_append_left (by simp; omega), List.getElem?_map, hp]
    rfl
  have hps3 : ∀ j, j < nb → ps'[na + nb + j]? = some (none, .tup []) := by
    intro j hj
    rw [← hps, List.getElem?_append_right (by omega), hlen, List.getElem?_append_right (by simp; omega)]
    simp only [List.length_map, hbl]
    rw [List.getElem?_replicate, if_pos (by omega)]
  have hst_alloc : ∀ (S : Nat → Bool) (j : Nat) (e : Nat × List L × List L), es[j]? = some e → na + nb + j ∈ [na + nb + j] → (∀ k ∈ clo l.toArray dep (na + nb + j), S k = true) → S (na + j) = true := by
    intro S j e he _ hS
    obtain ⟨k1, k2⟩ := he1 j e he
    have hj : j < nb := by rw [← hbl]; exact (List.getElem?_eq_some_iff.1 k1).1
    obtain ⟨o, ho⟩ := hget (na + nb + j) (by omega)
    obtain ⟨p, t, y, m1, m2, m3⟩ := hsto j o (by rw [← h4, List.getElem?_take, if_pos hj, List.getElem?_drop, ho])
    rw [k1] at m1
    injection m1 with m1
    obtain ⟨_, hd⟩ := hq _ _ (hps2 j _ k1)
    refine hS _ ((F.reads (na + nb + j) (na + j) e.1 (by omega) (by omega) (by omega) hd ?_).1 (by omega))
    have hoo : l.toArray[na + nb + j]? = some o := by simpa using ho
    simp only [looksAt, hoo]
    refine operand_looks ?_
    rw [m2, ← m1]
    simp [Op.operands]
  obtain ⟨m, ω, hC⟩ := hc
  refine wp_region_any hm ?_
  have hg0 : ∀ i, (Array.replicate l.toArray.size false).getD i false = false := fun i => by
    rw [Array.getD_eq_getD_getElem?, Array.getElem?_replicate]
    split <;> rfl
  refine draw_headG hT F (K := Q .normal) (Q := PostQ P w0 m0 F0 Q) (s2 := _) (C := fun S a w => ∃ m ω, CI P w0 m0 F0 (stS s ps' na nb es S) a w m ω)
    (fun s a w h1 h2 => ⟨s, h1, h2⟩) (fun S i a w o ho hi hSi htl hcl hcl2 hC' K' Q' hK => ?_) (fun S a w hall htl hC' => ?_) (by rw [show l.toArray.toList = l from rfl, h3]; exact hV3) l.toArray.size _ a _ 0 (by omega) (by simp) ?_ ?_ ?_ ?_
  · obtain ⟨m, ω, hC'⟩ := hC'
    have hol : l[i]? = some o := by simpa using ho
    rcases Nat.lt_or_ge i na with hin | hin
    · obtain ⟨x, h5, hS⟩ := g3 i o (by rw [← h1, List.getElem?_take, if_pos hin, hol])
      have h5' : ps'[i]? = some (o.dst, x) := by rw [← hps, List.getElem?_append_left (by omega)]; exact h5
      have htake : ps'.take i = ps.take i := by rw [← hps, List.take_append_of_le_length (by omega)]
      refine StepOK_sound hT hS (s := stS s ps' na nb es S) (fun id ls hb => ?_) (by rw [puts_row]; rfl) (by rw [puts_n]; rfl) (fun t ht => ?_) hC' (fun v w' m' hC2 => hK _ _ ⟨m', ω, hC2.ext ?_ (fun t => ?_) ?_ ?_⟩)
      · rw [puts_box] at hb
        refine (look_app (selB_keys hek)).2 (.inr ⟨fun p hp e => ?_, hb⟩)
        obtain ⟨j, f, _, hj, rfl⟩ := mem_selB.1 hp
        exact (free_box (hs _ (hbxm j f hj)) hb).1 e.symm
      · have := look_head (s := s) F hapart hq hi hSi hcl hcl2 (t := t) (by simpa [looksAt, hol] using ht)
        rw [htake] at this
        exact this
      · rw [putO_n]; rfl
      · show look (puts s (sel (fun j => if j = i then true else S j) ps')).env t = _
        rw [sel_step hapart h5' hSi]
        unfold St.putO
        cases hd : o.dst with
        | none => simp [stS]
        | some d => simp only [St.put, look, Option.some.injEq, stS]
      · rw [putO_box]
        show selB na nb _ es ++ s.box = selB na nb S es ++ s.box
        congr 1
        unfold selB
        have e1 : ∀ q : (Nat × List L × List L) × Nat, (if na + q.2 = i then true else S (na + q.2)) = S (na + q.2) := fun q => if_neg (by omega)
        have e2 : ∀ q : (Nat × List L × List L) × Nat, (if na + nb + q.2 = i then true else S (na + nb + q.2)) = S (na + nb + q.2) := fun q => if_neg (by omega)
        simp only [e1, e2]
      · rw [putO_row]; rfl
    · rcases Nat.lt_or_ge (i - na) nb with hib | hib
      · -- a fresh variable
        obtain ⟨e, d, ti, ls, k1, k2, k3, k4, k5, k6, k7⟩ := hbg (i - na) o (by rw [← h2, List.getElem?_take, if_pos hib, List.getElem?_drop, show na + (i - na) = i by omega, hol])
        have hmem : (d, ls) ∈ bx := List.mem_of_getElem? k7
        obtain ⟨fin, hfin⟩ : ∃ f, fins[i - na]? = some f := ⟨fins[i - na]'(by omega), List.getElem?_eq_getElem _⟩
        have hes1 := he2 _ _ _ k7 hfin
        have hstS : S (na + nb + (i - na)) = false := by
          cases hb : S (na + nb + (i - na)) with
          | false => rfl
          | true =>
            have := hst_alloc S _ _ hes1 (by simp) (hcl2 _ hb)
            rw [show na + (i - na) = i by omega, hSi] at this
            cases this
        have h5' : ps'[i]? = some (some d, ptrA d) := by
          have := hps2 _ _ k7
          rwa [show na + (i - na) = i by omega] at this
        have hw : Region.wanted o (yielded l.toArray a.tmps) = true := by unfold Region.wanted; rw [k3]
        rw [if_pos hw]
        refine .inl (moves_alloc k1 k2 (s := stS s ps' na nb es S) k6 (hT _ _ k4) k5 hC' K' Q' fun v w' ⟨m', ω', hC2⟩ => hK _ _ ⟨m', ω', hC2.weaken rfl (fun t x hx => ?_) (fun id bs hb => ?_) (fun id r hr => ?_)⟩)
        · have hx : look (puts s (sel (fun j => if j = i then true else S j) ps')).env t = some x := hx
          rw [sel_step hapart h5' hSi] at hx
          show look ((d, ptrA d) :: ((puts s (sel S ps')).env.map fun p => (p.1, p.2.map (L.noPtr d)))) t = some x
          simp only [look]
          by_cases hdt : d = t
          · rw [if_pos hdt]
            rw [if_pos (by rw [hdt])] at hx
            exact hx
          · rw [if_neg hdt, look_map (fun x : A => x.map (L.noPtr d))]
            rw [if_neg (by simpa using hdt)] at hx
            rw [hx]
            show some (x.map (L.noPtr d)) = some x
            congr 1
            rcases (look_puts _ _ (sel_apart hapart).apart t x).1 hx with h5 | ⟨_, h5⟩
            · obtain ⟨j, _, hj⟩ := mem_sel.1 h5
              exact hfree _ (List.mem_of_getElem? hj) t rfl _ hmem (fun e => hdt e.symm)
            · exact free_env (hs _ hmem) h5
        · have hb : look (selB na nb (fun j => if j = i then true else S j) es ++ s.box) id = some bs := hb
          show look ((d, ls.map (L.noPtr d)) :: ((Bw.del d (selB na nb S es ++ s.box)).map fun p => (p.1, p.2.map (L.noPtr d)))) id = some bs
          rw [hz (d, ls) hmem (d, ls) hmem]
          simp only [look]
          rcases (look_app (selB_keys hek)).1 hb with h5 | ⟨h5, h6⟩
          · obtain ⟨j, f, hj, hj', hjp⟩ := mem_selB.1 h5
            injection hjp with hj1 hj2
            by_cases hdi : d = id
            · rw [if_pos hdi]
              have hji : j = i - na := keys_inj hek hj' hes1 (by rw [← hj1, ← hdi])
              subst hji
              rw [hes1] at hj'
              injection hj' with hj'
              rw [hj2, ← hj']
              simp [show na + nb + (i - na) ≠ i by omega, hstS]
            · rw [if_neg hdi, look_map (fun x : List L => x.map (L.noPtr d)), look_del, if_neg (fun e => hdi e.symm)]
              have hjne : na + j ≠ i := fun e => by
                have : j = i - na := by omega
                subst this
                rw [hes1] at hj'
                injection hj' with hj'
                exact hdi (by rw [hj1, ← hj'])
              have hjl : j < nb := by rw [← hbl]; exact (List.getElem?_eq_some_iff.1 (he1 _ _ hj').1).1
              have hjne2 : na + nb + j ≠ i := by omega
              have h7 : look (selB na nb S es ++ s.box) id = some bs := (look_app (selB_keys hek)).2 (.inl (mem_selB.2 ⟨j, f, by simpa [hjne] using hj, hj', by rw [hj1, hj2, if_neg hjne2]⟩))
              rw [h7]
              refine congrArg some ?_
              rw [hj2, if_neg hjne2]
              exact hzf j f S hj' _ hmem
          · obtain ⟨h8, h9⟩ := free_box (hs _ hmem) h6
            rw [if_neg (fun e => h8 e.symm), look_map (fun x : List L => x.map (L.noPtr d)), look_del, if_neg h8]
            have h7 : look (selB na nb S es ++ s.box) id = some bs := (look_app (selB_keys hek)).2 (.inr ⟨fun p hp => by
              obtain ⟨j, f, hj, hj', rfl⟩ := mem_selB.1 hp
              refine h5 _ (mem_selB.2 ⟨j, f, ?_, hj', by rw [if_neg (show ¬ na + nb + j = i by omega)]⟩)
              split
              · rfl
              · exact hj, h6⟩)
            rw [h7]
            exact congrArg some h9
        · have hr : look s.row id = some r := hr
          show look (s.noBox d).row id = some r
          rw [hs _ hmem]
          exact hr
      · -- a store into one
        have hij : na + nb + (i - na - nb) = i := by omega
        have hjb : i - na - nb < nb := by omega
        obtain ⟨t, y, ti, vs, p, m1, m2, m3, m4, m5, m6, m7, m8, m9, m10⟩ := f3 (i - na - nb) o (by rw [← h4, List.getElem?_take, if_pos hjb, List.getElem?_drop, hij, hol])
        have hes1 := he2 _ _ _ m1 m10
        have hSa : S (na + (i - na - nb)) = true := hst_alloc S _ _ hes1 (by simp) (by rw [hij]; exact hcl)
        have h5' : ps'[i]? = some (none, .tup []) := by
          have := hps3 _ hjb
          rwa [hij] at this
        have hw : Region.wanted o (yielded l.toArray a.tmps) = true := by unfold Region.wanted; rw [m4]
        rw [if_pos hw]
        refine .inl (moves_store (T := T) (ty := 0) (ty' := 0) (id := p.1) (off := 0) (ls := p.2) (vs := vs) m2 m3 (hT _ _ m6) hC' ?_ ?_ ?_ m8 (by omega) K' Q' fun v w' ⟨m', ω', hC2⟩ => hK _ _ ⟨m', ω', hC2.weaken rfl (fun u x hx => ?_) (fun id bs hb => ?_) (fun id r hr => hr)⟩)
        · exact (look_puts _ _ (sel_apart hapart).apart _ _).2 (.inl (mem_sel.2 ⟨_, hSa, hps2 _ p m1⟩))
        · refine (look_app (selB_keys hek)).2 (.inl (mem_selB.2 ⟨_, _, hSa, hes1, ?_⟩))
          rw [hij, hSi]
          rfl
        · rw [← m7]
          refine partCells_congr fun ty => evalO_congr (fun u hu => ?_) ty
          have hne : ∀ p ∈ bx, p.1 ≠ u := fun p hp e => m5 u hu (List.mem_map.2 ⟨p, hp, e⟩)
          rw [fold_env_ne hne]
          show look (puts s (sel S ps')).env u = _
          have hoo : l.toArray[i]? = some o := by simpa using hol
          rw [← look_head (s := s) F hapart hq hi hSi hcl hcl2 (t := u) (by
            simp only [looksAt, hoo]
            refine operand_looks ?_
            rw [m2, ← hu]
            simp [Op.operands]), ← hps, List.take_append, List.take_of_length_le (by omega), puts_append]
          refine look_puts_ne fun q hq' => ?_
          rcases List.mem_append.1 (List.mem_of_mem_take hq') with hq' | hq'
          · obtain ⟨r, h6, rfl⟩ := List.mem_map.1 hq'
            intro e
            injection e with e
            exact hne r h6 e
          · rw [(List.mem_replicate.1 hq').2]
            intro e
            cases e
        · have hx : look (puts s (sel (fun j => if j = i then true else S j) ps')).env u = some x := hx
          rw [sel_step hapart h5' hSi, if_neg (by intro e; cases e)] at hx
          exact hx
        · have hb : look (selB na nb (fun j => if j = i then true else S j) es ++ s.box) id = some bs := hb
          show look (sput p.1 (setL 0 vs p.2) (selB na nb S es ++ s.box)) id = some bs
          rw [look_sput]
          rcases (look_app (selB_keys hek)).1 hb with h5 | ⟨h5, h6⟩
          · obtain ⟨j, f, hj, hj', hjp⟩ := mem_selB.1 h5
            injection hjp with hj1 hj2
            have hjl : j < nb := by rw [← hbl]; exact (List.getElem?_eq_some_iff.1 (he1 _ _ hj').1).1
            have hji : na + j ≠ i := by omega
            rw [if_neg hji] at hj
            by_cases hid : id = p.1
            · rw [if_pos hid]
              have hjj : j = i - na - nb := keys_inj hek hj' hes1 (by rw [← hj1, hid])
              subst hjj
              rw [hes1] at hj'
              injection hj' with hj'
              rw [hj2, ← hj', if_pos hij, if_pos rfl]
            · rw [if_neg hid]
              have hjne : na + nb + j ≠ i := fun e => by
                have : j = i - na - nb := by omega
                subst this
                rw [hes1] at hj'
                injection hj' with hj'
                exact hid (by rw [hj1, ← hj'])
              refine (look_app (selB_keys hek)).2 (.inl (mem_selB.2 ⟨j, f, hj, hj', ?_⟩))
              rw [hj1, hj2, if_neg hjne]
          · have hid : id ≠ p.1 := fun e => h5 _ (mem_selB.2 ⟨_, _, by
              show (if na + (i - na - nb) = i then true else S (na + (i - na - nb))) = true
              rw [hSa]
              simp, hes1, rfl⟩) e.symm
            rw [if_neg hid]
            refine (look_app (selB_keys hek)).2 (.inr ⟨fun q hq' => ?_, h6⟩)
            obtain ⟨j, f, hj, hj', rfl⟩ := mem_selB.1 hq'
            have hh : (if na + j = i then true else S (na + j)) = true := by
              split
              · rfl
              · exact hj
            exact show f.1 ≠ id from h5 _ (mem_selB.2 ⟨j, f, hh, hj', rfl⟩)
  · obtain ⟨m, ω, hC'⟩ := hC'
    refine ⟨m, ω, hC'.weaken (by show _ = s.n; rw [fold_row.2, puts_n]) (fun t x hx => ?_) (fun id bs hb => ?_) (fun id r hr => ?_)⟩
    · show look (puts s (sel S ps')).env t = some x
      rw [look_puts _ _ (sel_apart hapart).apart]
      have hall' : ∀ p ∈ ps', p ∈ sel S ps' := by
        intro p hp
        obtain ⟨j, hj, hj'⟩ := List.mem_iff_getElem.1 hp
        have := List.getElem?_eq_getElem hj
        rw [hj'] at this
        exact mem_sel.2 ⟨j, hall j (hq j p this).1, this⟩
      rcases fold_env hx with ⟨p, h5, h6, h7⟩ | ⟨h5, h6⟩
      · obtain ⟨j, hj, hj'⟩ := List.mem_iff_getElem.1 h5
        have := List.getElem?_eq_getElem hj
        rw [hj'] at this
        have h8 := hall' _ (List.mem_of_getElem? (hps2 j p this))
        rw [h6] at h8
        rw [h7]
        exact .inl h8
      · rcases (look_puts ps s (ApartP.apart hap1) t x).1 h6 with h7 | ⟨h7, h8⟩
        · exact .inl (hall' _ (by rw [← hps]; exact List.mem_append_left _ h7))
        · refine .inr ⟨fun p hp => ?_, h8⟩
          obtain ⟨j, _, hj⟩ := mem_sel.1 hp
          have hm := List.mem_of_getElem? hj
          rw [← hps] at hm
          rcases List.mem_append.1 hm with h9 | h9
          · exact h7 p h9
          · rcases List.mem_append.1 h9 with h9 | h9
            · obtain ⟨r, h10, rfl⟩ := List.mem_map.1 h9
              intro e
              injection e with e
              exact h5 r h10 e
            · rw [(List.mem_replicate.1 h9).2]
              intro e
              cases e
    · show look (selB na nb S es ++ s.box) id = some bs
      have hb : look ((bx.zip fins).foldl (fun b q => sput q.1.1 q.2 b) (bx.foldl addBox (puts s ps)).box) id = some bs := hb
      rcases (fold_sput f1 hkeys).1 hb with ⟨j, p, h5, h6, h7⟩ | ⟨h5, h6⟩
      · have hjl : j < nb := by rw [← hbl]; exact (List.getElem?_eq_some_iff.1 h5).1
        refine (look_app (selB_keys hek)).2 (.inl (mem_selB.2 ⟨j, _, hall _ (by omega), he2 _ _ _ h5 h7, ?_⟩))
        rw [hall _ (by omega), if_pos rfl, h6]
      · rcases fold_box h6 with h7 | ⟨h7, h8⟩
        · exact absurd rfl (h5 _ h7)
        · rw [puts_box] at h8
          refine (look_app (selB_keys hek)).2 (.inr ⟨fun p hp => ?_, h8⟩)
          obtain ⟨j, f, hj, hj', rfl⟩ := mem_selB.1 hp
          exact show f.1 ≠ id from h5 _ (hbxm j f hj')
    · have hr : look (bx.foldl addBox (puts s ps)).row id = some r := hr
      rw [fold_row.1, puts_row] at hr
      exact hr
  · rw [List.filter_eq_nil_iff.2 (fun i _ => by rw [hg0]; simp)]
    rfl
  · intro i _ hb
    rw [hg0] at hb
    cases hb
  · intro i _
    exact hg0 i
  · refine ⟨m, ω, hC.draw.ext rfl (fun t => ?_) ?_ rfl⟩
    · have : sel (fun i => (Array.replicate l.toArray.size false).getD i false) ps' = [] := by
        unfold sel
        simp only [hg0]
        simp
      simp only [stS, this]
      rfl
    · have : selB na nb (fun i => (Array.replicate l.toArray.size false).getD i false) es = [] := by
        unfold selB
        simp only [hg0]
        simp
      simp only [stS, this]
      rfl

/-- The same, what follows kept out of sight. -/
theorem AWP.drawF (hT : TabOk P T) (hm : P.follows .mixedOrders = true) {Q : Exit → St → Prop} {id : Nat} {l l1 l2 l3 l4 : List Oper} (na nb dep : Nat) {bx : List (Nat × List L)} (hchk : drawOk l.toArray (na + nb + nb) dep = true) (h1 : l.take na = l1) (h2 : (l.drop na).take nb = l2)
    (h4 : (l.drop (na + nb)).take nb = l4) (h3 : l.drop (na + nb + nb) = l3)
    (hfl : floats T s.n l2 = some bx) (hso : storesOk (bx.map (·.1)) bx l4 = true) (hz : ∀ p ∈ bx, ∀ q ∈ bx, q.2.map (L.noPtr p.1) = q.2) (hs : ∀ p ∈ bx, s.noBox p.1 = s)
    (h : ∀ K2 : St → Prop, (∀ s1, (∀ p ∈ bx, s1.noBox p.1 = s1) → (∀ K : St → Prop, (∀ s', Q .normal s' → K s') → VOps P T l.toArray (l2 ++ (l4 ++ l3)) s1 K) → K2 s1) → VHead P T l.toArray l1 s K2) : AWP P w0 m0 F0 (.region id l.toArray true) Q s :=
  AWP.drawS hT hm na nb dep bx hchk h1 h2 h4 h3 hfl hso hz hs fun K hK => h _ fun s1 h5 h6 => ⟨h5, h6 K hK⟩
end
end Go.Bw
