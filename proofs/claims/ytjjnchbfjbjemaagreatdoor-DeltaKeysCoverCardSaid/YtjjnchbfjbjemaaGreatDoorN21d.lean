/-
  WHAT IS PROVED HERE, of this translation: draw_headE, draw_headG, sel_step, look_head, newBox_free, free_env, free_box, ptrA_free, addBox_free, floats_cons, floats_get, VOps_floats, fold_env, fold_box, fold_row, look_app, puts_append, mem_selB, selB_keys, keys_inj, storesOk_cons, VOps_stores, partCells_free, setL_free, fold_sput, fold_env_ne, look_puts_ne, AWP.drawS, AWP.drawF, look_mem19, .., noOwn_eChg, EN, compareInts_sat, take_snoc, getD_lt, keyOf_length, key_own, key_sat, cmpstring_sat, CompareString_sat, stringsCompare_sat, compare_sat, idx_step, idx_hit, idx_end, indexFuncTbl_sat, indexFuncCol_sat, indexFuncFK_sat, findTable1_sat, findColumn1_sat, findTable_sat, findColumn_sat, chunks_one, validName_sat, scan_step, scan_hit, scan_end, scan_leaf, validateTable_sat.
  A theorem that ends in sat says what the function it names returns, whatever the state it is called in; the bounds on its arguments stand ahead of it.
-/
import Derived.Lib.Overlaps
import Derived.Laws.Externs
import Derived.Test.YtjjnchbfjbjemaaGreatDoorProg
import Derived.KernelRfl
import Derived.Lib.Bytealg
import Derived.Test.YtjjnchbfjbjemaaGreatDoorN21c
set_option linter.unusedSimpArgs false
set_option linter.unusedVariables false

namespace Go.Bw
open Go.RowKit
section
variable {P : Program} {w0 : World} {m0 : Mem} {s s' : St} {a : Act} {w : World} {m : Mem} {ω : Wh} {F0 : Home} {T : TypeId → Option TI}

theorem draw_headE (hT : TabOk P T) {ops : Array Oper} {na dep : Nat} (F : DrawFacts ops na dep) {K : St → Prop} {Q : Exit → Act → World → Prop} (hQ : ∀ s a w, K s → Conc P w0 m0 F0 s a w → Q .normal a w)
    {C : (Nat → Bool) → Act → World → Prop}
    (hstep : ∀ (S : Nat → Bool) (i : Nat) (a : Act) (w : World) (o : Oper), ops[i]? = some o → i < na → S i = false → (∀ j, na ≤ j → S j = false) → (∀ j ∈ clo ops dep i, S j = true) → (∀ j, S j = true → ∀ j' ∈ clo ops dep j, S j' = true) → C S a w →
      ∀ (K' : Act → World → Prop) (Q : Exit → Act → World → Prop), (∀ a' w', C (fun j => if j = i then true else S j) a' w' → K' a' w') → if Region.wanted o (yielded ops a.tmps) then o.wp P a w K' Q ∨ (o.asks P a w ∧ LetsOut Q) else K' (a.put o.dst undef) w)
    (hend : ∀ S a w, (∀ j, j < na → S j = true) → (∀ j, na ≤ j → S j = false) → C S a w → ∃ s2, VOps P T ops (ops.toList.drop na) s2 K ∧ Conc P w0 m0 F0 s2 a w) :
    ∀ (fuel : Nat) (listed : Array Bool) (a : Act) (w : World) (c : Nat), c + fuel = ops.size → listed.size = ops.size → ((List.range ops.size).filter fun i => listed.getD i false).length = c →
      (∀ i, i < ops.size → listed.getD i false = true → ∀ j ∈ direct ops i, listed.getD j false = true) → (∀ i, na ≤ i → listed.getD i false = false) →
      C (fun i => listed.getD i false) a w → wpAny P .any ops Q fuel listed a w := by
  intro fuel
  induction fuel with
  | zero =>
    intro listed a w c hc hsz hcnt hcl htl hC
    have hall : ∀ i, i < ops.size → listed.getD i false = true := by
      intro i hi
      have h1 : ((List.range ops.size).filter fun i => listed.getD i false).length = (List.range ops.size).length := by rw [hcnt, List.length_range]; omega
      have h2 := List.length_filter_eq_length_iff.1 h1
      exact h2 i (by simpa using hi)
    have hna : na = ops.size := by
      rcases Nat.lt_or_ge na ops.size with h | h
      · have := htl na (Nat.le_refl _)
        rw [hall na h] at this
        cases this
      · have := F.le; omega
    have hd : ops.toList.drop na = [] := by apply List.drop_eq_nil_of_le; simp; omega
    obtain ⟨s2, hV, hc2⟩ := hend _ a w (fun j hj => hall j (by omega)) htl hC
    rw [hd] at hV
    refine ⟨?_, hQ s2 a w hV hc2⟩
    apply List.eq_nil_iff_forall_not_mem.2
    intro i hi
    obtain ⟨h1, h2, _⟩ := (mem_ready hsz).1 hi
    rw [hall i h1] at h2
    cases h2
  | succ fuel ih =>
    intro listed a w c hc hsz hcnt hcl htl hC
    by_cases hdone : ∀ i, i < na → listed.getD i false = true
    · have hcna : c = na := by
        rw [← hcnt]
        have h1 : ((List.range ops.size).filter fun i => listed.getD i false) = (List.range ops.size).filter fun i => decide (i < na) := by
          apply List.filter_congr
          intro i hi
          have hi : i < ops.size := by simpa using hi
          by_cases hlt : i < na
          · rw [hdone i hlt]; simp [hlt]
          · rw [htl i (by omega)]; simp [hlt]
        rw [h1]
        have h2 : ∀ n, na ≤ n → ((List.range n).filter fun i => decide (i < na)).length = na := by
          intro n hn
          induction n with
          | zero => simp; omega
          | succ n ihn =>
            rw [List.range_succ, List.filter_append, List.length_append]
            rcases Nat.lt_or_ge n na with h | h
            · have hna : na = n + 1 := by omega
              have : ((List.range n).filter fun i => decide (i < na)) = List.range n := by
                apply List.filter_eq_self.2
                intro i hi
                have : i < n := by simpa using hi
                simp; omega
              rw [this]
              simp [h]
              omega
            · rw [ihn h]
              simp [show ¬ n < na from by omega]
        exact h2 _ F.le
      obtain ⟨s2, hV, hc2⟩ := hend _ a w hdone htl hC
      exact draw_tail hT F hQ (fuel + 1) na listed s2 a w (Nat.le_refl _) (by omega) hsz (fun i hi => ⟨(fun hl => by
        rcases Nat.lt_or_ge i na with h | h
        · exact h
        · rw [htl i h] at hl
          cases hl), fun hlt => hdone i hlt⟩) hV hc2
    · have hex : ∃ i, i < na ∧ listed.getD i false = false := by
        apply Classical.byContradiction
        intro hn
        apply hdone
        intro i hi
        cases hb : listed.getD i false with
        | true => rfl
        | false => exact absurd ⟨i, hi, hb⟩ hn
      have hclo : ∀ i, (∀ j ∈ direct ops i, listed.getD j false = true) → ∀ j ∈ clo ops dep i, listed.getD j false = true := fun i h3 =>
        clo_listed (ops := ops) (listed := fun j => listed.getD j false = true) (fun j hj j' hj' => by
          have hjn : j < ops.size := by
            rcases Nat.lt_or_ge j ops.size with h | h
            · exact h
            · rw [Array.getD_eq_getD_getElem?, Array.getElem?_eq_none (by omega)] at hj; cases hj
          exact hcl j hjn hj j' hj') dep i h3
      refine ⟨fun hn => ?_, fun i hi => ?_⟩
      · exfalso
        obtain ⟨i, h1, h2⟩ := hex
        have key : ∀ n i, i ≤ n → i < na → listed.getD i false = false → ∃ k, k ∈ Region.ready .any ops listed := by
          intro n
          induction n with
          | zero =>
            intro i hi hina hb
            have : i = 0 := by omega
            subst this
            refine ⟨0, (mem_ready hsz).2 ⟨by have := F.le; omega, hb, fun j hj => ?_⟩⟩
            have := F.back 0 (by have := F.le; omega) j hj
            omega
          | succ n ihn =>
            intro i hi hina hb
            by_cases hall : ∀ j ∈ direct ops i, listed.getD j false = true
            · exact ⟨i, (mem_ready hsz).2 ⟨by have := F.le; omega, hb, hall⟩⟩
            · have : ∃ j, j ∈ direct ops i ∧ listed.getD j false = false := by
                apply Classical.byContradiction
                intro hn
                apply hall
                intro j hj
                cases hb : listed.getD j false with
                | true => rfl
                | false => exact absurd ⟨j, hj, hb⟩ hn
              obtain ⟨j, hj, hjb⟩ := this
              have := F.back i (by have := F.le; omega) j hj
              exact ihn j (by omega) (by omega) hjb
        obtain ⟨k, hk⟩ := key i i (Nat.le_refl _) h1 h2
        rw [hn] at hk
        cases hk
      · obtain ⟨h1, h2, h3⟩ := (mem_ready hsz).1 hi
        have hcl' := hclo i h3
        have hina : i < na := by
          rcases Nat.lt_or_ge i na with h | h
          · exact h
          · obtain ⟨j, hj, hjb⟩ := hex
            have := hcl' j (F.tail i j h h1 (by omega))
            rw [hjb] at this
            cases this
        have ho : ops[i]? = some ops[i] := Array.getElem?_eq_getElem h1
        simp only [wpOp, ho]
        refine hstep _ i a w ops[i] ho hina h2 htl hcl' (fun j hj => hclo j (hcl j (by
          rcases Nat.lt_or_ge j ops.size with h | h
          · exact h
          · have hj : listed.getD j false = true := hj
            rw [Array.getD_eq_getD_getElem?, Array.getElem?_eq_none (by omega)] at hj; cases hj) hj)) hC _ _ fun a' w' hC' => ?_
        refine ih (listed.setIfInBounds i true) a' w' (c + 1) (by omega) (by simpa using hsz) ?_ ?_ ?_ ?_
        · rw [← hcnt]
          have h4 : ∀ n, i < n → ((List.range n).filter fun j => (listed.setIfInBounds i true).getD j false).length = ((List.range n).filter fun j => listed.getD j false).length + 1 := by
            intro n hn
            induction n with
            | zero => omega
            | succ n ihn =>
              rw [List.range_succ, List.filter_append, List.filter_append, List.length_append, List.length_append]
              rcases Nat.lt_or_ge i n with hlt | hge
              · rw [ihn hlt]
                have : ([n].filter fun j => (listed.setIfInBounds i true).getD j false) = [n].filter fun j => listed.getD j false := by
                  apply List.filter_congr
                  intro j hj
                  have : j = n := by simpa using hj
                  rw [getD_setB listed (by omega), if_neg (by omega)]
                rw [this]
                omega
              · have hin : i = n := by omega
                subst hin
                have e1 : ((List.range i).filter fun j => (listed.setIfInBounds i true).getD j false) = (List.range i).filter fun j => listed.getD j false := by
                  apply List.filter_congr
                  intro j hj
                  have : j < i := by simpa using hj
                  rw [getD_setB listed (by omega), if_neg (by omega)]
                have e2 : ([i].filter fun j => (listed.setIfInBounds i true).getD j false).length = 1 := by
                  have : (listed.setIfInBounds i true).getD i false = true := by rw [getD_setB listed (by omega), if_pos rfl]
                  simp only [List.filter_cons, this, if_true, List.filter_nil, List.length_cons, List.length_nil]
                have e3 : ([i].filter fun j => listed.getD j false).length = 0 := by
                  simp only [List.filter_cons, h2, Bool.false_eq_true, if_false, List.filter_nil, List.length_nil]
                rw [e1, e2, e3]
          exact h4 _ h1
        · intro j hj hb k hk
          rw [getD_setB listed (by omega)] at hb ⊢
          by_cases hki : k = i
          · rw [if_pos hki]
          · rw [if_neg hki]
            by_cases hji : j = i
            · subst hji; exact h3 k hk
            · rw [if_neg hji] at hb; exact hcl j hj hb k hk
        · intro j hj
          rw [getD_setB listed (by omega), if_neg (by omega)]
          exact htl j hj
        · have e : (fun j => (listed.setIfInBounds i true).getD j false) = fun j => if j = i then true else listed.getD j false := funext fun j => getD_setB listed (by omega) j
          rw [e]
          exact hC'

theorem draw_headG (hT : TabOk P T) {ops : Array Oper} {na dep : Nat} (F : DrawFacts ops na dep) {K : St → Prop} {Q : Exit → Act → World → Prop} (hQ : ∀ s a w, K s → Conc P w0 m0 F0 s a w → Q .normal a w) {s2 : St}
    {C : (Nat → Bool) → Act → World → Prop}
    (hstep : ∀ (S : Nat → Bool) (i : Nat) (a : Act) (w : World) (o : Oper), ops[i]? = some o → i < na → S i = false → (∀ j, na ≤ j → S j = false) → (∀ j ∈ clo ops dep i, S j = true) → (∀ j, S j = true → ∀ j' ∈ clo ops dep j, S j' = true) → C S a w →
      ∀ (K' : Act → World → Prop) (Q : Exit → Act → World → Prop), (∀ a' w', C (fun j => if j = i then true else S j) a' w' → K' a' w') → if Region.wanted o (yielded ops a.tmps) then o.wp P a w K' Q ∨ (o.asks P a w ∧ LetsOut Q) else K' (a.put o.dst undef) w)
    (hend : ∀ S a w, (∀ j, j < na → S j = true) → (∀ j, na ≤ j → S j = false) → C S a w → Conc P w0 m0 F0 s2 a w) (hV : VOps P T ops (ops.toList.drop na) s2 K) :
    ∀ (fuel : Nat) (listed : Array Bool) (a : Act) (w : World) (c : Nat), c + fuel = ops.size → listed.size = ops.size → ((List.range ops.size).filter fun i => listed.getD i false).length = c →
      (∀ i, i < ops.size → listed.getD i false = true → ∀ j ∈ direct ops i, listed.getD j false = true) → (∀ i, na ≤ i → listed.getD i false = false) →
      C (fun i => listed.getD i false) a w → wpAny P .any ops Q fuel listed a w :=
  draw_headE hT F hQ hstep fun S a w h1 h2 h3 => ⟨s2, hV, hend S a w h1 h2 h3⟩
theorem sel_step {ps : List (Option Tmp × A)} (hA : ApartP ps) {S : Nat → Bool} {i : Nat} {p : Option Tmp × A} (hp : ps[i]? = some p) (hi : S i = false) (t : Tmp) :
    look (puts s (sel (fun j => if j = i then true else S j) ps)).env t = if p.1 = some t then some p.2 else look (puts s (sel S ps)).env t := by
  apply Option.ext
  intro y
  rw [look_puts _ _ (sel_apart hA).apart]
  have hmem : ∀ q, q ∈ sel (fun j => if j = i then true else S j) ps ↔ q = p ∨ q ∈ sel S ps := by
    intro q
    simp only [mem_sel]
    constructor
    · rintro ⟨j, hb, hj⟩
      by_cases hji : j = i
      · subst hji
        rw [hp] at hj
        injection hj with hj
        exact .inl hj.symm
      · simp only [if_neg hji] at hb
        exact .inr ⟨j, hb, hj⟩
    · rintro (rfl | ⟨j, hb, hj⟩)
      · exact ⟨i, by simp, hp⟩
      · refine ⟨j, ?_, hj⟩
        split
        · rfl
        · exact hb
  by_cases hd : p.1 = some t
  · rw [if_pos hd]
    have hno : ∀ q ∈ sel S ps, q.1 ≠ some t := by
      intro q hq he
      obtain ⟨j, hb, hj⟩ := mem_sel.1 hq
      have := hA.apart i j _ _ t hp hj hd he
      subst this
      rw [hi] at hb
      cases hb
    simp only [hmem]
    constructor
    · rintro (h5 | ⟨h5, _⟩)
      · rcases h5 with h5 | h5
        · rw [← h5]
        · exact absurd rfl (hno _ h5)
      · exact absurd hd (h5 _ (.inl rfl))
    · intro h5
      injection h5 with h5
      refine .inl (.inl ?_)
      rw [← h5, ← hd]
  · rw [if_neg hd, look_puts _ _ (sel_apart hA).apart]
    simp only [hmem]
    constructor
    · rintro (h5 | ⟨h5, h6⟩)
      · rcases h5 with h5 | h5
        · exact absurd (by rw [← h5]) hd
        · exact .inl h5
      · exact .inr ⟨fun q hq => h5 q (.inr hq), h6⟩
    · rintro (h5 | ⟨h5, h6⟩)
      · exact .inl (.inr h5)
      · refine .inr ⟨fun q hq => ?_, h6⟩
        rcases hq with rfl | hq
        · exact hd
        · exact h5 q hq

theorem look_head {ops : Array Oper} {na dep : Nat} (F : DrawFacts ops na dep) {ps : List (Option Tmp × A)} (hA : ApartP ps) (hdst : ∀ j p, ps[j]? = some p → j < na ∧ dstAt ops j = p.1) {S : Nat → Bool} {i : Nat} (hina : i < na) (hi : S i = false)
    (hcl : ∀ j ∈ clo ops dep i, S j = true) (hcl2 : ∀ j, S j = true → ∀ j' ∈ clo ops dep j, S j' = true) {t : Tmp} (ht : t ∈ looksAt ops i) :
    look (puts s (ps.take i)).env t = look (puts s (sel S ps)).env t := by
  have happ : Apart (ps.take i) := ApartP.apart (List.Pairwise.sublist (List.take_sublist i ps) hA)
  apply Option.ext
  intro y
  rw [look_puts _ _ happ, look_puts _ _ (sel_apart hA).apart]
  have hmem : ∀ y, (some t, y) ∈ ps.take i ↔ (some t, y) ∈ sel S ps := by
    intro y
    rw [mem_sel]
    constructor
    · intro hm
      obtain ⟨j, hj, he⟩ := List.mem_iff_getElem.1 hm
      have hjl : j < i := by simp at hj; omega
      have hpj : ps[j]? = some (some t, y) := by
        have := List.getElem?_eq_getElem hj
        rw [he, List.getElem?_take, if_pos hjl] at this
        exact this
      obtain ⟨hjna, hjd⟩ := hdst j _ hpj
      exact ⟨j, hcl j ((F.reads i j t hina hjna (by omega) hjd ht).1 hjl), hpj⟩
    · rintro ⟨j, hjb, hpj⟩
      obtain ⟨hjna, hjd⟩ := hdst j _ hpj
      have hji : j ≠ i := fun e => by rw [e, hi] at hjb; cases hjb
      rcases Nat.lt_or_ge j i with hlt | hge
      · refine List.mem_of_getElem? (i := j) ?_
        rw [List.getElem?_take, if_pos hlt]
        exact hpj
      · have hm := (F.reads i j t hina hjna (fun e => hji e.symm) hjd ht).2 (by omega)
        have hb := hcl2 j hjb i hm
        rw [hi] at hb
        cases hb
  have hall : (∀ p ∈ ps.take i, p.1 ≠ some t) ↔ (∀ p ∈ sel S ps, p.1 ≠ some t) := by
    constructor
    · intro hh p hp' he
      obtain ⟨p1, p2⟩ := p
      simp only at he
      subst he
      exact hh _ ((hmem p2).2 hp') rfl
    · intro hh p hp' he
      obtain ⟨p1, p2⟩ := p
      simp only at he
      subst he
      exact hh _ ((hmem p2).1 hp') rfl
  rw [hmem y, hall]

def ptrA (d : Nat) : A := .v (.one (.ptr d 0))
def addBox (s : St) (p : Nat × List L) : St := { s with env := (p.1, ptrA p.1) :: s.env, box := p :: s.box }
theorem newBox_free {d : Nat} {ls : List L} (h : s.noBox d = s) (hl : ls.map (L.noPtr d) = ls) : s.newBox d ls = addBox s (d, ls) := by
  unfold St.newBox St.newBox0 St.put addBox
  rw [h, hl]
  rfl

theorem free_env {d : Nat} (h : s.noBox d = s) {t : Tmp} {x : A} (hx : look s.env t = some x) : x.map (L.noPtr d) = x := by
  have h1 : (s.noBox d).env = s.env := by rw [h]
  have h2 : (s.env.map fun p => (p.1, p.2.map (L.noPtr d))) = s.env := h1
  have h3 : look (s.env.map fun p => (p.1, p.2.map (L.noPtr d))) t = some x := by rw [h2]; exact hx
  rw [look_map (fun x : A => x.map (L.noPtr d)), hx] at h3
  simpa using h3
theorem free_box {d : Nat} (h : s.noBox d = s) {i : Nat} {ls : List L} (hx : look s.box i = some ls) : i ≠ d ∧ ls.map (L.noPtr d) = ls := by
  have h1 : (s.noBox d).box = s.box := by rw [h]
  have h2 : ((Bw.del d s.box).map fun p => (p.1, p.2.map (L.noPtr d))) = s.box := h1
  have h3 : look ((Bw.del d s.box).map fun p => (p.1, p.2.map (L.noPtr d))) i = some ls := by rw [h2]; exact hx
  obtain ⟨y, h4, h5⟩ := map_look h3
  rw [look_del] at h4
  split at h4
  · cases h4
  · rename_i hne
    rw [hx] at h4
    injection h4 with h4
    rw [← h4] at h5
    exact ⟨hne, h5.symm⟩
theorem ptrA_free {d d' : Nat} (h : d ≠ d') : (ptrA d).map (L.noPtr d') = ptrA d := by
  simp [ptrA, A.map, V.map, L.noPtr, L.noPtr0, h]

theorem addBox_free {d : Nat} {p : Nat × List L} (hne : p.1 ≠ d) (h : s.noBox d = s) (hl : p.2.map (L.noPtr d) = p.2) : (addBox s p).noBox d = addBox s p := by
  have h1 : (s.noBox d).env = s.env := by rw [h]
  have h2 : (s.noBox d).box = s.box := by rw [h]
  have h3 : (s.noBox d).row = s.row := by rw [h]
  have h1 : (s.env.map fun p => (p.1, p.2.map (L.noPtr d))) = s.env := h1
  have h2 : ((Bw.del d s.box).map fun p => (p.1, p.2.map (L.noPtr d))) = s.box := h2
  obtain ⟨d', ls⟩ := p
  simp only at hne hl
  show ({ n := s.n, env := (((d', ptrA d') :: s.env).map fun p => (p.1, p.2.map (L.noPtr d))), box := ((Bw.del d ((d', ls) :: s.box)).map fun p => (p.1, p.2.map (L.noPtr d))), row := (s.noBox d).row } : St) = addBox s (d', ls)
  simp only [List.map_cons, h1, del, if_neg hne, h2, h3, hl, ptrA_free hne]
  rfl

def floats (T : TypeId → Option TI) (n : Nat) : List Oper → Option (List (Nat × List L))
  | [] => some []
  | o :: l => match o.op, o.dst, o.guard with
    | .alloc e, some d, none => ((T e).bind (·.zero)).bind fun ls => if d < n then (floats T n l).map ((d, ls) :: ·) else none
    | _, _, _ => none
theorem floats_cons {n : Nat} {o : Oper} {l : List Oper} {bx : List (Nat × List L)} (h : floats T n (o :: l) = some bx) :
    ∃ e d i ls bx', o.op = .alloc e ∧ o.dst = some d ∧ o.guard = none ∧ T e = some i ∧ i.zero = some ls ∧ d < n ∧ floats T n l = some bx' ∧ bx = (d, ls) :: bx' := by
  unfold floats at h
  split at h
  · rename_i e d h1 h2 h3
    obtain ⟨ls, h4, h5⟩ := Option.bind_eq_some_iff.1 h
    obtain ⟨i, h6, h7⟩ := Option.bind_eq_some_iff.1 h4
    split at h5
    · rename_i hd
      obtain ⟨bx', h8, h9⟩ := Option.map_eq_some_iff.1 h5
      exact ⟨e, d, i, ls, bx', h1, h2, h3, h6, h7, hd, h8, h9.symm⟩
    · cases h5
  · cases h
theorem floats_get {n : Nat} : ∀ {l : List Oper} {bx : List (Nat × List L)}, floats T n l = some bx → bx.length = l.length ∧ ∀ (j : Nat) (o : Oper), l[j]? = some o →
    ∃ e d i ls, o.op = .alloc e ∧ o.dst = some d ∧ o.guard = none ∧ T e = some i ∧ i.zero = some ls ∧ d < n ∧ bx[j]? = some (d, ls)
  | [], bx, h => by
    injection h with h
    subst h
    exact ⟨rfl, fun j o hj => by simp at hj⟩
  | o :: l, bx, h => by
    obtain ⟨e, d, i, ls, bx', h1, h2, h3, h4, h5, h6, h7, rfl⟩ := floats_cons h
    obtain ⟨h8, h9⟩ := floats_get h7
    refine ⟨by simp [h8], fun j o' hj => ?_⟩
    cases j with
    | zero => simp only [List.getElem?_cons_zero, Option.some.injEq] at hj; subst hj; exact ⟨e, d, i, ls, h1, h2, h3, h4, h5, h6, rfl⟩
    | succ j => exact h9 j o' (by simpa using hj)

theorem VOps_floats {ops : Array Oper} {K : St → Prop} {l2 : List Oper} : ∀ {l : List Oper} {bx : List (Nat × List L)} {s : St}, floats T s.n l = some bx → VOps P T ops (l ++ l2) s K →
    bx.Pairwise (fun p q => p.1 ≠ q.1) → (∀ p ∈ bx, s.noBox p.1 = s) → (∀ p ∈ bx, ∀ q ∈ bx, q.2.map (L.noPtr p.1) = q.2) → VOps P T ops l2 (bx.foldl addBox s) K
  | [], bx, s, hf, h, _, _, _ => by
    injection hf with hf
    subst hf
    exact h
  | o :: l, bx, s, hf, h, hp, hs, hz => by
    obtain ⟨e, d, i, ls, bx', h1, h2, h3, h4, h5, h6, h7, rfl⟩ := floats_cons hf
    simp only [List.cons_append, VOps] at h
    have hg : guardOf ops s o = some true := by unfold guardOf; rw [h3]
    rw [hg] at h
    simp only at h
    unfold VOp at h
    simp only [h1, h2, h4, h5, mO_some] at h
    rw [newBox_free (hs _ (by simp)) (hz (d, ls) (by simp) (d, ls) (by simp))] at h
    obtain ⟨hp1, hp2⟩ := List.pairwise_cons.1 hp
    exact VOps_floats (s := addBox s (d, ls)) h7 h.2 hp2 (fun p hp' => addBox_free (hp1 p hp') (hs p (by simp [hp'])) (hz p (by simp [hp']) (d, ls) (by simp))) fun p hp q hq => hz p (by simp [hp]) q (by simp [hq])

theorem fold_env {t : Tmp} {x : A} : ∀ {bx : List (Nat × List L)} {s : St}, look (bx.foldl addBox s).env t = some x → (∃ p ∈ bx, p.1 = t ∧ x = ptrA t) ∨ ((∀ p ∈ bx, p.1 ≠ t) ∧ look s.env t = some x)
  | [], s, h => .inr ⟨fun p hp => by simp at hp, h⟩
  | p :: bx, s, h => by
    rcases fold_env (bx := bx) (s := addBox s p) h with ⟨q, h1, h2, h3⟩ | ⟨h1, h2⟩
    · exact .inl ⟨q, by simp [h1], h2, h3⟩
    · simp only [addBox, look] at h2
      by_cases hp : p.1 = t
      · rw [if_pos hp] at h2
        injection h2 with h2
        exact .inl ⟨p, by simp, hp, by rw [← h2, hp]⟩
      · rw [if_neg hp] at h2
        refine .inr ⟨fun q hq => ?_, h2⟩
        rcases List.mem_cons.1 hq with rfl | hq
        · exact hp
        · exact h1 q hq
theorem fold_box {t : Nat} {x : List L} : ∀ {bx : List (Nat × List L)} {s : St}, look (bx.foldl addBox s).box t = some x → (t, x) ∈ bx ∨ ((∀ p ∈ bx, p.1 ≠ t) ∧ look s.box t = some x)
  | [], s, h => .inr ⟨fun p hp => by simp at hp, h⟩
  | p :: bx, s, h => by
    rcases fold_box (bx := bx) (s := addBox s p) h with h1 | ⟨h1, h2⟩
    · exact .inl (by simp [h1])
    · obtain ⟨p1, p2⟩ := p
      simp only [addBox, look] at h2
      by_cases hp : p1 = t
      · rw [if_pos hp] at h2
        injection h2 with h2
        exact .inl (by rw [← h2, ← hp]; simp)
      · rw [if_neg hp] at h2
        refine .inr ⟨fun q hq => ?_, h2⟩
        rcases List.mem_cons.1 hq with rfl | hq
        · exact hp
        · exact h1 q hq
theorem fold_row {bx : List (Nat × List L)} : ∀ {s : St}, (bx.foldl addBox s).row = s.row ∧ (bx.foldl addBox s).n = s.n := by
  induction bx with
  | nil => exact ⟨rfl, rfl⟩
  | cons p bx ih => intro s; exact ⟨(ih (s := addBox s p)).1, (ih (s := addBox s p)).2⟩

theorem look_app {α : Type} {i : Nat} {x : α} : ∀ {l e : List (Nat × α)}, (l.Pairwise fun p q => p.1 ≠ q.1) → (look (l ++ e) i = some x ↔ (i, x) ∈ l ∨ ((∀ p ∈ l, p.1 ≠ i) ∧ look e i = some x))
  | [], e, _ => by simp
  | (t, y) :: l, e, h => by
    obtain ⟨h1, h2⟩ := List.pairwise_cons.1 h
    simp only [List.cons_append, look]
    by_cases ht : t = i
    · rw [if_pos ht]
      constructor
      · intro hx
        injection hx with hx
        exact .inl (by rw [← hx, ← ht]; simp)
      · rintro (hx | ⟨hx, _⟩)
        · rcases List.mem_cons.1 hx with hx | hx
          · injection hx with _ hx; rw [hx]
          · exact absurd ht (h1 _ hx)
        · exact absurd ht (hx (t, y) (by simp))
    · rw [if_neg ht, look_app h2]
      constructor
      · rintro (hx | ⟨hx, hy⟩)
        · exact .inl (by simp [hx])
        · refine .inr ⟨fun q hq => ?_, hy⟩
          rcases List.mem_cons.1 hq with rfl | hq
          · exact ht
          · exact hx q hq
      · rintro (hx | ⟨hx, hy⟩)
        · rcases List.mem_cons.1 hx with hx | hx
          · injection hx with hx _; exact absurd hx.symm ht
          · exact .inl hx
        · exact .inr ⟨fun q hq => hx q (by simp [hq]), hy⟩

theorem puts_append (qs : List (Option Tmp × A)) : ∀ (ps : List (Option Tmp × A)) (s : St), puts s (ps ++ qs) = puts (puts s ps) qs
  | [], _ => rfl
  | p :: ps, s => puts_append qs ps (s.putO p.1 p.2)


def selB (na nb : Nat) (S : Nat → Bool) (es : List (Nat × List L × List L)) : List (Nat × List L) := (es.zipIdx.filter fun p => S (na + p.2)).map fun p => (p.1.1, if S (na + nb + p.2) then p.1.2.2 else p.1.2.1)
theorem mem_selB {na nb : Nat} {S : Nat → Bool} {es : List (Nat × List L × List L)} {p : Nat × List L} : p ∈ selB na nb S es ↔ ∃ j e, S (na + j) = true ∧ es[j]? = some e ∧ p = (e.1, if S (na + nb + j) then e.2.2 else e.2.1) := by
  unfold selB
  simp only [List.mem_map, List.mem_filter]
  constructor
  · rintro ⟨⟨q, i⟩, ⟨h1, h2⟩, rfl⟩
    exact ⟨i, q, h2, by simpa using List.mem_zipIdx_iff_getElem?.1 h1, rfl⟩
  · rintro ⟨i, e, h1, h2, rfl⟩
    exact ⟨(e, i), ⟨List.mem_zipIdx_iff_getElem?.2 (by simpa using h2), h1⟩, rfl⟩
theorem selB_keys {na nb : Nat} {S : Nat → Bool} {es : List (Nat × List L × List L)} (h : es.Pairwise fun p q => p.1 ≠ q.1) : (selB na nb S es).Pairwise fun p q => p.1 ≠ q.1 := by
  unfold selB
  rw [List.pairwise_map]
  have h1 : es.zipIdx.Pairwise fun p q => p.1.1 ≠ q.1.1 := by
    have h3 : es.zipIdx.map (fun p : (Nat × List L × List L) × Nat => p.1) = es := by simp
    rw [← h3, List.pairwise_map] at h
    exact h
  exact List.Pairwise.sublist List.filter_sublist h1
theorem keys_inj {es : List (Nat × List L × List L)} (h : es.Pairwise fun p q => p.1 ≠ q.1) {i j : Nat} {e f : Nat × List L × List L} (hi : es[i]? = some e) (hj : es[j]? = some f) (he : e.1 = f.1) : i = j := by
  obtain ⟨li, ei⟩ := List.getElem?_eq_some_iff.1 hi
  obtain ⟨lj, ej⟩ := List.getElem?_eq_some_iff.1 hj
  rcases Nat.lt_trichotomy i j with hlt | heq | hgt
  · exact absurd (by rw [ei, ej]; exact he) (List.pairwise_iff_getElem.1 h i j li lj hlt)
  · exact heq
  · exact absurd (by rw [ei, ej]; exact he.symm) (List.pairwise_iff_getElem.1 h j i lj li hgt)

def storesOk (ds : List Nat) : List (Nat × List L) → List Oper → Bool
  | [], [] => true
  | p :: bx, o :: l => (match o.op, o.dst, o.guard with
    | .store _ (.tmp d) y, none, none => d == p.1 && (match y with | .tmp u => !(ds.contains u) | _ => true)
    | _, _, _ => false) && storesOk ds bx l
  | _, _ => false
theorem storesOk_cons {ds : List Nat} {p : Nat × List L} {bx : List (Nat × List L)} {o : Oper} {l : List Oper} (h : storesOk ds (p :: bx) (o :: l) = true) : (∃ t y, o.op = .store t (.tmp p.1) y ∧ o.dst = none ∧ o.guard = none ∧ ∀ u, y = .tmp u → u ∉ ds) ∧ storesOk ds bx l = true := by
  unfold storesOk at h
  rw [Bool.and_eq_true] at h
  obtain ⟨h, h'⟩ := h
  refine ⟨?_, h'⟩
  split at h
  · rename_i t d y h1 h2 h3
    rw [Bool.and_eq_true] at h
    obtain ⟨h, hu⟩ := h
    have hd : d = p.1 := by simpa using h
    subst hd
    refine ⟨t, y, h1, h2, h3, fun u hy => ?_⟩
    subst hy
    simpa using hu
  · cases h

theorem VOps_stores {ops : Array Oper} {K : St → Prop} {ds : List Nat} {l2 : List Oper} : ∀ {l : List Oper} {bx : List (Nat × List L)} {s : St}, storesOk ds bx l = true → VOps P T ops (l ++ l2) s K → (bx.Pairwise fun p q => p.1 ≠ q.1) →
    (∀ p ∈ bx, look s.env p.1 = some (ptrA p.1) ∧ look s.box p.1 = some p.2) → ∃ fins : List (List L), fins.length = bx.length ∧ VOps P T ops l2 { s with box := (bx.zip fins).foldl (fun b q => sput q.1.1 q.2 b) s.box } K ∧
      ∀ (j : Nat) (o : Oper), l[j]? = some o → ∃ t y i vs p, bx[j]? = some p ∧ o.op = .store t (.tmp p.1) y ∧ o.dst = none ∧ o.guard = none ∧ (∀ u, y = .tmp u → u ∉ ds) ∧ T t = some i ∧ partCells T s t y = some vs ∧ vs.length = i.size ∧ vs.length ≤ p.2.length ∧ fins[j]? = some (setL 0 vs p.2)
  | [], bx, s, hst, h, hp, hb => by
    cases bx with
    | nil => exact ⟨[], rfl, h, fun j o hj => by simp at hj⟩
    | cons p bx => cases hst
  | o :: l, bx, s, hst, h, hp, hb => by
    cases bx with
    | nil => cases hst
    | cons p bx =>
      obtain ⟨⟨t, y, h1, h2, h3, hu⟩, hst'⟩ := storesOk_cons hst
      simp only [List.cons_append, VOps] at h
      have hg : guardOf ops s o = some true := by unfold guardOf; rw [h3]
      rw [hg] at h
      simp only at h
      unfold VOp at h
      simp only [h1] at h
      obtain ⟨_, h⟩ := h
      obtain ⟨i, h4, h⟩ := mO_elim h
      obtain ⟨vs, h5, h⟩ := mO_elim h
      obtain ⟨x, h6, h⟩ := mO_elim h
      have h7 : evalO T s 0 (.tmp p.1) = some (ptrA p.1) := (hb p (by simp)).1
      rw [h7] at h6
      have h6 : some (L.ptr p.1 0) = some x := h6
      injection h6 with h6
      subst h6
      simp only [storeK, (hb p (by simp)).2, mO_some, Nat.zero_add] at h
      obtain ⟨⟨h8, h9⟩, h⟩ := h
      obtain ⟨hp1, hp2⟩ := List.pairwise_cons.1 hp
      obtain ⟨fins, g1, g2, g3⟩ := VOps_stores (s := { s with box := sput p.1 (setL 0 vs p.2) s.box }) hst' h hp2 fun q hq => ⟨(hb q (by simp [hq])).1, by
        show look (sput p.1 (setL 0 vs p.2) s.box) q.1 = _
        rw [look_sput, if_neg (fun e => hp1 q hq e.symm)]
        exact (hb q (by simp [hq])).2⟩
      refine ⟨setL 0 vs p.2 :: fins, by simp [g1], g2, fun j o' hj => ?_⟩
      cases j with
      | zero =>
        simp only [List.getElem?_cons_zero, Option.some.injEq] at hj
        subst hj
        exact ⟨t, y, i, vs, p, rfl, h1, h2, h3, hu, h4, h5, h8, h9, rfl⟩
      | succ j =>
        obtain ⟨t', y', i', vs', q, k1, k2, k3, k4, k5, k6, k7, k8, k9, k10⟩ := g3 j o' (by simpa using hj)
        exact ⟨t', y', i', vs', q, k1, k2, k3, k4, k5, k6, k7, k8, k9, k10⟩

theorem partCells_free {d : Nat} {ty : TypeId} {x : Operand} {vs : List L} (he : ∀ t y, x = .tmp t → look s.env t = some y → y.map (L.noPtr d) = y) (h : partCells T s ty x = some vs) : vs.map (L.noPtr d) = vs := by
  unfold partCells at h
  have hx : ∀ y, evalO T s ty x = some y → y.map (L.noPtr d) = y := by
    intro y hy
    cases x with
    | tmp t => exact he t y rfl hy
    | const c =>
      have hy : constA T ty c = some y := hy
      unfold constA at hy
      split at hy <;> first | (injection hy with hy; subst hy; rfl) | cases hy
    | func f => injection hy with hy; subst hy; rfl
    | global g => cases hy
  split at h
  · rename_i l hl
    injection h with h
    subst h
    have := hx _ hl
    simp only [A.map, V.map, A.v.injEq, V.one.injEq] at this
    simp [this]
  · rename_i ls hl
    injection h with h
    subst h
    have := hx _ hl
    simpa only [A.map, V.map, A.v.injEq, V.agg.injEq] using this
  · cases h
theorem setL_free {d : Nat} : ∀ (n : Nat) (vs ls : List L), vs.map (L.noPtr d) = vs → ls.map (L.noPtr d) = ls → (setL n vs ls).map (L.noPtr d) = setL n vs ls
  | 0, [], ls, _, h => by simpa [setL] using h
  | 0, v :: vs, l :: ls, hv, h => by
    simp only [List.map_cons, List.cons.injEq] at hv h
    simp only [setL, List.map_cons, hv.1, setL_free 0 vs ls hv.2 h.2]
  | n + 1, vs, l :: ls, hv, h => by
    simp only [List.map_cons, List.cons.injEq] at h
    simp only [setL, List.map_cons, h.1, setL_free n vs ls hv h.2]
  | 0, v :: vs, [], _, _ => rfl
  | n + 1, vs, [], _, _ => rfl

theorem fold_sput {id : Nat} {x : List L} : ∀ {bx : List (Nat × List L)} {fins : List (List L)} {b : List (Nat × List L)}, fins.length = bx.length → (bx.Pairwise fun p q => p.1 ≠ q.1) → (look ((bx.zip fins).foldl (fun b q => sput q.1.1 q.2 b) b) id = some x ↔
    (∃ (j : Nat) (p : Nat × List L), bx[j]? = some p ∧ p.1 = id ∧ fins[j]? = some x) ∨ ((∀ p ∈ bx, p.1 ≠ id) ∧ look b id = some x))
  | [], fins, b, _, _ => by simp
  | p :: bx, [], b, h, _ => by simp at h
  | p :: bx, f :: fins, b, h, hp => by
    obtain ⟨hp1, hp2⟩ := List.pairwise_cons.1 hp
    rw [List.zip_cons_cons, List.foldl_cons, fold_sput (by simpa using h) hp2]
    simp only [look_sput]
    constructor
    · rintro (⟨j, q, h1, h2, h3⟩ | ⟨h1, h2⟩)
      · exact .inl ⟨j + 1, q, by simpa using h1, h2, by simpa using h3⟩
      · split at h2
        · rename_i he
          injection h2 with h2
          exact .inl ⟨0, p, rfl, he.symm, by simp [h2]⟩
        · rename_i he
          refine .inr ⟨fun q hq => ?_, h2⟩
          rcases List.mem_cons.1 hq with rfl | hq
          · exact fun e => he e.symm
          · exact h1 q hq
    · rintro (⟨j, q, h1, h2, h3⟩ | ⟨h1, h2⟩)
      · cases j with
        | zero =>
          simp only [List.getElem?_cons_zero, Option.some.injEq] at h1 h3
          subst h1 h3
          refine .inr ⟨fun q hq e => hp1 q hq (by rw [h2, e]), ?_⟩
          rw [if_pos h2.symm]
        | succ j => exact .inl ⟨j, q, by simpa using h1, h2, by simpa using h3⟩
      · refine .inr ⟨fun q hq => h1 q (by simp [hq]), ?_⟩
        rw [if_neg (fun e => h1 p (by simp) e.symm)]
        exact h2


theorem fold_env_ne {t : Tmp} : ∀ {bx : List (Nat × List L)} {s : St}, (∀ p ∈ bx, p.1 ≠ t) → look (bx.foldl addBox s).env t = look s.env t
  | [], s, _ => rfl
  | p :: bx, s, h => by
    rw [List.foldl_cons, fold_env_ne (fun q hq => h q (by simp [hq]))]
    simp only [addBox, look]
    rw [if_neg (h p (by simp))]
theorem look_puts_ne {t : Tmp} : ∀ {ps : List (Option Tmp × A)} {s : St}, (∀ p ∈ ps, p.1 ≠ some t) → look (puts s ps).env t = look s.env t
  | [], s, _ => rfl
  | p :: ps, s, h => by
    rw [puts, look_puts_ne (fun q hq => h q (by simp [hq]))]
    have hp := h p (by simp)
    unfold St.putO
    cases hd : p.1 with
    | none => rfl
    | some d =>
      simp only [St.put, look]
      rw [if_neg (fun e => hp (by rw [hd, e]))]

def stS (s : St) (ps : List (Option Tmp × A)) (na nb : Nat) (es : List (Nat × List L × List L)) (S : Nat → Bool) : St := { n := s.n, env := (puts s (sel S ps)).env, box := selB na nb S es ++ s.box, row := s.row }

theorem AWP.drawS (hT : TabOk P T) (hm : P.follows .mixedOrders = true) {Q : Exit → St → Prop} {id : Nat} {l l1 l2 l3 l4 : List Oper} (na nb dep : Nat) (bx : List (Nat × List L)) (hchk : drawOk l.toArray (na + nb + nb) dep = true) (h1 : l.take na = l1) (h2 : (l.drop na).take nb = l2)
    (h4 : (l.drop (na + nb)).take nb = l4) (h3 : l.drop (na + nb + nb) = l3)
    (hfl : floats T s.n l2 = some bx) (hso : storesOk (bx.map (·.1)) bx l4 = true) (hz : ∀ p ∈ bx, ∀ q ∈ bx, q.2.map (L.noPtr p.1) = q.2) (hs : ∀ p ∈ bx, s.noBox p.1 = s)
    (h : ∀ K : St → Prop, (∀ s', Q .normal s' → K s') → VHead P T l.toArray l1 s fun s1 => (∀ p ∈ bx, s1.noBox p.1 = s1) ∧ VOps P T l.toArray (l2 ++ (l4 ++ l3)) s1 K) : AWP P w0 m0 F0 (.region id l.toArray true) Q s := by
  intro a w hc
  have F := drawFacts hchk
  have hle : na + nb + nb ≤ l.length := by simpa using F.le
  obtain ⟨ps, g1, ⟨hs1, hV⟩, g3⟩ := VHead_chain _ _ (h _ fun _ h => h)
  have hlen : ps.length = na := by rw [g1, ← h1, List.length_take]; omega
  obtain ⟨hbl, hbg⟩ := floats_get hfl
  have hbl : bx.length = nb := by rw [hbl, ← h2, List.length_take, List.length_drop]; omega
  have hl4 : l4.length = nb := by rw [← h4, List.length_take, List.length_drop]; omega
  generalize hps : ps ++ ((bx.map fun p => (some p.1, ptrA p.1)) ++ List.replicate nb ((none, .tup []) : Option Tmp × A)) = ps'
  have hget : ∀ j, j < l.length → ∃ o, l[j]? = some o := fun j hj => ⟨l[j], List.getElem?_eq_getElem hj⟩
  -- the stores' shape
  have hsto : ∀ (j : Nat) (o : Oper), l4[j]? = some o → ∃ p t y, bx[j]? = some p ∧ o.op = .store t (.tmp p.1) y ∧ o.dst = none := by
    have key : ∀ (ds : List Nat) (bx : List (Nat × List L)) (l4 : List Oper), storesOk ds bx l4 = true → ∀ (j : Nat) (o : Oper), l4[j]? = some o → ∃ p t y, bx[j]? = some p ∧ o.op = .store t (.tmp p.1) y ∧ o.dst = none := by
      intro ds bx
      induction bx with
      | nil =>
        intro l4 hh j o hj
        cases l4 with
        | nil => simp at hj
        | cons _ _ => cases hh
      | cons p bx ih =>
        intro l4 hh j o hj
        cases l4 with
        | nil => simp at hj
        | cons o' l4 =>
          obtain ⟨⟨t, y, k1, k2, _⟩, k3⟩ := storesOk_cons hh
          cases j with
          | zero => simp only [List.getElem?_cons_zero, Option.some.injEq] at hj; subst hj; exact ⟨p, t, y, rfl, k1, k2⟩
          | succ j => exact ih l4 k3 j o (by simpa using hj)
    exact key _ bx l4 hso
  -- what each writes
  have hq : ∀ j p, ps'[j]? = some p → j < na + nb + nb ∧ dstAt l.toArray j = p.1 := by
    intro j p hp
    rw [← hps] at hp
    have hj : j < na + nb + nb := by
      have := (List.getElem?_eq_some_iff.1 hp).1
      simp only [List.length_append, List.length_map, List.length_replicate, hlen, hbl] at this
      omega
    refine ⟨hj, ?_⟩
    obtain ⟨o, ho⟩ := hget j (by omega)
    rcases Nat.lt_or_ge j na with hjn | hjn
    · rw [List.getElem?_append_left (by omega)] at hp
      obtain ⟨x, h5, _⟩ := g3 j o (by rw [← h1, List.getElem?_take, if_pos hjn, ho])
      rw [hp] at h5
      injection h5 with h5
      simp [dstAt, ho, h5]
    · rw [List.getElem?_append_right (by omega), hlen] at hp
      rcases Nat.lt_or_ge (j - na) nb with hjb | hjb
      · rw [List.getElem?_append_left (by simp; omega), List.getElem?_map] at hp
        obtain ⟨q, h5, h6⟩ := Option.map_eq_some_iff.1 hp
        obtain ⟨e, d, i, ls, k1, k2, k3, k4, k5, k6, k7⟩ := hbg (j - na) o (by rw [← h2, List.getElem?_take, if_pos hjb, List.getElem?_drop, show na + (j - na) = j by omega, ho])
        rw [h5] at k7
        injection k7 with k7
        subst h6 k7
        simp [dstAt, ho, k2]
      · rw [List.getElem?_append_right (by simp; omega)] at hp
        simp only [List.length_map, hbl] at hp
        rw [List.getElem?_replicate, if_pos (by omega)] at hp
        injection hp with hp
        obtain ⟨q, t, y, k1, k2, k3⟩ := hsto (j - na - nb) o (by rw [← h4, List.getElem?_take, if_pos (by omega), List.getElem?_drop, show na + nb + (j - na - nb) = j by omega, ho])
        subst hp
        simp [dstAt, ho, k3]
  have hapart : ApartP ps' := by
    refine List.pairwise_iff_getElem.2 fun i j hi hj hij t hp => ?_
    obtain ⟨a1, a2⟩ := hq i _ (List.getElem?_eq_getElem hi)
    obtain ⟨b1, b2⟩ := hq j _ (List.getElem?_eq_getElem hj)
    rw [← b2]
    exact F.apart i j a1 b1 (by omega) t (by rw [a2, hp])
  have hapart' := hapart
  rw [← hps] at hapart'
  obtain ⟨hap1, hap2, hap3⟩ := List.pairwise_append.1 hapart'
  have hkeys : bx.Pairwise fun p q => p.1 ≠ q.1 := by
    have h5 := (List.pairwise_map.1 (List.pairwise_append.1 hap2).1)
    exact h5.imp fun {p q} hpq e => hpq p.1 rfl (by rw [e])
  -- nothing else points to a fresh one
  have hfree : ∀ p ∈ ps', ∀ t, p.1 = some t → ∀ q ∈ bx, t ≠ q.1 → p.2.map (L.noPtr q.1) = p.2 := by
    intro p hp t ht q hq' hne
    rw [← hps] at hp
    rcases List.mem_append.1 hp with hp | hp
    · have h5 : look (puts s ps).env t = some p.2 := (look_puts ps s (ApartP.apart hap1) t p.2).2 (.inl (by rw [← ht]; exact hp))
      exact free_env (hs1 q hq') h5
    · rcases List.mem_append.1 hp with hp | hp
      · obtain ⟨r, h5, rfl⟩ := List.mem_map.1 hp
        have ht : some r.1 = some t := ht
        injection ht with ht
        exact ptrA_free (by rw [ht]; exact hne)
      · rw [(List.mem_replicate.1 hp).2] at ht
        cases ht
  have hV2 := VOps_floats (s := puts s ps) (by rw [puts_n]; exact hfl) hV hkeys hs1 hz
  -- the looks of the state after them
  have hfe : ∀ p ∈ bx, look (bx.foldl addBox (puts s ps)).env p.1 = some (ptrA p.1) := by
    have key : ∀ (bx : List (Nat × List L)) (s : St), (bx.Pairwise fun p q => p.1 ≠ q.1) → (∀ p, (p ∈ bx ∨ look s.env p.1 = some (ptrA p.1)) → look (bx.foldl addBox s).env p.1 = some (ptrA p.1)) := by
      intro bx
      induction bx with
      | nil => intro s _ p hp; rcases hp with hp | hp; · cases hp
               · exact hp
      | cons q bx ih =>
        intro s hk p hp
        refine ih (addBox s q) (List.pairwise_cons.1 hk).2 p ?_
        rcases hp with hp | hp
        · rcases List.mem_cons.1 hp with rfl | hp
          · right; simp [addBox, look]
          · exact .inl hp
        · right
          simp only [addBox, look]
          split
          · rename_i e; rw [e]
          · exact hp
    exact fun p hp => key bx _ hkeys p (.inl hp)
  have hfb : ∀ p ∈ bx, look (bx.foldl addBox (puts s ps)).box p.1 = some p.2 := by
    have key : ∀ (bx : List (Nat × List L)) (s : St), (bx.Pairwise fun p q => p.1 ≠ q.1) → (∀ p, (p ∈ bx ∨ ((∀ q ∈ bx, q.1 ≠ p.1) ∧ look s.box p.1 = some p.2)) → look (bx.foldl addBox s).box p.1 = some p.2) := by
      intro bx
      induction bx with
      | nil => intro s _ p hp; rcases hp with hp | hp; · cases hp
               · exact hp.2
      | cons q bx ih =>
        intro s hk p hp
        obtain ⟨hk1, hk2⟩ := List.pairwise_cons.1 hk
        refine ih (addBox s q) hk2 p ?_
        rcases hp with hp | ⟨hp1, hp2⟩
        · rcases List.mem_cons.1 hp with rfl | hp
          · right
            refine ⟨fun q hq e => hk1 q hq e.symm, ?_⟩
            obtain ⟨p1, p2⟩ := p
            simp [addBox, look]
          · exact .inl hp
        · right
          refine ⟨fun q' hq => hp1 q' (by simp [hq]), ?_⟩
          obtain ⟨q1, q2⟩ := q
          simp only [addBox, look]
          rw [if_neg (hp1 (q1, q2) (by simp))]
          exact hp2
    exact fun p hp => key bx _ hkeys p (.inl hp)
  obtain ⟨fins, f1, hV3, f3⟩ := VOps_stores hso hV2 hkeys fun p hp => ⟨hfe p hp, hfb p hp⟩
  generalize hes : ((bx.zip fins).map fun q => (q.1.1, q.1.2, q.2)) = es
  have he1 : ∀ (j : Nat) (e : Nat × List L × List L), es[j]? = some e → bx[j]? = some (e.1, e.2.1) ∧ fins[j]? = some e.2.2 := by
    intro j e he
    rw [← hes, List.getElem?_map] at he
    obtain ⟨q, h5, h6⟩ := Option.map_eq_some_iff.1 he
    rw [List.getElem?_zip_eq_some] at h5
    subst h6
    exact h5
  have he2 : ∀ (j : Nat) (p : Nat × List L) (f : List L), bx[j]? = some p → fins[j]? = some f → es[j]? = some (p.1, p.2, f) := by
    intro j p f hp hf
    have hz' : (bx.zip fins)[j]? = some (p, f) := List.getElem?_zip_eq_some.2 ⟨hp, hf⟩
    rw [← hes, List.getElem?_map, hz']
    rfl
  have hek : es.Pairwise fun p q => p.1 ≠ q.1 := by
    refine List.pairwise_iff_getElem.2 fun i j hi hj hij => ?_
    obtain ⟨li, ei⟩ := List.getElem?_eq_some_iff.1 (he1 i _ (List.getElem?_eq_getElem hi)).1
    obtain ⟨lj, ej⟩ := List.getElem?_eq_some_iff.1 (he1 j _ (List.getElem?_eq_getElem hj)).1
    have := List.pairwise_iff_getElem.1 hkeys i j li lj hij
    rw [ei, ej] at this
    exact this
  have hbxm : ∀ (j : Nat) (e : Nat × List L × List L), es[j]? = some e → (e.1, e.2.1) ∈ bx := fun j e he => List.mem_of_getElem? (he1 j e he).1
  have hff : ∀ (j : Nat) (e : Nat × List L × List L), es[j]? = some e → ∀ q ∈ bx, e.2.2.map (L.noPtr q.1) = e.2.2 := by
    intro j e he q hq'
    obtain ⟨k1, k2⟩ := he1 j e he
    have hjl : j < l4.length := by rw [hl4, ← hbl]; exact (List.getElem?_eq_some_iff.1 k1).1
    obtain ⟨t, y, i, vs, p, m1, m2, m3, m4, m5, m6, m7, m8, m9, m10⟩ := f3 j l4[j] (List.getElem?_eq_getElem hjl)
    rw [k2] at m10
    injection m10 with m10
    rw [m10]
    refine setL_free 0 vs p.2 (partCells_free (fun u z hy hz' => ?_) m7) (hz q hq' p (List.mem_of_getElem? m1))
    have hu : ∀ p ∈ bx, p.1 ≠ u := fun p hp e => m5 u hy (List.mem_map.2 ⟨p, hp, e⟩)
    rw [fold_env_ne hu] at hz'
    exact free_env (hs1 q hq') hz'
  have hzf : ∀ (j : Nat) (e : Nat × List L × List L) (S : Nat → Bool), es[j]? = some e → ∀ q ∈ bx, (if S (na + nb + j) then e.2.2 else e.2.1).map (L.noPtr q.1) = if S (na + nb + j) then e.2.2 else e.2.1 := by
    intro j e S he q hq'
    split
    · exact hff j e he q hq'
    · exact hz q hq' _ (hbxm j e he)
  have hps2 : ∀ (j : Nat) (p : Nat × List L), bx[j]? = some p → ps'[na + j]? = some (some p.1, ptrA p.1) := by
    intro j p hp
    have hj : j < nb := by rw [← hbl]; exact (List.getElem?_eq_some_iff.1 hp).1
    rw [← hps, List.getElem?_append_right (by omega), hlen, show na + j - na = j by omega, List.getElem?_append_left (by simp; omega), List.getElem?_map, hp]
    rfl
  have hps3 : ∀ j, j < nb → ps'[na + nb + j]? = some (none, .tup []) := by
    intro j hj
    rw [← hps, List.getElem?_append_right (by omega), hlen, List.getElem?_append_right (by simp; omega)]
    simp only [List.length_map, hbl]
    rw [List.getElem?_replicate, if_pos (by omega)]
  have hst_alloc : ∀ (S : Nat → Bool) (j : Nat) (e : Nat × List L × List L), es[j]? = some e → na + nb + j ∈ [na + nb + j] → (∀ k ∈ clo l.toArray dep (na + nb + j), S k = true) → S (na + j) = true := by
    intro S j e he _ hS
    obtain ⟨k1, k2⟩ := he1 j e he
    have hj : j < nb := by rw [← hbl]; exact (List.getElem?_eq_some_iff.1 k1).1
    obtain ⟨o, ho⟩ := hget (na + nb + j) (by omega)
    obtain ⟨p, t, y, m1, m2, m3⟩ := hsto j o (by rw [← h4, List.getElem?_take, if_pos hj, List.getElem?_drop, ho])
    rw [k1] at m1
    injection m1 with m1
    obtain ⟨_, hd⟩ := hq _ _ (hps2 j _ k1)
    refine hS _ ((F.reads (na + nb + j) (na + j) e.1 (by omega) (by omega) (by omega) hd ?_).1 (by omega))
    have hoo : l.toArray[na + nb + j]? = some o := by simpa using ho
    simp only [looksAt, hoo]
    refine operand_looks ?_
    rw [m2, ← m1]
    simp [Op.operands]
  obtain ⟨m, ω, hC⟩ := hc
  refine wp_region_any hm ?_
  have hg0 : ∀ i, (Array.replicate l.toArray.size false).getD i false = false := fun i => by
    rw [Array.getD_eq_getD_getElem?, Array.getElem?_replicate]
    split <;> rfl
  refine draw_headG hT F (K := Q .normal) (Q := PostQ P w0 m0 F0 Q) (s2 := _) (C := fun S a w => ∃ m ω, CI P w0 m0 F0 (stS s ps' na nb es S) a w m ω)
    (fun s a w h1 h2 => ⟨s, h1, h2⟩) (fun S i a w o ho hi hSi htl hcl hcl2 hC' K' Q' hK => ?_) (fun S a w hall htl hC' => ?_) (by rw [show l.toArray.toList = l from rfl, h3]; exact hV3) l.toArray.size _ a _ 0 (by omega) (by simp) ?_ ?_ ?_ ?_
  · obtain ⟨m, ω, hC'⟩ := hC'
    have hol : l[i]? = some o := by simpa using ho
    rcases Nat.lt_or_ge i na with hin | hin
    · obtain ⟨x, h5, hS⟩ := g3 i o (by rw [← h1, List.getElem?_take, if_pos hin, hol])
      have h5' : ps'[i]? = some (o.dst, x) := by rw [← hps, List.getElem?_append_left (by omega)]; exact h5
      have htake : ps'.take i = ps.take i := by rw [← hps, List.take_append_of_le_length (by omega)]
      refine StepOK_sound hT hS (s := stS s ps' na nb es S) (fun id ls hb => ?_) (by rw [puts_row]; rfl) (by rw [puts_n]; rfl) (fun t ht => ?_) hC' (fun v w' m' hC2 => hK _ _ ⟨m', ω, hC2.ext ?_ (fun t => ?_) ?_ ?_⟩)
      · rw [puts_box] at hb
        refine (look_app (selB_keys hek)).2 (.inr ⟨fun p hp e => ?_, hb⟩)
        obtain ⟨j, f, _, hj, rfl⟩ := mem_selB.1 hp
        exact (free_box (hs _ (hbxm j f hj)) hb).1 e.symm
      · have := look_head (s := s) F hapart hq hi hSi hcl hcl2 (t := t) (by simpa [looksAt, hol] using ht)
        rw [htake] at this
        exact this
      · rw [putO_n]; rfl
      · show look (puts s (sel (fun j => if j = i then true else S j) ps')).env t = _
        rw [sel_step hapart h5' hSi]
        unfold St.putO
        cases hd : o.dst with
        | none => simp [stS]
        | some d => simp only [St.put, look, Option.some.injEq, stS]
      · rw [putO_box]
        show selB na nb _ es ++ s.box = selB na nb S es ++ s.box
        congr 1
        unfold selB
        have e1 : ∀ q : (Nat × List L × List L) × Nat, (if na + q.2 = i then true else S (na + q.2)) = S (na + q.2) := fun q => if_neg (by omega)
        have e2 : ∀ q : (Nat × List L × List L) × Nat, (if na + nb + q.2 = i then true else S (na + nb + q.2)) = S (na + nb + q.2) := fun q => if_neg (by omega)
        simp only [e1, e2]
      · rw [putO_row]; rfl
    · rcases Nat.lt_or_ge (i - na) nb with hib | hib
      · -- a fresh variable
        obtain ⟨e, d, ti, ls, k1, k2, k3, k4, k5, k6, k7⟩ := hbg (i - na) o (by rw [← h2, List.getElem?_take, if_pos hib, List.getElem?_drop, show na + (i - na) = i by omega, hol])
        have hmem : (d, ls) ∈ bx := List.mem_of_getElem? k7
        obtain ⟨fin, hfin⟩ : ∃ f, fins[i - na]? = some f := ⟨fins[i - na]'(by omega), List.getElem?_eq_getElem _⟩
        have hes1 := he2 _ _ _ k7 hfin
        have hstS : S (na + nb + (i - na)) = false := by
          cases hb : S (na + nb + (i - na)) with
          | false => rfl
          | true =>
            have := hst_alloc S _ _ hes1 (by simp) (hcl2 _ hb)
            rw [show na + (i - na) = i by omega, hSi] at this
            cases this
        have h5' : ps'[i]? = some (some d, ptrA d) := by
          have := hps2 _ _ k7
          rwa [show na + (i - na) = i by omega] at this
        have hw : Region.wanted o (yielded l.toArray a.tmps) = true := by unfold Region.wanted; rw [k3]
        rw [if_pos hw]
        refine .inl (moves_alloc k1 k2 (s := stS s ps' na nb es S) k6 (hT _ _ k4) k5 hC' K' Q' fun v w' ⟨m', ω', hC2⟩ => hK _ _ ⟨m', ω', hC2.weaken rfl (fun t x hx => ?_) (fun id bs hb => ?_) (fun id r hr => ?_)⟩)
        · have hx : look (puts s (sel (fun j => if j = i then true else S j) ps')).env t = some x := hx
          rw [sel_step hapart h5' hSi] at hx
          show look ((d, ptrA d) :: ((puts s (sel S ps')).env.map fun p => (p.1, p.2.map (L.noPtr d)))) t = some x
          simp only [look]
          by_cases hdt : d = t
          · rw [if_pos hdt]
            rw [if_pos (by rw [hdt])] at hx
            exact hx
          · rw [if_neg hdt, look_map (fun x : A => x.map (L.noPtr d))]
            rw [if_neg (by simpa using hdt)] at hx
            rw [hx]
            show some (x.map (L.noPtr d)) = some x
            congr 1
            rcases (look_puts _ _ (sel_apart hapart).apart t x).1 hx with h5 | ⟨_, h5⟩
            · obtain ⟨j, _, hj⟩ := mem_sel.1 h5
              exact hfree _ (List.mem_of_getElem? hj) t rfl _ hmem (fun e => hdt e.symm)
            · exact free_env (hs _ hmem) h5
        · have hb : look (selB na nb (fun j => if j = i then true else S j) es ++ s.box) id = some bs := hb
          show look ((d, ls.map (L.noPtr d)) :: ((Bw.del d (selB na nb S es ++ s.box)).map fun p => (p.1, p.2.map (L.noPtr d)))) id = some bs
          rw [hz (d, ls) hmem (d, ls) hmem]
          simp only [look]
          rcases (look_app (selB_keys hek)).1 hb with h5 | ⟨h5, h6⟩
          · obtain ⟨j, f, hj, hj', hjp⟩ := mem_selB.1 h5
            injection hjp with hj1 hj2
            by_cases hdi : d = id
            · rw [if_pos hdi]
              have hji : j = i - na := keys_inj hek hj' hes1 (by rw [← hj1, ← hdi])
              subst hji
              rw [hes1] at hj'
              injection hj' with hj'
              rw [hj2, ← hj']
              simp [show na + nb + (i - na) ≠ i by omega, hstS]
            · rw [if_neg hdi, look_map (fun x : List L => x.map (L.noPtr d)), look_del, if_neg (fun e => hdi e.symm)]
              have hjne : na + j ≠ i := fun e => by
                have : j = i - na := by omega
                subst this
                rw [hes1] at hj'
                injection hj' with hj'
                exact hdi (by rw [hj1, ← hj'])
              have hjl : j < nb := by rw [← hbl]; exact (List.getElem?_eq_some_iff.1 (he1 _ _ hj').1).1
              have hjne2 : na + nb + j ≠ i := by omega
              have h7 : look (selB na nb S es ++ s.box) id = some bs := (look_app (selB_keys hek)).2 (.inl (mem_selB.2 ⟨j, f, by simpa [hjne] using hj, hj', by rw [hj1, hj2, if_neg hjne2]⟩))
              rw [h7]
              refine congrArg some ?_
              rw [hj2, if_neg hjne2]
              exact hzf j f S hj' _ hmem
          · obtain ⟨h8, h9⟩ := free_box (hs _ hmem) h6
            rw [if_neg (fun e => h8 e.symm), look_map (fun x : List L => x.map (L.noPtr d)), look_del, if_neg h8]
            have h7 : look (selB na nb S es ++ s.box) id = some bs := (look_app (selB_keys hek)).2 (.inr ⟨fun p hp => by
              obtain ⟨j, f, hj, hj', rfl⟩ := mem_selB.1 hp
              refine h5 _ (mem_selB.2 ⟨j, f, ?_, hj', by rw [if_neg (show ¬ na + nb + j = i by omega)]⟩)
              split
              · rfl
              · exact hj, h6⟩)
            rw [h7]
            exact congrArg some h9
        · have hr : look s.row id = some r := hr
          show look (s.noBox d).row id = some r
          rw [hs _ hmem]
          exact hr
      · -- a store into one
        have hij : na + nb + (i - na - nb) = i := by omega
        have hjb : i - na - nb < nb := by omega
        obtain ⟨t, y, ti, vs, p, m1, m2, m3, m4, m5, m6, m7, m8, m9, m10⟩ := f3 (i - na - nb) o (by rw [← h4, List.getElem?_take, if_pos hjb, List.getElem?_drop, hij, hol])
        have hes1 := he2 _ _ _ m1 m10
        have hSa : S (na + (i - na - nb)) = true := hst_alloc S _ _ hes1 (by simp) (by rw [hij]; exact hcl)
        have h5' : ps'[i]? = some (none, .tup []) := by
          have := hps3 _ hjb
          rwa [hij] at this
        have hw : Region.wanted o (yielded l.toArray a.tmps) = true := by unfold Region.wanted; rw [m4]
        rw [if_pos hw]
        refine .inl (moves_store (T := T) (ty := 0) (ty' := t) (id := p.1) (off := 0) (ls := p.2) (vs := vs) m2 m3 (hT _ _ m6) hC' ?_ ?_ ?_ m8 (by omega) K' Q' fun v w' ⟨m', ω', hC2⟩ => hK _ _ ⟨m', ω', hC2.weaken rfl (fun u x hx => ?_) (fun id bs hb => ?_) (fun id r hr => hr)⟩)
        · exact (look_puts _ _ (sel_apart hapart).apart _ _).2 (.inl (mem_sel.2 ⟨_, hSa, hps2 _ p m1⟩))
        · refine (look_app (selB_keys hek)).2 (.inl (mem_selB.2 ⟨_, _, hSa, hes1, ?_⟩))
          rw [hij, hSi]
          rfl
        · rw [← m7]
          refine partCells_congr fun ty => evalO_congr (fun u hu => ?_) ty
          have hne : ∀ p ∈ bx, p.1 ≠ u := fun p hp e => m5 u hu (List.mem_map.2 ⟨p, hp, e⟩)
          rw [fold_env_ne hne]
          show look (puts s (sel S ps')).env u = _
          have hoo : l.toArray[i]? = some o := by simpa using hol
          rw [← look_head (s := s) F hapart hq hi hSi hcl hcl2 (t := u) (by
            simp only [looksAt, hoo]
            refine operand_looks ?_
            rw [m2, ← hu]
            simp [Op.operands]), ← hps, List.take_append, List.take_of_length_le (by omega), puts_append]
          refine look_puts_ne fun q hq' => ?_
          rcases List.mem_append.1 (List.mem_of_mem_take hq') with hq' | hq'
          · obtain ⟨r, h6, rfl⟩ := List.mem_map.1 hq'
            intro e
            injection e with e
            exact hne r h6 e
          · rw [(List.mem_replicate.1 hq').2]
            intro e
            cases e
        · have hx : look (puts s (sel (fun j => if j = i then true else S j) ps')).env u = some x := hx
          rw [sel_step hapart h5' hSi, if_neg (by intro e; cases e)] at hx
          exact hx
        · have hb : look (selB na nb (fun j => if j = i then true else S j) es ++ s.box) id = some bs := hb
          show look (sput p.1 (setL 0 vs p.2) (selB na nb S es ++ s.box)) id = some bs
          rw [look_sput]
          rcases (look_app (selB_keys hek)).1 hb with h5 | ⟨h5, h6⟩
          · obtain ⟨j, f, hj, hj', hjp⟩ := mem_selB.1 h5
            injection hjp with hj1 hj2
            have hjl : j < nb := by rw [← hbl]; exact (List.getElem?_eq_some_iff.1 (he1 _ _ hj').1).1
            have hji : na + j ≠ i := by omega
            rw [if_neg hji] at hj
            by_cases hid : id = p.1
            · rw [if_pos hid]
              have hjj : j = i - na - nb := keys_inj hek hj' hes1 (by rw [← hj1, hid])
              subst hjj
              rw [hes1] at hj'
              injection hj' with hj'
              rw [hj2, ← hj', if_pos hij, if_pos rfl]
            · rw [if_neg hid]
              have hjne : na + nb + j ≠ i := fun e => by
                have : j = i - na - nb := by omega
                subst this
                rw [hes1] at hj'
                injection hj' with hj'
                exact hid (by rw [hj1, ← hj'])
              refine (look_app (selB_keys hek)).2 (.inl (mem_selB.2 ⟨j, f, hj, hj', ?_⟩))
              rw [hj1, hj2, if_neg hjne]
          · have hid : id ≠ p.1 := fun e => h5 _ (mem_selB.2 ⟨_, _, by
              show (if na + (i - na - nb) = i then true else S (na + (i - na - nb))) = true
              rw [hSa]
              simp, hes1, rfl⟩) e.symm
            rw [if_neg hid]
            refine (look_app (selB_keys hek)).2 (.inr ⟨fun q hq' => ?_, h6⟩)
            obtain ⟨j, f, hj, hj', rfl⟩ := mem_selB.1 hq'
            have hh : (if na + j = i then true else S (na + j)) = true := by
              split
              · rfl
              · exact hj
            exact show f.1 ≠ id from h5 _ (mem_selB.2 ⟨j, f, hh, hj', rfl⟩)
  · obtain ⟨m, ω, hC'⟩ := hC'
    refine ⟨m, ω, hC'.weaken (by show _ = s.n; rw [fold_row.2, puts_n]) (fun t x hx => ?_) (fun id bs hb => ?_) (fun id r hr => ?_)⟩
    · show look (puts s (sel S ps')).env t = some x
      rw [look_puts _ _ (sel_apart hapart).apart]
      have hall' : ∀ p ∈ ps', p ∈ sel S ps' := by
        intro p hp
        obtain ⟨j, hj, hj'⟩ := List.mem_iff_getElem.1 hp
        have := List.getElem?_eq_getElem hj
        rw [hj'] at this
        exact mem_sel.2 ⟨j, hall j (hq j p this).1, this⟩
      rcases fold_env hx with ⟨p, h5, h6, h7⟩ | ⟨h5, h6⟩
      · obtain ⟨j, hj, hj'⟩ := List.mem_iff_getElem.1 h5
        have := List.getElem?_eq_getElem hj
        rw [hj'] at this
        have h8 := hall' _ (List.mem_of_getElem? (hps2 j p this))
        rw [h6] at h8
        rw [h7]
        exact .inl h8
      · rcases (look_puts ps s (ApartP.apart hap1) t x).1 h6 with h7 | ⟨h7, h8⟩
        · exact .inl (hall' _ (by rw [← hps]; exact List.mem_append_left _ h7))
        · refine .inr ⟨fun p hp => ?_, h8⟩
          obtain ⟨j, _, hj⟩ := mem_sel.1 hp
          have hm := List.mem_of_getElem? hj
          rw [← hps] at hm
          rcases List.mem_append.1 hm with h9 | h9
          · exact h7 p h9
          · rcases List.mem_append.1 h9 with h9 | h9
            · obtain ⟨r, h10, rfl⟩ := List.mem_map.1 h9
              intro e
              injection e with e
              exact h5 r h10 e
            · rw [(List.mem_replicate.1 h9).2]
              intro e
              cases e
    · show look (selB na nb S es ++ s.box) id = some bs
      have hb : look ((bx.zip fins).foldl (fun b q => sput q.1.1 q.2 b) (bx.foldl addBox (puts s ps)).box) id = some bs := hb
      rcases (fold_sput f1 hkeys).1 hb with ⟨j, p, h5, h6, h7⟩ | ⟨h5, h6⟩
      · have hjl : j < nb := by rw [← hbl]; exact (List.getElem?_eq_some_iff.1 h5).1
        refine (look_app (selB_keys hek)).2 (.inl (mem_selB.2 ⟨j, _, hall _ (by omega), he2 _ _ _ h5 h7, ?_⟩))
        rw [hall _ (by omega), if_pos rfl, h6]
      · rcases fold_box h6 with h7 | ⟨h7, h8⟩
        · exact absurd rfl (h5 _ h7)
        · rw [puts_box] at h8
          refine (look_app (selB_keys hek)).2 (.inr ⟨fun p hp => ?_, h8⟩)
          obtain ⟨j, f, hj, hj', rfl⟩ := mem_selB.1 hp
          exact show f.1 ≠ id from h5 _ (hbxm j f hj')
    · have hr : look (bx.foldl addBox (puts s ps)).row id = some r := hr
      rw [fold_row.1, puts_row] at hr
      exact hr
  · rw [List.filter_eq_nil_iff.2 (fun i _ => by rw [hg0]; simp)]
    rfl
  · intro i _ hb
    rw [hg0] at hb
    cases hb
  · intro i _
    exact hg0 i
  · refine ⟨m, ω, hC.draw.ext rfl (fun t => ?_) ?_ rfl⟩
    · have : sel (fun i => (Array.replicate l.toArray.size false).getD i false) ps' = [] := by
        unfold sel
        simp only [hg0]
        simp
      simp only [stS, this]
      rfl
    · have : selB na nb (fun i => (Array.replicate l.toArray.size false).getD i false) es = [] := by
        unfold selB
        simp only [hg0]
        simp
      simp only [stS, this]
      rfl

theorem AWP.drawF (hT : TabOk P T) (hm : P.follows .mixedOrders = true) {Q : Exit → St → Prop} {id : Nat} {l l1 l2 l3 l4 : List Oper} (na nb dep : Nat) {bx : List (Nat × List L)} (hchk : drawOk l.toArray (na + nb + nb) dep = true) (h1 : l.take na = l1) (h2 : (l.drop na).take nb = l2)
    (h4 : (l.drop (na + nb)).take nb = l4) (h3 : l.drop (na + nb + nb) = l3)
    (hfl : floats T s.n l2 = some bx) (hso : storesOk (bx.map (·.1)) bx l4 = true) (hz : ∀ p ∈ bx, ∀ q ∈ bx, q.2.map (L.noPtr p.1) = q.2) (hs : ∀ p ∈ bx, s.noBox p.1 = s)
    (h : ∀ K2 : St → Prop, (∀ s1, (∀ p ∈ bx, s1.noBox p.1 = s1) → (∀ K : St → Prop, (∀ s', Q .normal s' → K s') → VOps P T l.toArray (l2 ++ (l4 ++ l3)) s1 K) → K2 s1) → VHead P T l.toArray l1 s K2) : AWP P w0 m0 F0 (.region id l.toArray true) Q s :=
  AWP.drawS hT hm na nb dep bx hchk h1 h2 h4 h3 hfl hso hz hs fun K hK => h _ fun s1 h5 h6 => ⟨h5, h6 K hK⟩
end
end Go.Bw

namespace Go.Bw
open Go.RowKit
section
variable {P : Program} {w0 : World} {m0 : Mem} {s s' : St} {a : Act} {w w' : World} {m m' : Mem} {ω ω' : Wh} {F0 : Home} {T : TypeId → Option TI}

def inv : Ids → Nat → Option Nat
  | [], _ => none
  | (i, j') :: r, j => if j' = j then some i else inv r j
def goodIds (τ : Ids) : Bool := τ.all fun p => inv τ p.2 == some p.1 && look τ p.1 == some p.2
theorem look_mem19 {α : Type} {x : α} {i : Nat} : ∀ {e : List (Nat × α)}, look e i = some x → (i, x) ∈ e
  | [], h => by cases h
  | (t, y) :: e, h => by
    simp only [look] at h
    split at h
    · rename_i ht; injection h with h; subst h; subst ht; exact List.mem_cons_self ..
    · exact List.mem_cons_of_mem _ (look_mem19 h)
theorem inv_mem {i j : Nat} : ∀ {τ : Ids}, inv τ j = some i → (i, j) ∈ τ
  | [], h => by cases h
  | (t, y) :: e, h => by
    simp only [inv] at h
    split at h
    · rename_i ht; injection h with h; subst h; subst ht; exact List.mem_cons_self ..
    · exact List.mem_cons_of_mem _ (inv_mem h)
theorem good_mem {τ : Ids} (h : goodIds τ = true) {i j : Nat} (hm : (i, j) ∈ τ) : inv τ j = some i ∧ look τ i = some j := by
  have := List.all_eq_true.1 h _ hm
  simpa using this
theorem good_look {τ : Ids} (h : goodIds τ = true) {i j : Nat} (hl : look τ i = some j) : inv τ j = some i := (good_mem h (look_mem19 hl)).1
theorem good_inv {τ : Ids} (h : goodIds τ = true) {i j : Nat} (hl : inv τ j = some i) : look τ i = some j := (good_mem h (inv_mem hl)).2
theorem look_out {α : Type} (g : Nat → α) (j : Nat) : ∀ (τ : Ids), look (τ.map fun p => (p.2, g p.1)) j = (inv τ j).map g
  | [] => rfl
  | (i, j') :: τ => by
    simp only [List.map_cons, look, inv]
    split
    · rfl
    · exact look_out g j τ
theorem look_append {α : Type} (i : Nat) : ∀ (e e' : List (Nat × α)), look (e ++ e') i = match look e i with | some x => some x | none => look e' i
  | [], _ => rfl
  | (t, x) :: e, e' => by
    simp only [List.cons_append, look]
    split
    · rfl
    · exact look_append i e e'

def idsOf (σ τ : Ids) : List Nat := σ.map (·.2) ++ τ.map (·.2)
def deadOf (σ τ : Ids) : List Nat := ((σ ++ τ).filter fun p => !(σ.elem p && τ.elem p)).map (·.2)
def outB (τb τr : Ids) (bx : Boxes) : Boxes := τb.map fun p => (p.2, ((look bx p.1).getD []).map (L.ids τb τr))
def outR (τb τr : Ids) (rw : Rows) : Rows := τr.map fun p => (p.2, ((look rw p.1).getD ⟨0, [], []⟩).map (L.ids τb τr))
def St.io (s : St) (σb σr τb τr : Ids) (bx' : Boxes) (rw' : Rows) : St :=
  { n := s.n, env := s.env.map fun p => (p.1, p.2.map (L.kl (deadOf σb τb) (deadOf σr τr))),
    box := outB τb τr bx' ++ (dropL (idsOf σb τb) s.box).map fun p => (p.1, p.2.map (L.kl (deadOf σb τb) (deadOf σr τr))),
    row := outR τb τr rw' ++ (dropL (idsOf σr τr) s.row).map fun p => (p.1, p.2.map (L.kl (deadOf σb τb) (deadOf σr τr))) }

def inB (s : St) (σb σr : Ids) : Boxes → Prop
  | [] => True
  | (i, ls) :: r => mO (look σb i) (fun j => look s.box j = some (ls.map (L.ids σb σr)) ∧ ls.all (okIds σb σr) = true) ∧ inB s σb σr r
def inR (s : St) (σr : Ids) : Rows → Prop
  | [] => True
  | (i, q) :: r => mO (look σr i) (fun j => q.ov = [] ∧ look s.row j = some q) ∧ inR s σr r
theorem inB_look {σb σr : Ids} : ∀ {bx : Boxes}, inB s σb σr bx → ∀ i ls, look bx i = some ls → ∃ j, look σb i = some j ∧ look s.box j = some (ls.map (L.ids σb σr)) ∧ ls.all (okIds σb σr) = true
  | [], _, i, ls, h => by cases h
  | (t, x) :: r, hI, i, ls, h => by
    simp only [look] at h
    split at h
    · rename_i ht
      injection h with h
      subst h; subst ht
      obtain ⟨j, h1, h2⟩ := mO_elim hI.1
      exact ⟨j, h1, h2⟩
    · exact inB_look hI.2 i ls h
theorem inR_look {σr : Ids} : ∀ {rw : Rows}, inR s σr rw → ∀ i q, look rw i = some q → ∃ j, look σr i = some j ∧ look s.row j = some q ∧ q.ov = []
  | [], _, i, ls, h => by cases h
  | (t, x) :: r, hI, i, ls, h => by
    simp only [look] at h
    split at h
    · rename_i ht
      injection h with h
      subst h; subst ht
      obtain ⟨j, h1, h2, h3⟩ := mO_elim hI.1
      exact ⟨j, h1, h3, h2⟩
    · exact inR_look hI.2 i ls h
def okIn {α : Type} (σ : Ids) (bx : List (Nat × α)) : Bool := σ.all fun p => (look bx p.1).isSome && (decide (1000 ≤ p.1) && decide (p.1 < 2000))
def okOut {α : Type} (n : Nat) (σ τ : Ids) (bx' : List (Nat × α)) : Bool := τ.all fun p => (look bx' p.1).isSome && (decide (p.2 < n) || σ.elem p)
def okV (σb σr : Ids) : V → Bool
  | .one l => okIds σb σr l
  | .agg ls => ls.all (okIds σb σr)

noncomputable def whIn (ω : Wh) (σb σr : Ids) : Wh where
  box := fun i => match look σb i with | some j => ω.box j | none => 0
  row := fun i => match look σr i with | some j => ω.row j | none => ⟨none, 0, 0⟩
  f := fun κ i k => match κ with
    | false => (match look σb i with | some j => ω.f false j k | none => False)
    | true => (match look σr i with | some j => ω.f true j k | none => False)
noncomputable def whOut (ω ω' : Wh) (τb τr : Ids) : Wh where
  box := fun j => match inv τb j with | some i => ω'.box i | none => ω.box j
  row := fun j => match inv τr j with | some i => ω'.row i | none => ω.row j
  f := fun κ j => match κ with
    | false => (match inv τb j with | some i => ω'.f false i | none => ω.f false j)
    | true => (match inv τr j with | some i => ω'.f true i | none => ω.f true j)

theorem xrep_back {σb σr : Ids} (hb : ∀ i j, look σb i = some j → ω'.box i = ω.box j) (hr : ∀ i j, look σr i = some j → ω'.row i = ω.row j) {G : Nat → Prop} {v : Value} {l : L} (hid : okIds σb σr l = true)
    (h : XRep m w ω G v (l.ids σb σr)) : XRep m w ω' G v l := by
  rcases XRep.cases h with ⟨sz, xs, he, h⟩ | ⟨_, h⟩ | ⟨t, q, he, h⟩
  · cases l <;> simp only [L.ids, L.ids0, reduceCtorEq] at he
    · cases he
      exact h
    all_goals (split at he <;> cases he)
  · exact (ids_back hb hr hid h).xrep
  · cases l <;> simp only [L.ids, L.ids0, reduceCtorEq] at he
    case byt =>
      cases he
      exact h
    all_goals (split at he <;> cases he)

theorem CI.handIn (h : CI P w0 m0 F0 s a w m ω) {σb σr : Ids} {bx : Boxes} {rw : Rows} (gb : goodIds σb = true) (gr : goodIds σr = true) (ob : okIn σb bx = true) (or : okIn σr rw = true)
    (ib : inB s σb σr bx) (ir : inR s σr rw) : CI P w m (handed bx rw (whIn ω σb σr)) (roots bx rw) a0 w m (whIn ω σb σr) := by
  have hbox : ∀ i j, look σb i = some j → (whIn ω σb σr).box i = ω.box j := fun i j hj => by simp only [whIn, hj]
  have hrow : ∀ i j, look σr i = some j → (whIn ω σb σr).row i = ω.row j := fun i j hj => by simp only [whIn, hj]
  have live : ∀ κ i, (roots bx rw).live κ i → ∃ j, s.live κ j ∧ (whIn ω σb σr).f κ i = ω.f κ j ∧ (match κ with | false => look σb i = some j | true => look σr i = some j) := by
    intro κ i hl
    cases κ with
    | false =>
      obtain ⟨ls, hls⟩ := Option.isSome_iff_exists.1 hl
      obtain ⟨j, h1, h2, _⟩ := inB_look ib i ls hls
      exact ⟨j, by show (look s.box j).isSome; rw [h2]; rfl, by funext k; simp only [whIn, h1], h1⟩
    | true =>
      obtain ⟨q, hq⟩ := Option.isSome_iff_exists.1 hl
      obtain ⟨j, h1, h2, _⟩ := inR_look ir i q hq
      exact ⟨j, by show (look s.row j).isSome; rw [h2]; rfl, by funext k; simp only [whIn, h1], h1⟩
  refine { size := rfl, defers := rfl, keeps := Keeps.refl _ _, mle := Mem.le_refl m, mold := fun _ _ _ => rfl, ok := h.ok, env := (fun t x hx => by cases hx), box := ?_, row := ?_, fresh := ?_, apart := ?_, home := ?_, good := ?_ }
  rotate_right
  · refine h.goodFor fun k hk => ?_
    obtain ⟨κ, i, hl, hk⟩ := hk
    obtain ⟨j, h1, h2, _⟩ := live κ i hl
    exact (h.fresh κ j h1 k (h2 ▸ hk)).2.1
  · intro i ls hi
    obtain ⟨j, h1, h2, h3⟩ := inB_look ib i ls hi
    obtain ⟨cs, e, k1, k2, k3, G, k4, k5, k6⟩ := h.box j _ h2
    have hf : (whIn ω σb σr).f false i = ω.f false j := by funext k; simp only [whIn, h1]
    refine ⟨cs, e, by rw [hbox i j h1]; exact k1, by simpa using k2, by rw [hbox i j h1, hf]; exact k3, G, fun j' k hk => by rw [hbox i j h1, hf]; exact k4 j' k hk, k5, fun q l hq => ?_⟩
    obtain ⟨v, k7, k8⟩ := k6 q (l.ids σb σr) (by simp [hq])
    exact ⟨v, k7, xrep_back hbox hrow (List.all_eq_true.1 h3 l (List.mem_of_getElem? hq)) k8⟩
  · intro i q hi
    obtain ⟨j, h1, h2, h3⟩ := inR_look ir i q hi
    have hf : (whIn ω σb σr).f true i = ω.f true j := by funext k; simp only [whIn, h1]
    have hR : RowRepG m w ω (ω.row j) (ω.f true j) q := h.row j q h2
    show RowRepG m w _ _ _ q
    rw [hrow i j h1, hf]
    obtain ⟨k1, k2, k3⟩ := hR
    refine ⟨k1, k2, ?_⟩
    split at k3
    · exact k3
    · obtain ⟨cs, e, g1, g2, g3, g4, g5, G, g6, g7, g8⟩ := k3
      refine ⟨cs, e, g1, g2, g3, g4, g5, G, g6, g7, fun i j u hu => ?_⟩
      obtain ⟨v, g9, g10⟩ := g8 i j u hu
      rw [h3] at g10 ⊢
      exact ⟨v, g9, g10⟩
  · intro κ i hl k hk
    obtain ⟨j, h1, h2, _⟩ := live κ i hl
    have hk' := hk
    rw [h2] at hk'
    obtain ⟨k1, k2, k3⟩ := h.fresh κ j h1 k hk'
    exact ⟨k1, .inr ⟨κ, i, hl, hk⟩, k3⟩
  · intro κ i κ' i' hl hl' k hk hk'
    obtain ⟨j, h1, h2, h3⟩ := live κ i hl
    obtain ⟨j', h1', h2', h3'⟩ := live κ' i' hl'
    rw [h2] at hk
    rw [h2'] at hk'
    obtain ⟨rfl, rfl⟩ := h.apart _ _ _ _ h1 h1' k hk hk'
    refine ⟨rfl, ?_⟩
    cases κ with
    | false =>
      have e1 := good_look gb h3
      have e2 := good_look gb h3'
      rw [e1] at e2
      injection e2
    | true =>
      have e1 := good_look gr h3
      have e2 := good_look gr h3'
      rw [e1] at e2
      injection e2
  · refine ⟨fun i hi => ⟨Nat.zero_le _, ?_⟩, fun i b hb hl => ?_, fun i b hb hl => ?_⟩
    · rcases hi with hi | hi
      · simp only [handed] at hi
        split at hi
        · rename_i hq
          obtain ⟨ls, hls⟩ := Option.isSome_iff_exists.1 hq
          obtain ⟨j, h1, _⟩ := inB_look ib i ls hls
          have := List.all_eq_true.1 ob _ (look_mem19 h1)
          simp only [Bool.and_eq_true, decide_eq_true_eq] at this
          exact this.2
        · cases hi
      · simp only [handed] at hi
        split at hi
        · rename_i hq
          obtain ⟨ls, hls⟩ := Option.isSome_iff_exists.1 hq
          obtain ⟨j, h1, _⟩ := inR_look ir i ls hls
          have := List.all_eq_true.1 or _ (look_mem19 h1)
          simp only [Bool.and_eq_true, decide_eq_true_eq] at this
          exact this.2
        · cases hi
    · simp only [handed] at hb
      split at hb
      · injection hb
      · cases hb
    · simp only [handed] at hb
      split at hb
      · injection hb
      · cases hb

theorem dead_keep {σ τ : Ids} {i j : Nat} (hm : (i, j) ∈ σ ++ τ) (hd : (deadOf σ τ).elem j = false) : (i, j) ∈ σ ∧ (i, j) ∈ τ := by
  have hd : j ∉ deadOf σ τ := by simpa using hd
  by_cases hq : (i, j) ∈ σ ∧ (i, j) ∈ τ
  · exact hq
  · exact absurd (List.mem_map.2 ⟨(i, j), List.mem_filter.2 ⟨hm, by simpa [Decidable.imp_iff_not_or] using hq⟩, rfl⟩) hd

theorem CI.handOut (h : CI P w0 m0 F0 s a w m ω) {σb σr τb τr : Ids} {bx bx' : Boxes} {rw rw' : Rows} (gb : goodIds σb = true) (gr : goodIds σr = true) (ob : okIn σb bx = true) (or : okIn σr rw = true)
    (ib : inB s σb σr bx) (ir : inR s σr rw) (tb : goodIds τb = true) (tr : goodIds τr = true) (pb : okOut s.n σb τb bx' = true) (pr : okOut s.n σr τr rw' = true)
    (hC : CI P w m (handed bx rw (whIn ω σb σr)) (roots bx' rw') a0 w' m' ω') :
    CI P w0 m0 F0 (s.io σb σr τb τr bx' rw') a w' m' (whOut ω ω' τb τr) ∧ ∀ v l, ERep m' ω' v l → ERep m' (whOut ω ω' τb τr) v (l.ids τb τr) := by
  have fwdB : ∀ i j, look τb i = some j → (whOut ω ω' τb τr).box j = ω'.box i := fun i j hj => by simp only [whOut, good_look tb hj]
  have fwdR : ∀ i j, look τr i = some j → (whOut ω ω' τb τr).row j = ω'.row i := fun i j hj => by simp only [whOut, good_look tr hj]
  -- whatever is named in the map over lives in the callee's state
  have liveB : ∀ i j, inv τb j = some i → (look bx' i).isSome ∧ (j < s.n ∨ (i, j) ∈ σb) := fun i j hj => by
    have := List.all_eq_true.1 pb _ (inv_mem hj)
    simpa using this
  have liveR : ∀ i j, inv τr j = some i → (look rw' i).isSome ∧ (j < s.n ∨ (i, j) ∈ σr) := fun i j hj => by
    have := List.all_eq_true.1 pr _ (inv_mem hj)
    simpa using this
  have inBx : ∀ i j, (i, j) ∈ σb → (look bx i).isSome ∧ (look s.box j).isSome := fun i j hm => by
    have := List.all_eq_true.1 ob _ hm
    simp only [Bool.and_eq_true] at this
    obtain ⟨ls, hls⟩ := Option.isSome_iff_exists.1 this.1
    obtain ⟨j', h1, h2, _⟩ := inB_look ib i ls hls
    rw [(good_mem gb hm).2] at h1
    injection h1 with h1
    subst h1
    exact ⟨this.1, by rw [h2]; rfl⟩
  have inRw : ∀ i j, (i, j) ∈ σr → (look rw i).isSome ∧ (look s.row j).isSome := fun i j hm => by
    have := List.all_eq_true.1 or _ hm
    simp only [Bool.and_eq_true] at this
    obtain ⟨ls, hls⟩ := Option.isSome_iff_exists.1 this.1
    obtain ⟨j', h1, h2, _⟩ := inR_look ir i ls hls
    rw [(good_mem gr hm).2] at h1
    injection h1 with h1
    subst h1
    exact ⟨this.1, by rw [h2]; rfl⟩
  -- what comes back lies where it lay
  have backB : ∀ i j, (i, j) ∈ σb → inv τb j = some i → ω'.box i = ω.box j := fun i j hm hj => by
    refine (hC.home.box i (ω.box j) ?_ (liveB i j hj).1)
    simp only [handed, (inBx i j hm).1, if_true, whIn, (good_mem gb hm).2]
  have backR : ∀ i j, (i, j) ∈ σr → inv τr j = some i → ω'.row i = ω.row j := fun i j hm hj => by
    refine (hC.home.row i (ω.row j) ?_ (liveR i j hj).1)
    simp only [handed, (inRw i j hm).1, if_true, whIn, (good_mem gr hm).2]
  have klB : ∀ j, (deadOf σb τb).elem j = false → (whOut ω ω' τb τr).box j = ω.box j := fun j hj => by
    simp only [whOut]
    split
    · rename_i i hi
      have hk := dead_keep (List.mem_append_right _ (inv_mem hi)) hj
      exact backB i j hk.1 hi
    · rfl
  have klR : ∀ j, (deadOf σr τr).elem j = false → (whOut ω ω' τb τr).row j = ω.row j := fun j hj => by
    simp only [whOut]
    split
    · rename_i i hi
      have hk := dead_keep (List.mem_append_right _ (inv_mem hi)) hj
      exact backR i j hk.1 hi
    · rfl
  have hE : ∀ v l, ERep m ω v l → ERep m' (whOut ω ω' τb τr) v (l.kl (deadOf σb τb) (deadOf σr τr)) := fun v l hl => (kl_e klB klR hl).mono hC.mle
  have hI : ∀ v l, ERep m' ω' v l → ERep m' (whOut ω ω' τb τr) v (l.ids τb τr) := fun v l hl => ids_fwd fwdB fwdR hl
  have R1 : Remap m m' ω (whOut ω ω' τb τr) (L.kl (deadOf σb τb) (deadOf σr τr)) := ⟨hC.mle, hE, fun _ _ => rfl, fun _ _ => rfl⟩
  have R2 : Remap m' m' ω' (whOut ω ω' τb τr) (L.ids τb τr) := ⟨Mem.le_refl _, hI, fun _ _ => rfl, fun _ _ => rfl⟩
  -- what was handed over was the caller's
  have own : ∀ k, handed bx rw (whIn ω σb σr) k → ∃ κ j, s.live κ j ∧ ω.f κ j k ∧ (match κ with | false => j ∈ σb.map (·.2) | true => j ∈ σr.map (·.2)) := by
    rintro k ⟨κ, i, hl, hk⟩
    cases κ with
    | false =>
      obtain ⟨ls, hls⟩ := Option.isSome_iff_exists.1 hl
      obtain ⟨j, h1, h2, _⟩ := inB_look ib i ls hls
      exact ⟨false, j, by show (look s.box j).isSome; rw [h2]; rfl, by simpa only [whIn, h1] using hk, List.mem_map.2 ⟨_, look_mem19 h1, rfl⟩⟩
    | true =>
      obtain ⟨ls, hls⟩ := Option.isSome_iff_exists.1 hl
      obtain ⟨j, h1, h2, _⟩ := inR_look ir i ls hls
      exact ⟨true, j, by show (look s.row j).isSome; rw [h2]; rfl, by simpa only [whIn, h1] using hk, List.mem_map.2 ⟨_, look_mem19 h1, rfl⟩⟩
  -- what stays
  have stays : ∀ κ j, (match κ with | false => (look (dropL (idsOf σb τb) s.box) j).isSome | true => (look (dropL (idsOf σr τr) s.row) j).isSome) → s.live κ j ∧ (∀ k, ω.f κ j k → ¬ handed bx rw (whIn ω σb σr) k) ∧ (match κ with | false => inv τb j = Option.none | true => inv τr j = Option.none) := by
    intro κ j hl
    have hinv : ∀ (τ : Ids), j ∉ τ.map (·.2) → inv τ j = Option.none := fun τ hτ => by
      cases hq : inv τ j with
      | none => rfl
      | some i => exact absurd (List.mem_map.2 ⟨_, inv_mem hq, rfl⟩) hτ
    have hap : s.live κ j → (match κ with | false => j ∉ σb.map (·.2) | true => j ∉ σr.map (·.2)) → ∀ k, ω.f κ j k → ¬ handed bx rw (whIn ω σb σr) k := by
      intro hs hn k hk ho
      obtain ⟨κ', j', h1, h2, h3⟩ := own k ho
      obtain ⟨rfl, rfl⟩ := h.apart _ _ _ _ hs h1 k hk h2
      cases κ with
      | false => exact hn h3
      | true => exact hn h3
    cases κ with
    | false =>
      have hl : (look (dropL (idsOf σb τb) s.box) j).isSome := hl
      rw [look_dropL] at hl
      cases hq : (idsOf σb τb).elem j with
      | true => rw [hq] at hl; cases hl
      | false =>
        rw [hq] at hl
        have hq : j ∉ idsOf σb τb := by simpa using hq
        simp only [idsOf, List.mem_append, not_or] at hq
        exact ⟨hl, hap hl hq.1, hinv _ hq.2⟩
    | true =>
      have hl : (look (dropL (idsOf σr τr) s.row) j).isSome := hl
      rw [look_dropL] at hl
      cases hq : (idsOf σr τr).elem j with
      | true => rw [hq] at hl; cases hl
      | false =>
        rw [hq] at hl
        have hq : j ∉ idsOf σr τr := by simpa using hq
        simp only [idsOf, List.mem_append, not_or] at hq
        exact ⟨hl, hap hl hq.1, hinv _ hq.2⟩
  have lookD : ∀ {α : Type} {ks : List Nat} {e : List (Nat × α)} {j : Nat} {x : α}, look (dropL ks e) j = some x → look e j = some x := fun {α ks e j x} hx => by
    rw [look_dropL] at hx
    split at hx
    · cases hx
    · exact hx
  -- a live number: it came back, or it stayed
  have hlive : ∀ κ j, (s.io σb σr τb τr bx' rw').live κ j → (∃ i, (roots bx' rw').live κ i ∧ (whOut ω ω' τb τr).f κ j = ω'.f κ i ∧ (match κ with | false => inv τb j = some i | true => inv τr j = some i)) ∨
      (s.live κ j ∧ (∀ k, ω.f κ j k → ¬ handed bx rw (whIn ω σb σr) k) ∧ (whOut ω ω' τb τr).f κ j = ω.f κ j) := by
    intro κ j hl
    cases κ with
    | false =>
      simp only [St.live, St.io, look_append] at hl
      cases hq : inv τb j with
      | some i => exact .inl ⟨i, (liveB i j hq).1, by simp only [whOut, hq], rfl⟩
      | none =>
        have : look (outB τb τr bx') j = Option.none := by unfold outB; rw [look_out (fun i => ((look bx' i).getD []).map (L.ids τb τr)), hq]; rfl
        rw [this] at hl
        simp only [look_map (List.map (L.kl (deadOf σb τb) (deadOf σr τr))), Option.isSome_map] at hl
        obtain ⟨h1, h2, h3⟩ := stays false j hl
        exact .inr ⟨h1, h2, by simp only [whOut, hq]⟩
    | true =>
      simp only [St.live, St.io, look_append] at hl
      cases hq : inv τr j with
      | some i => exact .inl ⟨i, (liveR i j hq).1, by simp only [whOut, hq], rfl⟩
      | none =>
        have : look (outR τb τr rw') j = Option.none := by unfold outR; rw [look_out (fun i => ((look rw' i).getD ⟨0, [], []⟩).map (L.ids τb τr)), hq]; rfl
        rw [this] at hl
        simp only [look_map (RowC.map (L.kl (deadOf σb τb) (deadOf σr τr))), Option.isSome_map] at hl
        obtain ⟨h1, h2, h3⟩ := stays true j hl
        exact .inr ⟨h1, h2, by simp only [whOut, hq]⟩
  have oldOk : ∀ k, handed bx rw (whIn ω σb σr) k → w0.heap.size ≤ k ∨ F0 k := fun k hk => by
    obtain ⟨κ, j, h1, h2, _⟩ := own k hk
    exact (h.fresh κ j h1 k h2).2.1
  refine ⟨{ size := h.size, defers := h.defers, keeps := ?_, mle := Mem.le_trans h.mle hC.mle, mold := ?_, ok := hC.ok, env := ?_, box := ?_, row := ?_, fresh := ?_, apart := ?_, home := ?_, good := h.good }, hI⟩
  · refine ⟨hC.keeps.os.trans h.keeps.os, hC.keeps.tape.trans h.keeps.tape, hC.keeps.output.trans h.keeps.output, Nat.le_trans h.keeps.size hC.keeps.size, fun k hk hF => ?_⟩
    refine (hC.keeps.block k (Nat.lt_of_lt_of_le hk h.keeps.size) fun ho => ?_).trans (h.keeps.block k hk hF)
    rcases oldOk k ho with hq | hq
    · omega
    · exact hF hq
  · intro x hx hF
    refine (hC.mold x (Nat.lt_of_lt_of_le hx h.keeps.size) fun ho => ?_).trans (h.mold x hx hF)
    rcases oldOk _ ho with hq | hq
    · omega
    · exact hF hq
  · intro t x hx
    obtain ⟨y, hy, rfl⟩ := map_look hx
    exact (h.env t y hy).map hE
  · intro j ls hj
    simp only [St.io, look_append] at hj
    cases hq : inv τb j with
    | some i =>
      have e : look (outB τb τr bx') j = some (((look bx' i).getD []).map (L.ids τb τr)) := by unfold outB; rw [look_out (fun i => ((look bx' i).getD []).map (L.ids τb τr)), hq]; rfl
      rw [e] at hj
      simp only [Option.some.injEq] at hj
      subst hj
      obtain ⟨ls, hls⟩ := Option.isSome_iff_exists.1 (liveB i j hq).1
      rw [hls]
      exact (hC.box i ls hls).remap R2 (by simp only [whOut, hq]) (by simp only [whOut, hq])
    | none =>
      have e : look (outB τb τr bx') j = Option.none := by unfold outB; rw [look_out (fun i => ((look bx' i).getD []).map (L.ids τb τr)), hq]; rfl
      rw [e] at hj
      obtain ⟨ls0, h1, rfl⟩ := map_look hj
      obtain ⟨h2, h3, h4⟩ := stays false j (by show (look (dropL (idsOf σb τb) s.box) j).isSome; rw [h1]; rfl)
      have hk := (h.box j ls0 (lookD h1)).keep (Mem.le_refl m) (w' := w') fun k hk => hC.keeps.block k (h.fresh false j h2 k hk).1 (h3 k hk)
      exact hk.remap R1 (by simp only [whOut, hq]) (by simp only [whOut, hq])
  · intro j r hj
    simp only [St.io, look_append] at hj
    cases hq : inv τr j with
    | some i =>
      have e : look (outR τb τr rw') j = some (((look rw' i).getD ⟨0, [], []⟩).map (L.ids τb τr)) := by unfold outR; rw [look_out (fun i => ((look rw' i).getD ⟨0, [], []⟩).map (L.ids τb τr)), hq]; rfl
      rw [e] at hj
      simp only [Option.some.injEq] at hj
      subst hj
      obtain ⟨ls, hls⟩ := Option.isSome_iff_exists.1 (liveR i j hq).1
      rw [hls]
      exact (hC.row i ls hls).remap R2 (by simp only [whOut, hq]) (by simp only [whOut, hq])
    | none =>
      have e : look (outR τb τr rw') j = Option.none := by unfold outR; rw [look_out (fun i => ((look rw' i).getD ⟨0, [], []⟩).map (L.ids τb τr)), hq]; rfl
      rw [e] at hj
      obtain ⟨r0, h1, rfl⟩ := map_look hj
      obtain ⟨h2, h3, h4⟩ := stays true j (by show (look (dropL (idsOf σr τr) s.row) j).isSome; rw [h1]; rfl)
      have hk := (h.row j r0 (lookD h1)).keep (Mem.le_refl m) (w' := w') fun k hk => hC.keeps.block k (h.fresh true j h2 k hk).1 (h3 k hk)
      exact hk.remap R1 (by simp only [whOut, hq]) (by simp only [whOut, hq])
  · intro κ j hl k hk
    rcases hlive κ j hl with ⟨i, h1, h2, _⟩ | ⟨h1, h2, h3⟩
    · rw [h2] at hk
      obtain ⟨k1, k2, k3⟩ := hC.fresh κ i h1 k hk
      refine ⟨k1, ?_, k3⟩
      rcases k2 with k2 | k2
      · exact .inl (Nat.le_trans h.keeps.size k2)
      · exact oldOk k k2
    · rw [h3] at hk
      obtain ⟨k1, k2, k3⟩ := h.fresh κ j h1 k hk
      refine ⟨Nat.lt_of_lt_of_le k1 hC.keeps.size, k2, fun x v hx he => ?_⟩
      subst he
      rw [hC.mold x k1 (h2 _ hk)] at hx
      exact k3 x v hx rfl
  · intro κ j κ' j' hl hl' k hk hk'
    have sep : ∀ κ i κ' j, (roots bx' rw').live κ i → ω'.f κ i k → s.live κ' j → ω.f κ' j k → ¬ handed bx rw (whIn ω σb σr) k → False := by
      intro κ i κ' j h1 h2 h3 h4 h5
      obtain ⟨_, k2, _⟩ := hC.fresh κ i h1 k h2
      have k1 := (h.fresh κ' j h3 k h4).1
      rcases k2 with k2 | k2
      · omega
      · exact h5 k2
    rcases hlive κ j hl with ⟨i, h1, h2, h3⟩ | ⟨h1, h2, h3⟩ <;> rcases hlive κ' j' hl' with ⟨i', h1', h2', h3'⟩ | ⟨h1', h2', h3'⟩
    · rw [h2] at hk
      rw [h2'] at hk'
      obtain ⟨rfl, rfl⟩ := hC.apart _ _ _ _ h1 h1' k hk hk'
      refine ⟨rfl, ?_⟩
      cases κ with
      | false =>
        have e1 := good_inv tb h3
        have e2 := good_inv tb h3'
        rw [e1] at e2
        injection e2
      | true =>
        have e1 := good_inv tr h3
        have e2 := good_inv tr h3'
        rw [e1] at e2
        injection e2
    · rw [h2] at hk
      rw [h3'] at hk'
      exact (sep _ _ _ _ h1 hk h1' hk' (h2' _ hk')).elim
    · rw [h3] at hk
      rw [h2'] at hk'
      exact (sep _ _ _ _ h1' hk' h1 hk (h2 _ hk)).elim
    · rw [h3] at hk
      rw [h3'] at hk'
      exact h.apart _ _ _ _ h1 h1' k hk hk'
  · refine ⟨h.home.big, fun j b hb hl => ?_, fun j b hb hl => ?_⟩
    · cases hq : inv τb j with
      | some i =>
        have e : (whOut ω ω' τb τr).box j = ω'.box i := by simp only [whOut, hq]
        rcases (liveB i j hq).2 with hlt | hm
        · have := (h.home.big j (.inl (by rw [hb]; rfl))).1
          omega
        · rw [e, backB i j hm hq]
          exact h.home.box j b hb (inBx i j hm).2
      | none =>
        have e : (whOut ω ω' τb τr).box j = ω.box j := by simp only [whOut, hq]
        rw [e]
        rcases hlive false j hl with ⟨i, _, _, h3⟩ | ⟨h1, _⟩
        · have h3 : inv τb j = some i := h3
          rw [hq] at h3; cases h3
        · exact h.home.box j b hb h1
    · cases hq : inv τr j with
      | some i =>
        have e : (whOut ω ω' τb τr).row j = ω'.row i := by simp only [whOut, hq]
        rcases (liveR i j hq).2 with hlt | hm
        · have := (h.home.big j (.inr (by rw [hb]; rfl))).1
          omega
        · rw [e, backR i j hm hq]
          exact h.home.row j b hb (inRw i j hm).2
      | none =>
        have e : (whOut ω ω' τb τr).row j = ω.row j := by simp only [whOut, hq]
        rw [e]
        rcases hlive true j hl with ⟨i, _, _, h3⟩ | ⟨h1, _⟩
        · have h3 : inv τr j = some i := h3
          rw [hq] at h3; cases h3
        · exact h.home.row j b hb h1

theorem vrep_back {σb σr : Ids} (hb : ∀ i j, look σb i = some j → ω'.box i = ω.box j) (hr : ∀ i j, look σr i = some j → ω'.row i = ω.row j) {v : Value} {x : V} (hid : okV σb σr x = true)
    (h : VRep m ω v (x.map (L.ids σb σr))) : VRep m ω' v x := by
  cases x with
  | one l => exact ids_back hb hr hid h
  | agg ls =>
    obtain ⟨cs, h1, h2, h3⟩ := h
    refine ⟨cs, h1, by simpa using h2, fun j l hl => ?_⟩
    obtain ⟨u, h4, h5⟩ := h3 j (l.ids σb σr) (by simp [hl])
    exact ⟨u, h4, ids_back hb hr (List.all_eq_true.1 hid l (List.mem_of_getElem? hl)) h5⟩

theorem CallMoves.io {f : FuncId} {xs ys : List V} {bx bx' : Boxes} {rw rw' : Rows} {r : A} {d : Option Tmp} (σb σr τb τr : Ids) (hS : SatM P f ys bx rw r bx' rw') (hd : s.okD d)
    (gb : goodIds σb = true) (gr : goodIds σr = true) (ob : okIn σb bx = true) (or : okIn σr rw = true) (ib : inB s σb σr bx) (ir : inR s σr rw)
    (tb : goodIds τb = true) (tr : goodIds τr = true) (pb : okOut s.n σb τb bx' = true) (pr : okOut s.n σr τr rw' = true)
    (hx : ys.map (V.map (L.ids σb σr)) = xs) (hy : ys.all (okV σb σr) = true) : CallMoves P f xs s d ((s.io σb σr τb τr bx' rw').putO d (r.map (L.ids τb τr))) := by
  intro w0 m0 F0 a w m ω h vs hA
  have hIn := h.handIn gb gr ob or ib ir
  have hA' : ArgsRep m (whIn ω σb σr) vs ys := by
    subst hx
    refine ⟨by simpa using hA.1, fun i x hi => ?_⟩
    obtain ⟨v, h1, h2⟩ := hA.2 i (x.map (L.ids σb σr)) (by simp [hi])
    exact ⟨v, h1, vrep_back (fun i j hj => by simp only [whIn, hj]) (fun i j hj => by simp only [whIn, hj]) (List.all_eq_true.1 hy x (List.mem_of_getElem? hi)) h2⟩
  refine (hS.call m w vs (whIn ω σb σr) hIn hA').mono fun v w' hp => ?_
  obtain ⟨m', ω', hC, hv⟩ := hp
  obtain ⟨h1, h2⟩ := h.handOut gb gr ob or ib ir tb tr pb pr hC
  exact ⟨m', _, h1.putO hd (hv.map h2)⟩
theorem CallG.io {f : FuncId} {xs ys : List V} {bx bx' : Boxes} {rw rw' : Rows} {r : A} {d : Option Tmp} {K : St → Prop} (σb σr τb τr : Ids) (hS : SatM P f ys bx rw r bx' rw')
    (gs : (goodIds σb && goodIds σr && goodIds τb && goodIds τr && okIn σb bx && okIn σr rw && okOut s.n σb τb bx' && okOut s.n σr τr rw' && ys.all (okV σb σr)) = true)
    (hx : ys.map (V.map (L.ids σb σr)) = xs) (hin : inB s σb σr bx ∧ inR s σr rw) (h : s.okD d ∧ K ((s.io σb σr τb τr bx' rw').putO d (r.map (L.ids τb τr)))) : CallG P f xs s d K := by
  simp only [Bool.and_eq_true] at gs
  obtain ⟨⟨⟨⟨⟨⟨⟨⟨g1, g2⟩, g3⟩, g4⟩, g5⟩, g6⟩, g7⟩, g8⟩, g9⟩ := gs
  exact ⟨_, .io σb σr τb τr hS h.1 g1 g2 g5 g6 hin.1 hin.2 g3 g4 g7 g8 hx g9, h.2⟩
end
end Go.Bw

namespace Go.Bw
def ioSt (s : St) (kb kr ib ir : List Nat) (bo : Boxes) (ro : Rows) : St :=
  { n := s.n, env := s.env.map fun p => (p.1, p.2.map (L.kl kb kr)), box := bo ++ (dropL ib s.box).map fun p => (p.1, p.2.map (L.kl kb kr)), row := ro ++ (dropL ir s.row).map fun p => (p.1, p.2.map (L.kl kb kr)) }
theorem ioSt_mk (n : Nat) (e : List (Nat × A)) (b : Boxes) (k : Rows) (kb kr ib ir : List Nat) (bo : Boxes) (ro : Rows) : ioSt ⟨n, e, b, k⟩ kb kr ib ir bo ro =
    ⟨n, e.map fun p => (p.1, p.2.map (L.kl kb kr)), bo ++ (dropL ib b).map fun p => (p.1, p.2.map (L.kl kb kr)), ro ++ (dropL ir k).map fun p => (p.1, p.2.map (L.kl kb kr))⟩ := rfl
theorem CallJ.io {P : Program} {T : TypeId → Option TI} {ops : Array Oper} {d : Option Tmp} {l : List Oper} {s : St} {K : St → Prop} {f : FuncId} {xs ys : List V} {bx bx' : Boxes} {rw rw' : Rows} {r : A} (σb σr τb τr : Ids) (kb kr ib ir : List Nat)
    (hS : SatM P f ys bx rw r bx' rw') (gs : (goodIds σb && goodIds σr && goodIds τb && goodIds τr && okIn σb bx && okIn σr rw && okOut s.n σb τb bx' && okOut s.n σr τr rw' && ys.all (okV σb σr)) = true)
    (hd : deadOf σb τb = kb ∧ deadOf σr τr = kr ∧ idsOf σb τb = ib ∧ idsOf σr τr = ir) (hx : ys.map (V.map (L.ids σb σr)) = xs) (hin : inB s σb σr bx ∧ inR s σr rw)
    (hk : s.okD d ∧ VOps P T ops l ((ioSt s kb kr ib ir (outB τb τr bx') (outR τb τr rw')).putO d (r.map (L.ids τb τr))) K) : CallJ P T ops d l s K (f, xs) := by
  obtain ⟨rfl, rfl, rfl, rfl⟩ := hd
  exact CallG.io σb σr τb τr hS gs hx hin hk
theorem inB_nil (s : St) (σb σr : Ids) : inB s σb σr [] = True := rfl
theorem inR_nil (s : St) (σr : Ids) : inR s σr [] = True := rfl
theorem inB_cons (s : St) (σb σr : Ids) (i : Nat) (ls : List L) (r : Boxes) : inB s σb σr ((i, ls) :: r) = (mO (look σb i) (fun j => look s.box j = some (ls.map (L.ids σb σr)) ∧ ls.all (okIds σb σr) = true) ∧ inB s σb σr r) := rfl
theorem inR_cons (s : St) (σr : Ids) (i : Nat) (q : RowC) (r : Rows) : inR s σr ((i, q) :: r) = (mO (look σr i) (fun j => q.ov = [] ∧ look s.row j = some q) ∧ inR s σr r) := rfl
theorem outB_nil (τr : Ids) (bx : Boxes) : outB [] τr bx = [] := rfl
theorem outR_nil (τb : Ids) (rw : Rows) : outR τb [] rw = [] := rfl
theorem run_overlaps_zero {P : Program} (w : World) (tS tR e : TypeId) (ht : P.underlying tS = some (.slice e)) (size : Nat) (hz : ∀ w, (Go.sizeOf e).run P w = .ok size w) (A B : Option Addr) (ca lb cb : Nat) :
    (Extern.SlicesOverlaps.overlaps #[tS, tS] #[tR] #[.slice A 0 ca, .slice B lb cb]).run P w = .ok (.bool false) w := by
  change Sem.run P (α := Value) (do
    let some t := (#[tS, tS] : Array TypeId)[0]? | stuck "slices.overlaps: no parameter types"
    let .slice elem ← underlying t | stuck "slices.overlaps: slice type expected"
    let size ← sizeOf elem
    match (A : Option Addr), (B : Option Addr) with
    | some a, some b =>
      if 0 = 0 ∨ lb = 0 ∨ size = 0 then pure (Value.bool false)
      else if a.block != b.block && (← frozen a) && (← frozen b) then unsupported .addressObserved
      else do
        if a.block != b.block then do
          noView a; noView b
          if ← mayBeOne a b then return Value.bool ((← choose (.extern "sameAddr.stringBytes" 2)) == 1)
        pure (Value.bool (a.block == b.block && a.off < b.off + lb * size && b.off < a.off + 0 * size))
    | _, _ => pure (Value.bool false)) w = _
  cases A <;> cases B <;> simp [run_underlying ht, hz]
theorem CallMoves.apart {P : Program} {f : FuncId} {fn : Func} {s : St} {d : Option Tmp} {t e : TypeId} {id lo n id' lo' n' : Nat} {r r' : RowC} {tR : TypeId} {sz : Nat} (hf : P.funcs[f]? = some fn) (hname : (fn.name == "runtime.NumGoroutine") = false)
    (hb : fn.body.isNone = true) (hn : Extern.findNext fn = none) (he : Extern.find fn = some (Extern.SlicesOverlaps.overlaps #[t, t] #[tR])) (ht : P.underlying t = some (.slice e)) (hz : ∀ w, (sizeOf e).run P w = .ok sz w)
    (hd : s.okD d) (hne : id ≠ id') (hr : look s.row id = some r) (hr' : look s.row id' = some r') (hcl : ovOut r'.ov r'.xs.length) (hfit : lo' + n' ≤ r'.xs.length) (h0 : 0 < n') (hs0 : 0 < r'.sz) :
    CallMoves P f [.one (.ref id lo n), .one (.ref id' lo' n')] s d (St.putO { s with row := sput id' ⟨r'.sz, r'.xs.take (lo' + n'), []⟩ s.row } d (.v (.one (.bool false)))) := by
  intro w0 m0 F0 a w m ω h vs hA
  obtain ⟨hl, hA⟩ := hA
  obtain ⟨v1, h1, r1⟩ := hA 0 _ rfl
  obtain ⟨v2, h2, r2⟩ := hA 1 _ rfl
  have ee : vs.toArray = #[v1, v2] := by
    match vs, hl, h1, h2 with
    | [x, y], _, h1, h2 => simp at h1 h2; rw [h1, h2]
  have r1 : RefAt (ω.row id) lo n v1 := r1
  have r2 : RefAt (ω.row id') lo' n' v2 := r2
  have hC := h.rowCut hr' (ovOut_get hcl) hfit
  have hrun : (Extern.SlicesOverlaps.overlaps #[t, t] #[tR] #[v1, v2]).run P w = .ok (.bool false) w := by
    rcases r2 with ⟨_, _, hn0, _⟩ | ⟨b', ad', k1', k2', hv2, k4'⟩
    · omega
    obtain ⟨q1', q2', q3'⟩ := h.row id' r' hr'
    rw [k1'] at q3'
    obtain ⟨cs', e', p1', p2', p3', p4', p5', _⟩ := q3'
    have had' := k4' (.inl (by omega))
    rcases r1 with ⟨_, _, hn0, hv1⟩ | ⟨b, ad, k1, k2, hv1, k4⟩
    · rw [hv1, hv2]
      exact run_overlaps_zero w t tR e ht sz hz _ _ _ _ _
    by_cases hlt : lo < (ω.row id).cap ∨ lo = 0
    · obtain ⟨q1, q2, q3⟩ := h.row id r hr
      rw [k1] at q3
      obtain ⟨cs, e0, p1, p2, p3, p4, p5, _⟩ := q3
      have had := k4 hlt
      subst had had'
      rw [hv1, hv2]
      have hbb : b ≠ b' := by
        intro hbb
        subst hbb
        have := (h.apart true id true id' (by show (look s.row id).isSome; rw [hr]; rfl) (by show (look s.row id').isSome; rw [hr']; rfl) b p5 p5').2
        exact hne this
      refine Lib.run_overlaps_apart w t tR e ht sz hz _ _ _ _ _ _ hbb e0 e' cs.size cs'.size ?_ ?_ ?_ ?_ ?_
      · simp [World.shape?, p1]
      · simp [World.shape?, p1']
      · rw [p2']
        have : 0 < (ω.row id').cap := by omega
        exact Nat.ne_of_gt (Nat.mul_pos this hs0)
      · simp [World.frozen?, p1]
      · simp [World.frozen?, p1]
    · have hn0 : n = 0 := by omega
      subst hn0
      rw [hv1, hv2]
      exact run_overlaps_zero w t tR e ht sz hz _ _ _ _ _
  refine .inl ⟨.bool false, w, ?_, m, ω, hC.putO hd (Rep.bool false)⟩
  rw [ee, run_callFunc_extern hf hname hb hn he, hrun]
  rfl
theorem CallMoves.froz {P : Program} {f : FuncId} {xs ys : List V} {r : A} {s : St} {d : Option Tmp} (kb kr : List Nat) (hd : s.okD d) (hS : Sat P f ys r) (hy : (xs.map fun x => x.map (topL kb kr (s.rest kb kr))) = ys) : CallMoves P f xs s d ((s.freeze kb kr).putO d (r.map L.clos)) := by
  intro w0 m0 F0 a w m ω h vs hA
  obtain ⟨m', h', hle, hg⟩ := h.freeze kb kr
  have hA' : ArgsRep m' ω vs ys := by
    subst hy
    refine ⟨by simpa using hA.1, fun i x hi => ?_⟩
    rw [List.getElem?_map, Option.map_eq_some_iff] at hi
    obtain ⟨x0, hi, rfl⟩ := hi
    obtain ⟨v, h1, h2⟩ := hA.2 i x0 hi
    exact ⟨v, h1, h2.map hg⟩
  have hd' : (s.freeze kb kr).okD d := by
    cases d with
    | none => trivial
    | some d => exact hd
  exact CallMoves.pure hd' hS w0 m0 F0 a w m' ω h' vs hA'
theorem CallJ.froz {P : Program} {T : TypeId → Option TI} {ops : Array Oper} {d : Option Tmp} {l : List Oper} {s : St} {K : St → Prop} {f : FuncId} {xs ys : List V} {r : A} (kb kr : List Nat) (h : Sat P f ys r) (hy : (xs.map fun x => x.map (topL kb kr (s.rest kb kr))) = ys)
    (hk : s.okD d ∧ VOps P T ops l ((s.freeze kb kr).putO d (r.map L.clos)) K) : CallJ P T ops d l s K (f, xs) := ⟨_, .froz kb kr hk.1 h hy, hk.2⟩
theorem CallJ.frozI {P : Program} {T : TypeId → Option TI} {ops : Array Oper} {d : Option Tmp} {l : List Oper} {s : St} {K : St → Prop} {f : FuncId} {xs ys : List V} {r : A} (kb kr : List Nat) (hy : (xs.map fun x => x.map (topL kb kr (s.rest kb kr))) = ys) (h : Sat P f ys r)
    (hk : s.okD d ∧ VOps P T ops l ((s.freeze kb kr).putO d (r.map L.clos)) K) : CallJ P T ops d l s K (f, xs) := .froz kb kr h hy hk
theorem AWP.drawT {P : Program} {T : TypeId → Option TI} {w0 : World} {m0 : Mem} {F0 : Home} {Q : Exit → St → Prop} {s : St} {id : Nat} {l l1 l2 : List Oper} (hT : TabOk P T) (hm : P.follows .mixedOrders = true) (na dep : Nat) (hchk : drawOk l.toArray na dep = true) (h1 : l.take na = l1) (h2 : l.drop na = l2)
    (h : ∀ K2 : St → Prop, (∀ s', (∀ K : St → Prop, (∀ s', Q .normal s' → K s') → VOps P T l.toArray l2 s' K) → K2 s') → VHead P T l.toArray l1 s K2) : AWP P w0 m0 F0 (.region id l.toArray true) Q s :=
  AWP.draw hT hm na dep rfl hchk h1 h2 fun K hK => h (fun s' => VOps P T l.toArray l2 s' K) fun _ ht => ht K hK
end Go.Bw

namespace Go.Bw
open Go.Proofs
def tyTab : List (Nat × TI) := [
  (2, { size := 1, bytes := 8, agg := false, elem := none, fields := none, isStr := false, zero := some [.int .i64 0] }),
  (3, { size := 1, bytes := 8, agg := false, elem := none, fields := none, isStr := false, zero := some [.int .i64 0] }),
  (4, { size := 1, bytes := 1, agg := false, elem := none, fields := none, isStr := false, zero := some [.bool false] }),
  (5, { size := 1, bytes := 1, agg := false, elem := none, fields := none, isStr := false, zero := some [.int .u8 0] }),
  (9, { size := 1, bytes := 16, agg := false, elem := none, fields := none, isStr := true, zero := some [.str ByteArray.empty] }),
  (12, { size := 1, bytes := 8, agg := false, elem := none, fields := none, isStr := false, zero := some [.int .u64 0] }),
  (13, { size := 2, bytes := 24, agg := true, elem := none, fields := some [(0, 9), (1, 12)], isStr := false, zero := some [.str ByteArray.empty, .int .u64 0] }),
  (21, { size := 1, bytes := 4, agg := false, elem := none, fields := none, isStr := false, zero := some [.int .i32 0] }),
  (22, { size := 1, bytes := 24, agg := false, elem := some 55, fields := none, isStr := false, zero := some [.nil 3] }),
  (23, { size := 1, bytes := 24, agg := false, elem := some 94, fields := none, isStr := false, zero := some [.nil 3] }),
  (24, { size := 1, bytes := 24, agg := false, elem := some 100, fields := none, isStr := false, zero := some [.nil 7] }),
  (25, { size := 3, bytes := 72, agg := true, elem := none, fields := some [(0, 22), (1, 23), (2, 24)], isStr := false, zero := some [.nil 3, .nil 3, .nil 7] }),
  (26, { size := 3, bytes := 72, agg := true, elem := none, fields := some [(0, 22), (1, 23), (2, 24)], isStr := false, zero := some [.nil 3, .nil 3, .nil 7] }),
  (27, { size := 1, bytes := 24, agg := false, elem := some 58, fields := none, isStr := false, zero := some [.nil 2] }),
  (28, { size := 1, bytes := 24, agg := false, elem := some 58, fields := none, isStr := false, zero := some [.nil 2] }),
  (29, { size := 1, bytes := 24, agg := false, elem := some 42, fields := none, isStr := false, zero := some [.nil 4] }),
  (31, { size := 1, bytes := 8, agg := false, elem := none, fields := none, isStr := false, zero := some [.int .i64 0] }),
  (36, { size := 1, bytes := 24, agg := false, elem := some 9, fields := none, isStr := false, zero := some [.nil 1] }),
  (39, { size := 1, bytes := 24, agg := false, elem := some 60, fields := none, isStr := false, zero := some [.nil 3] }),
  (40, { size := 1, bytes := 24, agg := false, elem := some 60, fields := none, isStr := false, zero := some [.nil 3] }),
  (41, { size := 4, bytes := 72, agg := true, elem := none, fields := some [(0, 3), (1, 9), (2, 40), (3, 40)], isStr := false, zero := some [.int .i64 0, .str ByteArray.empty, .nil 3, .nil 3] }),
  (42, { size := 4, bytes := 72, agg := true, elem := none, fields := some [(0, 3), (1, 9), (2, 40), (3, 40)], isStr := false, zero := some [.int .i64 0, .str ByteArray.empty, .nil 3, .nil 3] }),
  (43, { size := 1, bytes := 24, agg := false, elem := some 40, fields := none, isStr := false, zero := some [.nil 1] }),
  (52, { size := 1, bytes := 24, agg := false, elem := some 91, fields := none, isStr := false, zero := some [.nil 3] }),
  (53, { size := 1, bytes := 24, agg := false, elem := some 3, fields := none, isStr := false, zero := some [.nil 1] }),
  (54, { size := 3, bytes := 64, agg := true, elem := none, fields := some [(0, 9), (1, 52), (2, 53)], isStr := false, zero := some [.str ByteArray.empty, .nil 3, .nil 1] }),
  (55, { size := 3, bytes := 64, agg := true, elem := none, fields := some [(0, 9), (1, 52), (2, 53)], isStr := false, zero := some [.str ByteArray.empty, .nil 3, .nil 1] }),
  (57, { size := 2, bytes := 40, agg := true, elem := none, fields := some [(0, 9), (1, 43)], isStr := false, zero := some [.str ByteArray.empty, .nil 1] }),
  (58, { size := 2, bytes := 40, agg := true, elem := none, fields := some [(0, 9), (1, 43)], isStr := false, zero := some [.str ByteArray.empty, .nil 1] }),
  (59, { size := 3, bytes := 32, agg := true, elem := none, fields := some [(0, 3), (1, 3), (2, 9)], isStr := false, zero := some [.int .i64 0, .int .i64 0, .str ByteArray.empty] }),
  (60, { size := 3, bytes := 32, agg := true, elem := none, fields := some [(0, 3), (1, 3), (2, 9)], isStr := false, zero := some [.int .i64 0, .int .i64 0, .str ByteArray.empty] }),
  (71, { size := 1, bytes := 24, agg := false, elem := some 28, fields := none, isStr := false, zero := some [.nil 1] }),
  (77, { size := 1, bytes := 24, agg := false, elem := some 5, fields := none, isStr := false, zero := some [.nil 1] }),
  (78, { size := 2, bytes := 32, agg := true, elem := none, fields := some [(0, 76), (1, 77)], isStr := false, zero := some [.nilp, .nil 1] }),
  (79, { size := 2, bytes := 32, agg := true, elem := none, fields := some [(0, 76), (1, 77)], isStr := false, zero := some [.nilp, .nil 1] }),
  (90, { size := 3, bytes := 32, agg := true, elem := none, fields := some [(0, 9), (1, 3), (2, 4)], isStr := false, zero := some [.str ByteArray.empty, .int .i64 0, .bool false] }),
  (91, { size := 3, bytes := 32, agg := true, elem := none, fields := some [(0, 9), (1, 3), (2, 4)], isStr := false, zero := some [.str ByteArray.empty, .int .i64 0, .bool false] }),
  (93, { size := 3, bytes := 56, agg := true, elem := none, fields := some [(0, 9), (1, 53), (2, 9)], isStr := false, zero := some [.str ByteArray.empty, .nil 1, .str ByteArray.empty] }),
  (94, { size := 3, bytes := 56, agg := true, elem := none, fields := some [(0, 9), (1, 53), (2, 9)], isStr := false, zero := some [.str ByteArray.empty, .nil 1, .str ByteArray.empty] }),
  (99, { size := 7, bytes := 80, agg := true, elem := none, fields := some [(0, 9), (1, 3), (2, 9), (3, 3), (4, 60)], isStr := false, zero := some [.str ByteArray.empty, .int .i64 0, .str ByteArray.empty, .int .i64 0, .int .i64 0, .int .i64 0, .str ByteArray.empty] }),
  (100, { size := 7, bytes := 80, agg := true, elem := none, fields := some [(0, 9), (1, 3), (2, 9), (3, 3), (4, 60)], isStr := false, zero := some [.str ByteArray.empty, .int .i64 0, .str ByteArray.empty, .int .i64 0, .int .i64 0, .int .i64 0, .str ByteArray.empty] }),
  (115, { size := 1, bytes := 8, agg := false, elem := none, fields := none, isStr := false, zero := some [.int .u64 0] }),
  (136, { size := 1, bytes := 8, agg := false, elem := none, fields := none, isStr := false, zero := some [.int .i64 0] }),
  (144, { size := 1, bytes := 4, agg := false, elem := none, fields := none, isStr := false, zero := some [.int .u32 0] }),
  (146, { size := 1, bytes := 8, agg := false, elem := none, fields := none, isStr := false, zero := some [.int .u64 0] }),
  (155, { size := 1, bytes := 8, agg := false, elem := none, fields := none, isStr := false, zero := some [.int .u64 0] })]
def TT (t : TypeId) : Option TI := look tyTab t
theorem look_mem {α : Type} {x : α} : ∀ (e : List (Nat × α)) (i : Nat), look e i = some x → (i, x) ∈ e
  | [], _, h => by cases h
  | (t, y) :: e, i, h => by
    simp only [look] at h
    split at h
    · injection h with h; subst h; subst t; simp
    · exact List.mem_cons_of_mem _ (look_mem e i h)
theorem tyAll : (tyTab.all fun p => tiOk Tryz.prog p.1 p.2) = true := by kernel_rfl
theorem tyOk : TabOk Tryz.prog TT := fun t i h => List.all_eq_true.1 tyAll (t, i) (look_mem tyTab t h)
theorem TT_2 : TT 2 = some { size := 1, bytes := 8, agg := false, elem := none, fields := none, isStr := false, zero := some [.int .i64 0] } := rfl
theorem TT_3 : TT 3 = some { size := 1, bytes := 8, agg := false, elem := none, fields := none, isStr := false, zero := some [.int .i64 0] } := rfl
theorem TT_4 : TT 4 = some { size := 1, bytes := 1, agg := false, elem := none, fields := none, isStr := false, zero := some [.bool false] } := rfl
theorem TT_5 : TT 5 = some { size := 1, bytes := 1, agg := false, elem := none, fields := none, isStr := false, zero := some [.int .u8 0] } := rfl
theorem TT_9 : TT 9 = some { size := 1, bytes := 16, agg := false, elem := none, fields := none, isStr := true, zero := some [.str ByteArray.empty] } := rfl
theorem TT_12 : TT 12 = some { size := 1, bytes := 8, agg := false, elem := none, fields := none, isStr := false, zero := some [.int .u64 0] } := rfl
theorem TT_13 : TT 13 = some { size := 2, bytes := 24, agg := true, elem := none, fields := some [(0, 9), (1, 12)], isStr := false, zero := some [.str ByteArray.empty, .int .u64 0] } := rfl
theorem TT_21 : TT 21 = some { size := 1, bytes := 4, agg := false, elem := none, fields := none, isStr := false, zero := some [.int .i32 0] } := rfl
theorem TT_22 : TT 22 = some { size := 1, bytes := 24, agg := false, elem := some 55, fields := none, isStr := false, zero := some [.nil 3] } := rfl
theorem TT_23 : TT 23 = some { size := 1, bytes := 24, agg := false, elem := some 94, fields := none, isStr := false, zero := some [.nil 3] } := rfl
theorem TT_24 : TT 24 = some { size := 1, bytes := 24, agg := false, elem := some 100, fields := none, isStr := false, zero := some [.nil 7] } := rfl
theorem TT_25 : TT 25 = some { size := 3, bytes := 72, agg := true, elem := none, fields := some [(0, 22), (1, 23), (2, 24)], isStr := false, zero := some [.nil 3, .nil 3, .nil 7] } := rfl
theorem TT_26 : TT 26 = some { size := 3, bytes := 72, agg := true, elem := none, fields := some [(0, 22), (1, 23), (2, 24)], isStr := false, zero := some [.nil 3, .nil 3, .nil 7] } := rfl
theorem TT_27 : TT 27 = some { size := 1, bytes := 24, agg := false, elem := some 58, fields := none, isStr := false, zero := some [.nil 2] } := rfl
theorem TT_28 : TT 28 = some { size := 1, bytes := 24, agg := false, elem := some 58, fields := none, isStr := false, zero := some [.nil 2] } := rfl
theorem TT_29 : TT 29 = some { size := 1, bytes := 24, agg := false, elem := some 42, fields := none, isStr := false, zero := some [.nil 4] } := rfl
theorem TT_31 : TT 31 = some { size := 1, bytes := 8, agg := false, elem := none, fields := none, isStr := false, zero := some [.int .i64 0] } := rfl
theorem TT_36 : TT 36 = some { size := 1, bytes := 24, agg := false, elem := some 9, fields := none, isStr := false, zero := some [.nil 1] } := rfl
theorem TT_39 : TT 39 = some { size := 1, bytes := 24, agg := false, elem := some 60, fields := none, isStr := false, zero := some [.nil 3] } := rfl
theorem TT_40 : TT 40 = some { size := 1, bytes := 24, agg := false, elem := some 60, fields := none, isStr := false, zero := some [.nil 3] } := rfl
theorem TT_41 : TT 41 = some { size := 4, bytes := 72, agg := true, elem := none, fields := some [(0, 3), (1, 9), (2, 40), (3, 40)], isStr := false, zero := some [.int .i64 0, .str ByteArray.empty, .nil 3, .nil 3] } := rfl
theorem TT_42 : TT 42 = some { size := 4, bytes := 72, agg := true, elem := none, fields := some [(0, 3), (1, 9), (2, 40), (3, 40)], isStr := false, zero := some [.int .i64 0, .str ByteArray.empty, .nil 3, .nil 3] } := rfl
theorem TT_43 : TT 43 = some { size := 1, bytes := 24, agg := false, elem := some 40, fields := none, isStr := false, zero := some [.nil 1] } := rfl
theorem TT_52 : TT 52 = some { size := 1, bytes := 24, agg := false, elem := some 91, fields := none, isStr := false, zero := some [.nil 3] } := rfl
theorem TT_53 : TT 53 = some { size := 1, bytes := 24, agg := false, elem := some 3, fields := none, isStr := false, zero := some [.nil 1] } := rfl
theorem TT_54 : TT 54 = some { size := 3, bytes := 64, agg := true, elem := none, fields := some [(0, 9), (1, 52), (2, 53)], isStr := false, zero := some [.str ByteArray.empty, .nil 3, .nil 1] } := rfl
theorem TT_55 : TT 55 = some { size := 3, bytes := 64, agg := true, elem := none, fields := some [(0, 9), (1, 52), (2, 53)], isStr := false, zero := some [.str ByteArray.empty, .nil 3, .nil 1] } := rfl
theorem TT_57 : TT 57 = some { size := 2, bytes := 40, agg := true, elem := none, fields := some [(0, 9), (1, 43)], isStr := false, zero := some [.str ByteArray.empty, .nil 1] } := rfl
theorem TT_58 : TT 58 = some { size := 2, bytes := 40, agg := true, elem := none, fields := some [(0, 9), (1, 43)], isStr := false, zero := some [.str ByteArray.empty, .nil 1] } := rfl
theorem TT_59 : TT 59 = some { size := 3, bytes := 32, agg := true, elem := none, fields := some [(0, 3), (1, 3), (2, 9)], isStr := false, zero := some [.int .i64 0, .int .i64 0, .str ByteArray.empty] } := rfl
theorem TT_60 : TT 60 = some { size := 3, bytes := 32, agg := true, elem := none, fields := some [(0, 3), (1, 3), (2, 9)], isStr := false, zero := some [.int .i64 0, .int .i64 0, .str ByteArray.empty] } := rfl
theorem TT_71 : TT 71 = some { size := 1, bytes := 24, agg := false, elem := some 28, fields := none, isStr := false, zero := some [.nil 1] } := rfl
theorem TT_77 : TT 77 = some { size := 1, bytes := 24, agg := false, elem := some 5, fields := none, isStr := false, zero := some [.nil 1] } := rfl
theorem TT_78 : TT 78 = some { size := 2, bytes := 32, agg := true, elem := none, fields := some [(0, 76), (1, 77)], isStr := false, zero := some [.nilp, .nil 1] } := rfl
theorem TT_79 : TT 79 = some { size := 2, bytes := 32, agg := true, elem := none, fields := some [(0, 76), (1, 77)], isStr := false, zero := some [.nilp, .nil 1] } := rfl
theorem TT_90 : TT 90 = some { size := 3, bytes := 32, agg := true, elem := none, fields := some [(0, 9), (1, 3), (2, 4)], isStr := false, zero := some [.str ByteArray.empty, .int .i64 0, .bool false] } := rfl
theorem TT_91 : TT 91 = some { size := 3, bytes := 32, agg := true, elem := none, fields := some [(0, 9), (1, 3), (2, 4)], isStr := false, zero := some [.str ByteArray.empty, .int .i64 0, .bool false] } := rfl
theorem TT_93 : TT 93 = some { size := 3, bytes := 56, agg := true, elem := none, fields := some [(0, 9), (1, 53), (2, 9)], isStr := false, zero := some [.str ByteArray.empty, .nil 1, .str ByteArray.empty] } := rfl
theorem TT_94 : TT 94 = some { size := 3, bytes := 56, agg := true, elem := none, fields := some [(0, 9), (1, 53), (2, 9)], isStr := false, zero := some [.str ByteArray.empty, .nil 1, .str ByteArray.empty] } := rfl
theorem TT_99 : TT 99 = some { size := 7, bytes := 80, agg := true, elem := none, fields := some [(0, 9), (1, 3), (2, 9), (3, 3), (4, 60)], isStr := false, zero := some [.str ByteArray.empty, .int .i64 0, .str ByteArray.empty, .int .i64 0, .int .i64 0, .int .i64 0, .str ByteArray.empty] } := rfl
theorem TT_100 : TT 100 = some { size := 7, bytes := 80, agg := true, elem := none, fields := some [(0, 9), (1, 3), (2, 9), (3, 3), (4, 60)], isStr := false, zero := some [.str ByteArray.empty, .int .i64 0, .str ByteArray.empty, .int .i64 0, .int .i64 0, .int .i64 0, .str ByteArray.empty] } := rfl
theorem TT_115 : TT 115 = some { size := 1, bytes := 8, agg := false, elem := none, fields := none, isStr := false, zero := some [.int .u64 0] } := rfl
theorem TT_136 : TT 136 = some { size := 1, bytes := 8, agg := false, elem := none, fields := none, isStr := false, zero := some [.int .i64 0] } := rfl
theorem TT_144 : TT 144 = some { size := 1, bytes := 4, agg := false, elem := none, fields := none, isStr := false, zero := some [.int .u32 0] } := rfl
theorem TT_146 : TT 146 = some { size := 1, bytes := 8, agg := false, elem := none, fields := none, isStr := false, zero := some [.int .u64 0] } := rfl
theorem TT_155 : TT 155 = some { size := 1, bytes := 8, agg := false, elem := none, fields := none, isStr := false, zero := some [.int .u64 0] } := rfl
theorem eqK_60 : eqK Tryz.prog 60 = some [0, 0, 2] := by kernel_rfl
theorem eqK_91 : eqK Tryz.prog 91 = some [2, 0, 1] := by kernel_rfl
theorem eqK_100 : eqK Tryz.prog 100 = some [2, 0, 2, 0, 0, 0, 2] := by kernel_rfl
theorem convK_2 : convK Tryz.prog 2 = some .i64 := by kernel_rfl
theorem convK_3 : convK Tryz.prog 3 = some .i64 := by kernel_rfl
theorem convK_5 : convK Tryz.prog 5 = some .u8 := by kernel_rfl
theorem convK_12 : convK Tryz.prog 12 = some .u64 := by kernel_rfl
theorem convK_21 : convK Tryz.prog 21 = some .i32 := by kernel_rfl
theorem convK_31 : convK Tryz.prog 31 = some .i64 := by kernel_rfl
theorem convK_115 : convK Tryz.prog 115 = some .u64 := by kernel_rfl
theorem convK_136 : convK Tryz.prog 136 = some .i64 := by kernel_rfl
theorem convK_144 : convK Tryz.prog 144 = some .u32 := by kernel_rfl
theorem convK_146 : convK Tryz.prog 146 = some .u64 := by kernel_rfl
theorem convK_155 : convK Tryz.prog 155 = some .u64 := by kernel_rfl
theorem boolTy_4 : boolTy Tryz.prog 4 = true := by kernel_rfl
theorem mixed : Tryz.prog.follows .mixedOrders = true := by kernel_rfl

structure Val where
  kind : Int
  int : Int
  text : ByteArray
  deriving DecidableEq, Inhabited
abbrev Row := List Val
structure Col where
  name : ByteArray
  kind : Int
  nullable : Bool
  deriving DecidableEq, Inhabited
structure Tbl where
  name : ByteArray
  cols : List Col
  pk : List Int
  deriving DecidableEq, Inhabited
structure FK where
  table : ByteArray
  cols : List Int
  ref : ByteArray
  deriving DecidableEq, Inhabited
structure Con where
  table : ByteArray
  left : Int
  op : ByteArray
  right : Int
  value : Val
  deriving DecidableEq, Inhabited
structure Sch where
  tables : List Tbl
  fks : List FK
  cons : List Con
  deriving DecidableEq, Inhabited
structure Rel where
  table : ByteArray
  rows : List Row
  deriving DecidableEq, Inhabited
abbrev Inst := List Rel
structure Chg where
  kind : Int
  table : ByteArray
  key : Row
  row : Row
  deriving DecidableEq, Inhabited

def eVal (v : Val) : List L := [.int .i64 v.kind, .int .i64 v.int, .str v.text]
def eRow (r : Row) : L := .sl 3 (r.map eVal)
def eRow1 (r : Row) : List L := [eRow r]
def eRows (rs : List Row) : L := .sl 1 (rs.map eRow1)
def eInt1 (n : Int) : List L := [.int .i64 n]
def eInts (l : List Int) : L := .sl 1 (l.map eInt1)
def eCol (c : Col) : List L := [.str c.name, .int .i64 c.kind, .bool c.nullable]
def eCols (l : List Col) : L := .sl 3 (l.map eCol)
def eTbl (t : Tbl) : List L := [.str t.name, eCols t.cols, eInts t.pk]
def eTbls (l : List Tbl) : L := .sl 3 (l.map eTbl)
def eFK (f : FK) : List L := [.str f.table, eInts f.cols, .str f.ref]
def eFKs (l : List FK) : L := .sl 3 (l.map eFK)
def eCon (c : Con) : List L := [.str c.table, .int .i64 c.left, .str c.op, .int .i64 c.right, .int .i64 c.value.kind, .int .i64 c.value.int, .str c.value.text]
def eCons (l : List Con) : L := .sl 7 (l.map eCon)
def eSch (s : Sch) : List L := [eTbls s.tables, eFKs s.fks, eCons s.cons]
def eRel (r : Rel) : List L := [.str r.table, eRows r.rows]
def eInst (i : Inst) : L := .sl 2 (i.map eRel)
def eChg (c : Chg) : List L := [.int .i64 c.kind, .str c.table, eRow c.key, eRow c.row]
def eChgs (l : List Chg) : L := .sl 4 (l.map eChg)

theorem frz_map {α : Type} {e : α → List L} (h : ∀ x, (e x).map (L.frzN 4) = e x) (l : List α) : (l.map e).map (fun x => x.map (L.frzN 4)) = l.map e := by
  rw [List.map_map]
  exact List.map_congr_left fun x _ => h x
theorem frz_eVal (l : List Val) : (l.map eVal).map (fun x => x.map (L.frzN 4)) = l.map eVal := frz_map (fun _ => rfl) l
theorem frz_eRow1 (l : List Row) : (l.map eRow1).map (fun x => x.map (L.frzN 4)) = l.map eRow1 := frz_map (fun _ => rfl) l
theorem frz_eInt1 (l : List Int) : (l.map eInt1).map (fun x => x.map (L.frzN 4)) = l.map eInt1 := frz_map (fun _ => rfl) l
theorem frz_eCol (l : List Col) : (l.map eCol).map (fun x => x.map (L.frzN 4)) = l.map eCol := frz_map (fun _ => rfl) l
theorem frz_eTbl (l : List Tbl) : (l.map eTbl).map (fun x => x.map (L.frzN 4)) = l.map eTbl := frz_map (fun _ => rfl) l
theorem frz_eFK (l : List FK) : (l.map eFK).map (fun x => x.map (L.frzN 4)) = l.map eFK := frz_map (fun _ => rfl) l
theorem frz_eCon (l : List Con) : (l.map eCon).map (fun x => x.map (L.frzN 4)) = l.map eCon := frz_map (fun _ => rfl) l
theorem frz_eRel (l : List Rel) : (l.map eRel).map (fun x => x.map (L.frzN 4)) = l.map eRel := frz_map (fun _ => rfl) l
theorem frz_eChg (l : List Chg) : (l.map eChg).map (fun x => x.map (L.frzN 4)) = l.map eChg := frz_map (fun _ => rfl) l

theorem noOwn_eVal (l : List Val) : noOwn (l.map eVal) = True := noOwn_map (fun _ => rfl) l
theorem noOwn_eRow1 (l : List Row) : noOwn (l.map eRow1) = True := noOwn_map (fun _ => rfl) l
theorem noOwn_eInt1 (l : List Int) : noOwn (l.map eInt1) = True := noOwn_map (fun _ => rfl) l
theorem noOwn_eCol (l : List Col) : noOwn (l.map eCol) = True := noOwn_map (fun _ => rfl) l
theorem noOwn_eTbl (l : List Tbl) : noOwn (l.map eTbl) = True := noOwn_map (fun _ => rfl) l
theorem noOwn_eFK (l : List FK) : noOwn (l.map eFK) = True := noOwn_map (fun _ => rfl) l
theorem noOwn_eCon (l : List Con) : noOwn (l.map eCon) = True := noOwn_map (fun _ => rfl) l
theorem noOwn_eRel (l : List Rel) : noOwn (l.map eRel) = True := noOwn_map (fun _ => rfl) l
theorem noOwn_eChg (l : List Chg) : noOwn (l.map eChg) = True := noOwn_map (fun _ => rfl) l

abbrev oI (n : Int) : V := .one (.int .i64 n)
abbrev oB (b : Bool) : V := .one (.bool b)
abbrev oS (s : ByteArray) : V := .one (.str s)

theorem EN : (∀ (v : Val), eVal v = [.int .i64 v.kind, .int .i64 v.int, .str v.text]) ∧ (∀ (r : Row), eRow r = .sl 3 (r.map eVal)) ∧ (∀ (r : Row), eRow1 r = [eRow r]) ∧ (∀ (rs : List Row), eRows rs = .sl 1 (rs.map eRow1)) ∧ (∀ (n : Int), eInt1 n = [.int .i64 n]) ∧ (∀ (l : List Int), eInts l = .sl 1 (l.map eInt1)) ∧ (∀ (c : Col), eCol c = [.str c.name, .int .i64 c.kind, .bool c.nullable]) ∧ (∀ (l : List Col), eCols l = .sl 3 (l.map eCol)) ∧ (∀ (t : Tbl), eTbl t = [.str t.name, eCols t.cols, eInts t.pk]) ∧ (∀ (l : List Tbl), eTbls l = .sl 3 (l.map eTbl)) ∧ (∀ (f : FK), eFK f = [.str f.table, eInts f.cols, .str f.ref]) ∧ (∀ (l : List FK), eFKs l = .sl 3 (l.map eFK)) ∧ (∀ (c : Con), eCon c = [.str c.table, .int .i64 c.left, .str c.op, .int .i64 c.right, .int .i64 c.value.kind, .int .i64 c.value.int, .str c.value.text]) ∧ (∀ (l : List Con), eCons l = .sl 7 (l.map eCon)) ∧ (∀ (s : Sch), eSch s = [eTbls s.tables, eFKs s.fks, eCons s.cons]) ∧ (∀ (r : Rel), eRel r = [.str r.table, eRows r.rows]) ∧ (∀ (i : Inst), eInst i = .sl 2 (i.map eRel)) ∧ (∀ (c : Chg), eChg c = [.int .i64 c.kind, .str c.table, eRow c.key, eRow c.row]) ∧ (∀ (l : List Chg), eChgs l = .sl 4 (l.map eChg)) :=
  ⟨fun _ => rfl, fun _ => rfl, fun _ => rfl, fun _ => rfl, fun _ => rfl, fun _ => rfl, fun _ => rfl, fun _ => rfl, fun _ => rfl, fun _ => rfl, fun _ => rfl, fun _ => rfl, fun _ => rfl, fun _ => rfl, fun _ => rfl, fun _ => rfl, fun _ => rfl, fun _ => rfl, fun _ => rfl⟩
end Go.Bw

namespace Go.Bw
open Go.Proofs
attribute [local go_sem ↓] VOps_nil VOps_cons VOp_callJ VVal_callH VOps_guard GOn_tt GOn_ff GOn_tf GOn_ft GOn_not GOn_none HOn_none HOn_tt HOn_ff HOn_tf HOn_ft HOn_not VHead_nil VHead_cons VHead_guard VVal_move VVal_assign VVal_pickE pickK_true pickK_false VVal_not VVal_neg negK_int VVal_load loadK_fz loadK_ptr loadK_eptr VVal_fieldAddr VVal_field VVal_indexAddr idxK_sl idxK_ref VVal_index indexK_str VVal_extract VVal_binOp binK_one binK_agg VVal_build VVal_buildSlice VVal_makeFunc VVal_slice sliceK_str sliceK_sl sliceK_nil sliceK_ref VVal_slice3 VVal_nilCheck VVal_convert convKk_int convKk_str VVal_len VVal_max VVal_min VOp_assign assignK_int assignK_bool assignK_str assignK_clo assignK_sl assignK_nil assignK_ref assignK_agg assignK_fz assignK_ptr assignK_eptr assignK_any VOp_box VOp_alloc VOp_store storeK_ptr storeK_eptr VOp_buildSlice VOp_append appK_rr appK_rs appK_rn appK_ri appK_nr appK_ns appK_nn appK_ni appStd_eq VOp_copy copyK_ref VOp_clear clearK_ref VOp_cap VOp_eqNil VOp_move VOp_pick VOp_not VOp_neg VOp_load VOp_fieldAddr VOp_field VOp_indexAddr VOp_index VOp_extract VOp_binTmp VOp_binInt VOp_binStr VOp_binPtr VOp_build VOp_makeFunc VOp_slice VOp_nilCheck VOp_convert VOp_len VOp_max VOp_min mO_some mT_some pk_some pk_none look_cons del_cons
attribute [local go_sem] guardB gOf int_bne beq_true beq_false Bool.not_not gSlot pickK_true pickK_false negK_int loadK_fz loadK_ptr loadK_eptr idxK_sl idxK_ref indexK_str binK_one binK_agg sliceK_str sliceK_sl sliceK_nil sliceK_ref convKk_int convKk_str maxL minL assignK_int assignK_bool assignK_str assignK_clo assignK_sl assignK_nil assignK_ref assignK_agg assignK_fz assignK_ptr assignK_eptr assignK_any nilRow_eq takeRow_eq appended_eq storeK_ptr storeK_eptr store_mk appIn_eq appMk_eq marked_eq ovOut_nil ovOut_cons ovIn_nil ovIn_cons padRow_eq ysC capK_nil capK_ref ioSt_mk outB_nil outR_nil outB outR inB_nil inB_cons inR_nil inR_cons L.kl L.kl0 L.ids L.ids0 Option.getD_some evalO constA mO_some mT_some put_mk putO_some putO_none okD_some okD_none pk_some pk_none look_nil del_nil sput noBox_mk noRow_mk newBox_eq newRow0_eq St.killRow RowC.kill rowMap_mk rowOf ovAll ovAdd ovDel ovGet ovShift dstOf ysOf overlay_nil overlay_nil' overlay A.map V.map L.noPtr L.noPtr0 L.noRow L.noRow0 L.peek L.norm L.flat clos_int clos_bool clos_str clos_sl clos_nil clos_any clos_fz L.clos L.isFz L.kd moveL fieldOff eqCells eqCell eqOp oneOf boolOf intOfA tupOf vOf aggOf isPtrLike isSlice lenKind lenL nL elemTI loadV asV binL intBin intDivL shrL boolBin strBin strAdd ptrNil boundN partCells fillL placesOf setL chunks repL capsOf capL callOf argsOf frzV_int frzV_bool frzV_str frzV_sl frzV_nil frzV_fz frzV_any frzV_own frzV_clo frzV_ref frzV_eptr frzV_ptr frzRow_nil frzRow_ov frzRs_nil frzRs_cons frzCs_nil frzCs_cons frzO_some frzO_none frzN_int frzN_bool frzN_str frzN_sl frzN_nil frzN_any frzN_own List.map_cons List.map_nil List.cons_append List.nil_append List.append_nil List.length_cons List.length_nil List.length_map List.length_append List.headD_cons List.tail_cons List.getElem?_cons_zero List.getElem?_cons_succ List.drop_zero List.drop_succ_cons List.drop_nil List.take_succ_cons List.take_zero List.take_nil List.take_length List.filter_cons List.filter_nil List.elem_cons List.elem_nil List.all_cons List.all_nil Option.bind_some Option.map_some Option.some.injEq bne_self_eq_false beq_self_eq_true if_true if_false Bool.false_eq_true true_and and_true and_self Nat.zero_add Nat.add_zero Nat.zero_le Int.toNat_natCast Int.toNat_zero Option.isSome_some List.getElem?_toArray decide_true decide_false ge_iff_le gt_iff_lt Bool.not_true Bool.not_false Nat.le_refl Bool.and_true Bool.true_and Bool.and_false Bool.false_and eVal eRow eRow1 eRows eInt1 eInts eCol eCols eTbl eTbls eFK eFKs eCon eCons eSch eRel eInst eChg eChgs szOf getD_map_lt wrap_nat wrap_in List.take_of_length_le frz_eVal frz_eRow1 frz_eInt1 frz_eCol frz_eTbl frz_eFK frz_eCon frz_eRel frz_eChg noOwn_nil noOwn_cons noOwn_append L.isOwn noOwn_eVal noOwn_eRow1 noOwn_eInt1 noOwn_eCol noOwn_eTbl noOwn_eFK noOwn_eCon noOwn_eRel noOwn_eChg convK_2 convK_3 convK_5 convK_12 convK_21 convK_31 convK_115 convK_136 convK_144 convK_146 convK_155 TT_2 TT_3 TT_4 TT_5 TT_9 TT_12 TT_13 TT_21 TT_22 TT_23 TT_24 TT_25 TT_26 TT_27 TT_28 TT_29 TT_31 TT_36 TT_39 TT_40 TT_41 TT_42 TT_43 TT_52 TT_53 TT_54 TT_55 TT_57 TT_58 TT_59 TT_60 TT_71 TT_77 TT_78 TT_79 TT_90 TT_91 TT_93 TT_94 TT_99 TT_100 TT_115 TT_136 TT_144 TT_146 TT_155 boolTy_4 eqK_60 eqK_91 eqK_100
attribute [local congr] VOps.congr VHead.congr VOp.congr VVal.congr pk.congr assignK.congr appK.congr appStd.congr copyK.congr clearK.congr storeK.congr loadK.congr idxK.congr sliceK.congr indexK.congr binK.congr convKk.congr
def cmpInts (a b : Int) : Int := if a < b then -1 else if a > b then 1 else 0

theorem compareInts_sat (a b : Int) : Sat Tryz.prog 70 [oI a, oI b] (.v (oI (cmpInts a b))) := by
  refine sat_of_body tyOk Tryz.func70 rfl (by kernel_rfl) ⟨Nat.le_of_ble_eq_true rfl, Nat.le_of_ble_eq_true rfl⟩ fun w0 m0 F0 => ?_
  simp only [Tryz.ntmps70, envOf, Nat.reduceAdd]
  repeat' (first | ((first | with_reducible refine qV tyOk fun K hK => ?_ | (with_reducible first | refine qG ?_ | refine qH ?_ | refine qP ?_ | refine qGx ?_ | refine qHx ?_ | refine qPx ?_) | ((with_reducible first | refine qS ?_ ?_ | refine qT ?_ ?_ | refine qU ?_ ?_) <;> (intro h; try simp only [NM] at h)) | with_reducible refine yD tyOk mixed 6 (by kernel_rfl) fun K hK => ?_) <;> simp -dsimp (disch := (first | omega | (simp only [LN]; omega))) only [go_sem, ↓reduceIte, seval]) | ((with_reducible refine hK _ ?_); clear hK K) | (with_reducible first | refine qA ?_ | refine qB ?_ | refine qC ?_ | refine qD ?_ | refine qE ?_ | refine qF ?_ | refine qL ?_ | refine qM ?_ | refine qN ?_ | refine qO ?_ | refine qQ ?_) | refine qR rfl ?_ | (with_reducible refine AI ?_) | ((with_reducible refine qW (T := TT) (b := ?_) ?_ ?_); rotate_left; exact rfl) | (with_reducible first | refine qX ?_ | refine qY ?_ | refine qZ ?_) | (with_reducible first | refine qI ?_ | refine qIx ?_ | fail) | ((with_reducible refine yS ?_ ?_) <;> (intro h; try simp only [NM] at h)))
  all_goals simp -dsimp (disch := (first | omega | (simp only [LN]; omega))) only [retQ, Tryz.results70, resVals, cellRV, resOf, St.rest, St.freeze, RT, go_sem, ↓reduceIte, seval]
  all_goals simp [cmpInts, *]
  all_goals omega

def zV : Val := ⟨0, 0, ByteArray.empty⟩
def keyCell (r : Row) (c : Int) : Val := if 0 ≤ c ∧ c < r.length then r.getD c.toNat zV else zV
def keyOf (pk : List Int) (r : Row) : Row := pk.map (keyCell r)

theorem take_snoc {α : Type} (l : List α) (k : Nat) (h : k < l.length) : l.take (k + 1) = l.take k ++ [l[k]] := by
  rw [List.take_succ_eq_append_getElem h]
theorem getD_lt {α : Type} {l : List α} {i : Nat} (d : α) (h : i < l.length) : l.getD i d = l[i] := by simp [List.getD, h]
theorem keyOf_length (pk : List Int) (r : Row) : (keyOf pk r).length = pk.length := by simp [keyOf]
set_option maxHeartbeats 4000000 in
theorem key_own (t : Tbl) (r : Row) (hpk : t.pk.length ≤ 1099511627776) : SatM Tryz.prog 26 [.agg (eTbl t), .one (eRow r)] [] [] (.v (.one (.ref 4 0 t.pk.length))) [] [(4, ⟨3, (keyOf t.pk r).map eVal, []⟩)] := by
  refine satM_of_body tyOk [] [4] Tryz.func26 rfl (by kernel_rfl) ⟨Nat.le_of_ble_eq_true rfl, Nat.le_of_ble_eq_true rfl⟩ fun w0 m0 F0 => ?_
  simp only [Tryz.ntmps26, envOf, Nat.reduceAdd]
  repeat' (first | ((first | with_reducible refine qV tyOk fun K hK => ?_ | (with_reducible first | refine qG ?_ | refine qH ?_ | refine qP ?_ | refine qGx ?_ | refine qHx ?_ | refine qPx ?_) | ((with_reducible first | refine qS ?_ ?_ | refine qT ?_ ?_ | refine qU ?_ ?_) <;> (intro h; try simp only [NM] at h)) | with_reducible refine yD tyOk mixed 6 (by kernel_rfl) fun K hK => ?_) <;> simp -dsimp (disch := (first | omega | (simp only [LN]; omega))) only [go_sem, ↓reduceIte, seval]) | ((with_reducible refine hK _ ?_); clear hK K) | (with_reducible first | refine qA ?_ | refine qB ?_ | refine qC ?_ | refine qD ?_ | refine qE ?_ | refine qF ?_ | refine qL ?_ | refine qM ?_ | refine qN ?_ | refine qO ?_ | refine qQ ?_) | refine qR rfl ?_ | (with_reducible refine AI ?_) | ((with_reducible refine qW (T := TT) (b := ?_) ?_ ?_); rotate_left; exact rfl) | (with_reducible first | refine qX ?_ | refine qY ?_ | refine qZ ?_) | (with_reducible first | refine qI ?_ | refine qIx ?_ | fail) | ((with_reducible refine yS ?_ ?_) <;> (intro h; try simp only [NM] at h)))
  refine AWP.loop (ι := {k : Nat // k ≤ t.pk.length}) (fun k => ⟨35, [(1, .v (.one (eRow r))), (5, .v (.one (.ref 5 0 k.1))), (10, .v (.one (eInts t.pk))), (11, .v (oI t.pk.length)), (12, .v (oI k.1))], [], [(5, ⟨3, (keyOf (t.pk.take k.1) r).map eVal, []⟩)]⟩) (fun k => t.pk.length - k.1) ⟨0, Nat.zero_le _⟩ ?_ fun ⟨k, hkl⟩ => ?_
  · refine St.le_mk ?_ ?_ ?_ <;> simp only [LE, EN, Nat.reduceEqDiff, reduceIte, Nat.reduceSub, keyOf]
  have hlen : (keyOf (t.pk.take k) r).length = k := by rw [keyOf_length]; simp; omega
  repeat' (first | ((first | with_reducible refine qV tyOk fun K hK => ?_ | (with_reducible first | refine qG ?_ | refine qH ?_ | refine qP ?_ | refine qGx ?_ | refine qHx ?_ | refine qPx ?_) | ((with_reducible first | refine qS ?_ ?_ | refine qT ?_ ?_ | refine qU ?_ ?_) <;> (intro h; try simp only [NM] at h)) | with_reducible refine yD tyOk mixed 6 (by kernel_rfl) fun K hK => ?_) <;> simp -dsimp (disch := (first | omega | (simp only [LN]; omega))) only [go_sem, ↓reduceIte, seval, hlen]) | ((with_reducible refine hK _ ?_); clear hK K) | (with_reducible first | refine qA ?_ | refine qB ?_ | refine qC ?_ | refine qD ?_ | refine qE ?_ | refine qF ?_ | refine qL ?_ | refine qM ?_ | refine qN ?_ | refine qO ?_ | refine qQ ?_) | refine qR rfl ?_ | (with_reducible refine AI ?_) | ((with_reducible refine qW (T := TT) (b := ?_) ?_ ?_); rotate_left; exact rfl) | (with_reducible first | refine qX ?_ | refine qY ?_ | refine qZ ?_) | (with_reducible first | refine qI ?_ | refine qIx ?_ | fail) | ((with_reducible refine yS ?_ ?_) <;> (intro h; try simp only [NM] at h)))
  all_goals first
    | (refine ⟨⟨k + 1, by omega⟩, by simp only; omega, ?_⟩
       have hk : k < t.pk.length := by omega
       have e : keyOf (t.pk.take (k + 1)) r = keyOf (t.pk.take k) r ++ [keyCell r t.pk[k]] := by
         unfold keyOf
         rw [take_snoc _ _ hk, List.map_append]
         rfl
       first
         | (have h2 : t.pk[k].toNat < r.length := by omega
            have e2 : keyCell r t.pk[k] = r[t.pk[k].toNat]'h2 := by
              rw [keyCell, if_pos ⟨by omega, by omega⟩]
              exact getD_lt _ h2
            refine St.le_mk ?_ ?_ ?_ <;> simp only [LE, EN, Nat.reduceEqDiff, reduceIte, Nat.reduceSub, e, e2]
            )
         | (have e2 : keyCell r t.pk[k] = zV := by rw [keyCell, if_neg (by omega)]
            refine St.le_mk ?_ ?_ ?_ <;> simp only [LE, EN, Nat.reduceEqDiff, reduceIte, Nat.reduceSub, e, e2, zV]
            )
         )
    | (have hk : k = t.pk.length := by omega
       simp -dsimp (disch := (first | omega | (simp only [LN]; omega))) only [retQ, Tryz.results26, resVals, cellRV, resOf, St.rest, St.freeze, RT, go_sem, ↓reduceIte, seval]
       subst hk
       rfl)
theorem key_sat (t : Tbl) (r : Row) (hpk : t.pk.length ≤ 1099511627776) : Sat Tryz.prog 26 [.agg (eTbl t), .one (eRow r)] (.v (.one (eRow (keyOf t.pk r)))) :=
  (key_own t r hpk).frz (by
    have hl := keyOf_length t.pk r
    simp -dsimp (disch := (first | omega | (simp only [LN]; omega))) only [go_sem, ↓reduceIte, seval, topL_ref, St.rest, roots, dropL_nil, eRow, keyOf_length]
    )

section
open Go.RowKit

def cmpS (a b : ByteArray) : Int := Lib.compareBytes a.data.toList b.data.toList



theorem cmpstring_sat (a b : ByteArray) : Sat Tryz.prog 112 [oS a, oS b] (.v (oI (cmpS a b))) := by
  refine ⟨fun m w vs ω hC hA => ?_⟩
  obtain ⟨hl, hA⟩ := hA
  obtain ⟨v1, h1, r1⟩ := hA 0 _ rfl
  obtain ⟨v2, h2, r2⟩ := hA 1 _ rfl
  have e : vs.toArray = #[v1, v2] := by
    match vs, hl, h1, h2 with
    | [x, y], _, h1, h2 => simp at h1 h2; rw [h1, h2]
  have r1 : Rep m v1 (.str a) := r1
  have r2 : Rep m v2 (.str b) := r2
  cases r1 with
  | str _ => cases r2 with
    | str _ =>
      refine .inl ⟨.int .i64 (cmpS a b), w, ?_, ?_⟩
      · rw [e, run_callFunc_extern Tryz.func112 (by kernel_rfl) (by kernel_rfl) (by kernel_rfl) (e := Extern.BytealgCompare.compare) (by kernel_rfl), Lib.run_compareString]
        rfl
      · exact ⟨m, ω, hC, Rep.int _ _⟩

theorem CompareString_sat (a b : ByteArray) : Sat Tryz.prog 104 [oS a, oS b] (.v (oI (cmpS a b))) := by
  refine sat_of_body tyOk Tryz.func104 rfl (by kernel_rfl) ⟨Nat.le_of_ble_eq_true rfl, Nat.le_of_ble_eq_true rfl⟩ fun w0 m0 F0 => ?_
  simp only [Tryz.ntmps104, envOf, Nat.reduceAdd]
  repeat' (first | ((first | with_reducible refine qV tyOk fun K hK => ?_ | (with_reducible first | refine qG ?_ | refine qH ?_ | refine qP ?_ | refine qGx ?_ | refine qHx ?_ | refine qPx ?_) | ((with_reducible first | refine qS ?_ ?_ | refine qT ?_ ?_ | refine qU ?_ ?_) <;> (intro h; try simp only [NM] at h)) | with_reducible refine yD tyOk mixed 6 (by kernel_rfl) fun K hK => ?_ | ((with_reducible refine CallJ.is ?_); (first | refine CallJ.pure (cmpstring_sat _ _) ?_ | ((apply CallJ.lentI); (focus (simp -dsimp (disch := (first | omega | (simp only [LN]; omega))) only [go_sem, ↓reduceIte, seval]; rfl)); (focus (first | exact (cmpstring_sat _ _)))))) | ((with_reducible refine CallH.is ?_); (first | refine CallH.intro (cmpstring_sat _ _) ?_))) <;> simp -dsimp (disch := (first | omega | (simp only [LN]; omega))) only [go_sem, ↓reduceIte, seval]) | ((with_reducible refine hK _ ?_); clear hK K) | (with_reducible first | refine qA ?_ | refine qB ?_ | refine qC ?_ | refine qD ?_ | refine qE ?_ | refine qF ?_ | refine qL ?_ | refine qM ?_ | refine qN ?_ | refine qO ?_ | refine qQ ?_) | refine qR rfl ?_ | (with_reducible refine AI ?_) | ((with_reducible refine qW (T := TT) (b := ?_) ?_ ?_); rotate_left; exact rfl) | (with_reducible first | refine qX ?_ | refine qY ?_ | refine qZ ?_) | (with_reducible first | refine qI ?_ | refine qIx ?_ | fail) | ((with_reducible refine yS ?_ ?_) <;> (intro h; try simp only [NM] at h)))
  simp -dsimp (disch := (first | omega | (simp only [LN]; omega))) only [retQ, Tryz.results104, resVals, cellRV, resOf, St.rest, St.freeze, RT, go_sem, ↓reduceIte, seval]

theorem stringsCompare_sat (a b : ByteArray) : Sat Tryz.prog 90 [oS a, oS b] (.v (oI (cmpS a b))) := by
  refine sat_of_body tyOk Tryz.func90 rfl (by kernel_rfl) ⟨Nat.le_of_ble_eq_true rfl, Nat.le_of_ble_eq_true rfl⟩ fun w0 m0 F0 => ?_
  simp only [Tryz.ntmps90, envOf, Nat.reduceAdd]
  repeat' (first | ((first | with_reducible refine qV tyOk fun K hK => ?_ | (with_reducible first | refine qG ?_ | refine qH ?_ | refine qP ?_ | refine qGx ?_ | refine qHx ?_ | refine qPx ?_) | ((with_reducible first | refine qS ?_ ?_ | refine qT ?_ ?_ | refine qU ?_ ?_) <;> (intro h; try simp only [NM] at h)) | with_reducible refine yD tyOk mixed 6 (by kernel_rfl) fun K hK => ?_ | ((with_reducible refine CallJ.is ?_); (first | refine CallJ.pure (CompareString_sat _ _) ?_ | ((apply CallJ.lentI); (focus (simp -dsimp (disch := (first | omega | (simp only [LN]; omega))) only [go_sem, ↓reduceIte, seval]; rfl)); (focus (first | exact (CompareString_sat _ _)))))) | ((with_reducible refine CallH.is ?_); (first | refine CallH.intro (CompareString_sat _ _) ?_))) <;> simp -dsimp (disch := (first | omega | (simp only [LN]; omega))) only [go_sem, ↓reduceIte, seval]) | ((with_reducible refine hK _ ?_); clear hK K) | (with_reducible first | refine qA ?_ | refine qB ?_ | refine qC ?_ | refine qD ?_ | refine qE ?_ | refine qF ?_ | refine qL ?_ | refine qM ?_ | refine qN ?_ | refine qO ?_ | refine qQ ?_) | refine qR rfl ?_ | (with_reducible refine AI ?_) | ((with_reducible refine qW (T := TT) (b := ?_) ?_ ?_); rotate_left; exact rfl) | (with_reducible first | refine qX ?_ | refine qY ?_ | refine qZ ?_) | (with_reducible first | refine qI ?_ | refine qIx ?_ | fail) | ((with_reducible refine yS ?_ ?_) <;> (intro h; try simp only [NM] at h)))
  simp -dsimp (disch := (first | omega | (simp only [LN]; omega))) only [retQ, Tryz.results90, resVals, cellRV, resOf, St.rest, St.freeze, RT, go_sem, ↓reduceIte, seval]
end

def cmpV (a b : Val) : Int := if cmpInts a.kind b.kind ≠ 0 then cmpInts a.kind b.kind else if cmpInts a.int b.int ≠ 0 then cmpInts a.int b.int else cmpS a.text b.text
def opEq : ByteArray := ⟨#[61]⟩
def opLt : ByteArray := ⟨#[60]⟩
def opLe : ByteArray := ⟨#[60, 61]⟩
def sEq (a b : ByteArray) : Bool := a.toList == b.toList
def opOk (op : ByteArray) : Bool := sEq op opEq || sEq op opLt || sEq op opLe
def satV (a : Val) (op : ByteArray) (b : Val) : Bool :=
  if !opOk op then false else if a.kind == 0 || b.kind == 0 then true else
  cmpV a b == 0 && !sEq op opLt || decide (cmpV a b < 0) && !sEq op opEq
def satE (op : ByteArray) : Int := if opOk op then 0 else 3
def valE (v : Val) : Int :=
  if v.kind = 0 then if v.int ≠ 0 ∨ sEq v.text ByteArray.empty = false then 3 else 0
  else if v.kind = 1 ∨ v.kind = 2 then
    if sEq v.text ByteArray.empty = false then 3 else if (v.kind = 2 ∧ v.int ≠ 0 ∧ v.int ≠ 1) ∨ v.int < -1000000000000 ∨ v.int > 1000000000000 then 1 else 0
  else if v.kind = 3 then if v.int ≠ 0 then 3 else if v.text.size > 24 then 2 else 0
  else 7

set_option maxHeartbeats 4000000 in
set_option maxRecDepth 4000 in
theorem compare_sat (a b : Val) : Sat Tryz.prog 69 [.agg (eVal a), .agg (eVal b)] (.v (oI (cmpV a b))) := by
  refine sat_of_body tyOk Tryz.func69 rfl (by kernel_rfl) ⟨Nat.le_of_ble_eq_true rfl, Nat.le_of_ble_eq_true rfl⟩ fun w0 m0 F0 => ?_
  simp only [Tryz.ntmps69, envOf, Nat.reduceAdd]
  repeat' (first | ((first | with_reducible refine qV tyOk fun K hK => ?_ | (with_reducible first | refine qG ?_ | refine qH ?_ | refine qP ?_ | refine qGx ?_ | refine qHx ?_ | refine qPx ?_) | ((with_reducible first | refine qS ?_ ?_ | refine qT ?_ ?_ | refine qU ?_ ?_) <;> (intro h; try simp only [NM] at h)) | with_reducible refine yD tyOk mixed 6 (by kernel_rfl) fun K hK => ?_ | ((with_reducible refine CallJ.is ?_); (first | refine CallJ.pure (compareInts_sat _ _) ?_ | refine CallJ.pure (stringsCompare_sat _ _) ?_ | ((apply CallJ.lentI); (focus (simp -dsimp (disch := (first | omega | (simp only [LN]; omega))) only [go_sem, ↓reduceIte, seval]; rfl)); (focus (first | exact (compareInts_sat _ _) | exact (stringsCompare_sat _ _)))))) | ((with_reducible refine CallH.is ?_); (first | refine CallH.intro (compareInts_sat _ _) ?_ | refine CallH.intro (stringsCompare_sat _ _) ?_))) <;> simp -dsimp (disch := (first | omega | (simp only [LN]; omega))) only [go_sem, ↓reduceIte, seval]) | ((with_reducible refine hK _ ?_); clear hK K) | (with_reducible first | refine qA ?_ | refine qB ?_ | refine qC ?_ | refine qD ?_ | refine qE ?_ | refine qF ?_ | refine qL ?_ | refine qM ?_ | refine qN ?_ | refine qO ?_ | refine qQ ?_) | refine qR rfl ?_ | (with_reducible refine AI ?_) | ((with_reducible refine qW (T := TT) (b := ?_) ?_ ?_); rotate_left; exact rfl) | (with_reducible first | refine qX ?_ | refine qY ?_ | refine qZ ?_) | (with_reducible first | refine qI ?_ | refine qIx ?_ | fail) | ((with_reducible refine yS ?_ ?_) <;> (intro h; try simp only [NM] at h)))
  all_goals simp -dsimp (disch := (first | omega | (simp only [LN]; omega))) only [retQ, Tryz.results69, resVals, cellRV, resOf, St.rest, St.freeze, RT, go_sem, ↓reduceIte, seval]
  all_goals simp_all [cmpV]

def idx {α : Type} (p : α → Bool) : List α → Nat → Int
  | [], _ => -1
  | x :: l, k => if p x then k else idx p l (k + 1)
theorem idx_step {α : Type} {p : α → Bool} {l : List α} {k : Nat} (hk : k < l.length) (h : p l[k] = false) : idx p (l.drop (k + 1)) (k + 1) = idx p (l.drop k) k := by
  rw [List.drop_eq_getElem_cons hk, idx, h]
  simp
theorem idx_hit {α : Type} {p : α → Bool} {l : List α} {k : Nat} (hk : k < l.length) (h : p l[k] = true) : idx p (l.drop k) k = k := by
  rw [List.drop_eq_getElem_cons hk, idx, h]
  simp
theorem idx_end {α : Type} {p : α → Bool} {l : List α} {k : Nat} (hk : ¬ k < l.length) : idx p (l.drop k) k = -1 := by
  rw [List.drop_of_length_le (by omega), idx]

set_option maxHeartbeats 4000000 in
theorem indexFuncTbl_sat (l : List Tbl) (f : Nat) (cs : List L) (p : Tbl → Bool) (hlen : l.length ≤ 140737488355328) (hp : ∀ t ∈ l, Sat Tryz.prog f (.agg (eTbl t) :: cs.map .one) (.v (oB (p t)))) :
    Sat Tryz.prog 45 [.one (eTbls l), .one (.clo f cs)] (.v (oI (idx p l 0))) := by
  refine sat_of_body tyOk Tryz.func45 rfl (by kernel_rfl) ⟨Nat.le_of_ble_eq_true rfl, Nat.le_of_ble_eq_true rfl⟩ fun w0 m0 F0 => ?_
  simp only [Tryz.ntmps45, envOf, Nat.reduceAdd]
  repeat' (first | ((first | with_reducible refine qV tyOk fun K hK => ?_ | (with_reducible first | refine qG ?_ | refine qH ?_ | refine qP ?_ | refine qGx ?_ | refine qHx ?_ | refine qPx ?_) | ((with_reducible first | refine qS ?_ ?_ | refine qT ?_ ?_ | refine qU ?_ ?_) <;> (intro h; try simp only [NM] at h)) | with_reducible refine yD tyOk mixed 6 (by kernel_rfl) fun K hK => ?_) <;> simp -dsimp (disch := (first | omega | (simp only [LN]; omega))) only [go_sem, ↓reduceIte, seval]) | ((with_reducible refine hK _ ?_); clear hK K) | (with_reducible first | refine qA ?_ | refine qB ?_ | refine qC ?_ | refine qD ?_ | refine qE ?_ | refine qF ?_ | refine qL ?_ | refine qM ?_ | refine qN ?_ | refine qO ?_ | refine qQ ?_) | refine qR rfl ?_ | (with_reducible refine AI ?_) | ((with_reducible refine qW (T := TT) (b := ?_) ?_ ?_); rotate_left; exact rfl) | (with_reducible first | refine qX ?_ | refine qY ?_ | refine qZ ?_) | (with_reducible first | refine qI ?_ | refine qIx ?_ | fail) | ((with_reducible refine yS ?_ ?_) <;> (intro h; try simp only [NM] at h)))
  refine AWP.loop (ι := {k : Nat // k ≤ l.length ∧ idx p (l.drop k) k = idx p l 0}) (fun k => ⟨19, [(0, .v (.one (eTbls l))), (1, .v (.one (.clo f cs))), (7, .v (oI l.length)), (8, .v (oI k.1))], [], []⟩) (fun k => l.length - k.1) ⟨0, Nat.zero_le _, rfl⟩ ?_ fun ⟨k, hkl, hi⟩ => ?_
  · refine St.le_mk ?_ ?_ ?_ <;> simp only [LE, EN, Nat.reduceEqDiff, reduceIte, Nat.reduceSub]
  repeat' (first | ((first | with_reducible refine qV tyOk fun K hK => ?_ | (with_reducible first | refine qG ?_ | refine qH ?_ | refine qP ?_ | refine qGx ?_ | refine qHx ?_ | refine qPx ?_) | ((with_reducible first | refine qS ?_ ?_ | refine qT ?_ ?_ | refine qU ?_ ?_) <;> (intro h; try simp only [NM] at h)) | with_reducible refine yD tyOk mixed 6 (by kernel_rfl) fun K hK => ?_ | ((with_reducible refine CallJ.is ?_); (first | refine CallJ.pure (hp _ (List.getElem_mem (by omega))) ?_ | ((apply CallJ.lentI); (focus (simp -dsimp (disch := (first | omega | (simp only [LN]; omega))) only [go_sem, ↓reduceIte, seval]; rfl)); (focus (first | exact (hp _ (List.getElem_mem (by omega)))))))) | ((with_reducible refine CallH.is ?_); (first | refine CallH.intro (hp _ (List.getElem_mem (by omega))) ?_))) <;> simp -dsimp (disch := (first | omega | (simp only [LN]; omega))) only [go_sem, ↓reduceIte, seval]) | ((with_reducible refine hK _ ?_); clear hK K) | (with_reducible first | refine qA ?_ | refine qB ?_ | refine qC ?_ | refine qD ?_ | refine qE ?_ | refine qF ?_ | refine qL ?_ | refine qM ?_ | refine qN ?_ | refine qO ?_ | refine qQ ?_) | refine qR rfl ?_ | (with_reducible refine AI ?_) | ((with_reducible refine qW (T := TT) (b := ?_) ?_ ?_); rotate_left; exact rfl) | (with_reducible first | refine qX ?_ | refine qY ?_ | refine qZ ?_) | (with_reducible first | refine qI ?_ | refine qIx ?_ | fail) | ((with_reducible refine yS ?_ ?_) <;> (intro h; try simp only [NM] at h)))
  all_goals first 
    | (have hk : ¬ k < l.length := by omega
       simp -dsimp (disch := (first | omega | (simp only [LN]; omega))) only [retQ, Tryz.results45, resVals, cellRV, resOf, St.rest, St.freeze, RT, go_sem, ↓reduceIte, seval]
       rw [← hi, idx_end hk]
       done)
    | (
       simp -dsimp (disch := (first | omega | (simp only [LN]; omega))) only [retQ, Tryz.results45, resVals, cellRV, resOf, St.rest, St.freeze, RT, go_sem, ↓reduceIte, seval]
       rw [← hi, idx_hit _ ‹_›])
    | (refine ⟨⟨k + 1, by omega, by rw [idx_step _ ‹_›, hi]⟩, by simp only; omega, ?_⟩
       refine St.le_mk ?_ ?_ ?_ <;> simp only [LE, EN, Nat.reduceEqDiff, reduceIte, Nat.reduceSub]
       )

set_option maxHeartbeats 4000000 in
theorem indexFuncCol_sat (l : List Col) (f : Nat) (cs : List L) (p : Col → Bool) (hlen : l.length ≤ 140737488355328) (hp : ∀ t ∈ l, Sat Tryz.prog f (.agg (eCol t) :: cs.map .one) (.v (oB (p t)))) :
    Sat Tryz.prog 88 [.one (eCols l), .one (.clo f cs)] (.v (oI (idx p l 0))) := by
  refine sat_of_body tyOk Tryz.func88 rfl (by kernel_rfl) ⟨Nat.le_of_ble_eq_true rfl, Nat.le_of_ble_eq_true rfl⟩ fun w0 m0 F0 => ?_
  simp only [Tryz.ntmps88, envOf, Nat.reduceAdd]
  repeat' (first | ((first | with_reducible refine qV tyOk fun K hK => ?_ | (with_reducible first | refine qG ?_ | refine qH ?_ | refine qP ?_ | refine qGx ?_ | refine qHx ?_ | refine qPx ?_) | ((with_reducible first | refine qS ?_ ?_ | refine qT ?_ ?_ | refine qU ?_ ?_) <;> (intro h; try simp only [NM] at h)) | with_reducible refine yD tyOk mixed 6 (by kernel_rfl) fun K hK => ?_) <;> simp -dsimp (disch := (first | omega | (simp only [LN]; omega))) only [go_sem, ↓reduceIte, seval]) | ((with_reducible refine hK _ ?_); clear hK K) | (with_reducible first | refine qA ?_ | refine qB ?_ | refine qC ?_ | refine qD ?_ | refine qE ?_ | refine qF ?_ | refine qL ?_ | refine qM ?_ | refine qN ?_ | refine qO ?_ | refine qQ ?_) | refine qR rfl ?_ | (with_reducible refine AI ?_) | ((with_reducible refine qW (T := TT) (b := ?_) ?_ ?_); rotate_left; exact rfl) | (with_reducible first | refine qX ?_ | refine qY ?_ | refine qZ ?_) | (with_reducible first | refine qI ?_ | refine qIx ?_ | fail) | ((with_reducible refine yS ?_ ?_) <;> (intro h; try simp only [NM] at h)))
  refine AWP.loop (ι := {k : Nat // k ≤ l.length ∧ idx p (l.drop k) k = idx p l 0}) (fun k => ⟨19, [(0, .v (.one (eCols l))), (1, .v (.one (.clo f cs))), (7, .v (oI l.length)), (8, .v (oI k.1))], [], []⟩) (fun k => l.length - k.1) ⟨0, Nat.zero_le _, rfl⟩ ?_ fun ⟨k, hkl, hi⟩ => ?_
  · refine St.le_mk ?_ ?_ ?_ <;> simp only [LE, EN, Nat.reduceEqDiff, reduceIte, Nat.reduceSub]
  repeat' (first | ((first | with_reducible refine qV tyOk fun K hK => ?_ | (with_reducible first | refine qG ?_ | refine qH ?_ | refine qP ?_ | refine qGx ?_ | refine qHx ?_ | refine qPx ?_) | ((with_reducible first | refine qS ?_ ?_ | refine qT ?_ ?_ | refine qU ?_ ?_) <;> (intro h; try simp only [NM] at h)) | with_reducible refine yD tyOk mixed 6 (by kernel_rfl) fun K hK => ?_ | ((with_reducible refine CallJ.is ?_); (first | refine CallJ.pure (hp _ (List.getElem_mem (by omega))) ?_ | ((apply CallJ.lentI); (focus (simp -dsimp (disch := (first | omega | (simp only [LN]; omega))) only [go_sem, ↓reduceIte, seval]; rfl)); (focus (first | exact (hp _ (List.getElem_mem (by omega)))))))) | ((with_reducible refine CallH.is ?_); (first | refine CallH.intro (hp _ (List.getElem_mem (by omega))) ?_))) <;> simp -dsimp (disch := (first | omega | (simp only [LN]; omega))) only [go_sem, ↓reduceIte, seval]) | ((with_reducible refine hK _ ?_); clear hK K) | (with_reducible first | refine qA ?_ | refine qB ?_ | refine qC ?_ | refine qD ?_ | refine qE ?_ | refine qF ?_ | refine qL ?_ | refine qM ?_ | refine qN ?_ | refine qO ?_ | refine qQ ?_) | refine qR rfl ?_ | (with_reducible refine AI ?_) | ((with_reducible refine qW (T := TT) (b := ?_) ?_ ?_); rotate_left; exact rfl) | (with_reducible first | refine qX ?_ | refine qY ?_ | refine qZ ?_) | (with_reducible first | refine qI ?_ | refine qIx ?_ | fail) | ((with_reducible refine yS ?_ ?_) <;> (intro h; try simp only [NM] at h)))
  all_goals first 
    | (have hk : ¬ k < l.length := by omega
       simp -dsimp (disch := (first | omega | (simp only [LN]; omega))) only [retQ, Tryz.results88, resVals, cellRV, resOf, St.rest, St.freeze, RT, go_sem, ↓reduceIte, seval]
       rw [← hi, idx_end hk]
       done)
    | (
       simp -dsimp (disch := (first | omega | (simp only [LN]; omega))) only [retQ, Tryz.results88, resVals, cellRV, resOf, St.rest, St.freeze, RT, go_sem, ↓reduceIte, seval]
       rw [← hi, idx_hit _ ‹_›])
    | (refine ⟨⟨k + 1, by omega, by rw [idx_step _ ‹_›, hi]⟩, by simp only; omega, ?_⟩
       refine St.le_mk ?_ ?_ ?_ <;> simp only [LE, EN, Nat.reduceEqDiff, reduceIte, Nat.reduceSub]
       )

set_option maxHeartbeats 4000000 in
theorem indexFuncFK_sat (l : List FK) (f : Nat) (cs : List L) (p : FK → Bool) (hlen : l.length ≤ 140737488355328) (hp : ∀ t ∈ l, Sat Tryz.prog f (.agg (eFK t) :: cs.map .one) (.v (oB (p t)))) :
    Sat Tryz.prog 64 [.one (eFKs l), .one (.clo f cs)] (.v (oI (idx p l 0))) := by
  refine sat_of_body tyOk Tryz.func64 rfl (by kernel_rfl) ⟨Nat.le_of_ble_eq_true rfl, Nat.le_of_ble_eq_true rfl⟩ fun w0 m0 F0 => ?_
  simp only [Tryz.ntmps64, envOf, Nat.reduceAdd]
  repeat' (first | ((first | with_reducible refine qV tyOk fun K hK => ?_ | (with_reducible first | refine qG ?_ | refine qH ?_ | refine qP ?_ | refine qGx ?_ | refine qHx ?_ | refine qPx ?_) | ((with_reducible first | refine qS ?_ ?_ | refine qT ?_ ?_ | refine qU ?_ ?_) <;> (intro h; try simp only [NM] at h)) | with_reducible refine yD tyOk mixed 6 (by kernel_rfl) fun K hK => ?_) <;> simp -dsimp (disch := (first | omega | (simp only [LN]; omega))) only [go_sem, ↓reduceIte, seval]) | ((with_reducible refine hK _ ?_); clear hK K) | (with_reducible first | refine qA ?_ | refine qB ?_ | refine qC ?_ | refine qD ?_ | refine qE ?_ | refine qF ?_ | refine qL ?_ | refine qM ?_ | refine qN ?_ | refine qO ?_ | refine qQ ?_) | refine qR rfl ?_ | (with_reducible refine AI ?_) | ((with_reducible refine qW (T := TT) (b := ?_) ?_ ?_); rotate_left; exact rfl) | (with_reducible first | refine qX ?_ | refine qY ?_ | refine qZ ?_) | (with_reducible first | refine qI ?_ | refine qIx ?_ | fail) | ((with_reducible refine yS ?_ ?_) <;> (intro h; try simp only [NM] at h)))
  refine AWP.loop (ι := {k : Nat // k ≤ l.length ∧ idx p (l.drop k) k = idx p l 0}) (fun k => ⟨19, [(0, .v (.one (eFKs l))), (1, .v (.one (.clo f cs))), (7, .v (oI l.length)), (8, .v (oI k.1))], [], []⟩) (fun k => l.length - k.1) ⟨0, Nat.zero_le _, rfl⟩ ?_ fun ⟨k, hkl, hi⟩ => ?_
  · refine St.le_mk ?_ ?_ ?_ <;> simp only [LE, EN, Nat.reduceEqDiff, reduceIte, Nat.reduceSub]
  repeat' (first | ((first | with_reducible refine qV tyOk fun K hK => ?_ | (with_reducible first | refine qG ?_ | refine qH ?_ | refine qP ?_ | refine qGx ?_ | refine qHx ?_ | refine qPx ?_) | ((with_reducible first | refine qS ?_ ?_ | refine qT ?_ ?_ | refine qU ?_ ?_) <;> (intro h; try simp only [NM] at h)) | with_reducible refine yD tyOk mixed 6 (by kernel_rfl) fun K hK => ?_ | ((with_reducible refine CallJ.is ?_); (first | refine CallJ.pure (hp _ (List.getElem_mem (by omega))) ?_ | ((apply CallJ.lentI); (focus (simp -dsimp (disch := (first | omega | (simp only [LN]; omega))) only [go_sem, ↓reduceIte, seval]; rfl)); (focus (first | exact (hp _ (List.getElem_mem (by omega)))))))) | ((with_reducible refine CallH.is ?_); (first | refine CallH.intro (hp _ (List.getElem_mem (by omega))) ?_))) <;> simp -dsimp (disch := (first | omega | (simp only [LN]; omega))) only [go_sem, ↓reduceIte, seval]) | ((with_reducible refine hK _ ?_); clear hK K) | (with_reducible first | refine qA ?_ | refine qB ?_ | refine qC ?_ | refine qD ?_ | refine qE ?_ | refine qF ?_ | refine qL ?_ | refine qM ?_ | refine qN ?_ | refine qO ?_ | refine qQ ?_) | refine qR rfl ?_ | (with_reducible refine AI ?_) | ((with_reducible refine qW (T := TT) (b := ?_) ?_ ?_); rotate_left; exact rfl) | (with_reducible first | refine qX ?_ | refine qY ?_ | refine qZ ?_) | (with_reducible first | refine qI ?_ | refine qIx ?_ | fail) | ((with_reducible refine yS ?_ ?_) <;> (intro h; try simp only [NM] at h)))
  all_goals first 
    | (have hk : ¬ k < l.length := by omega
       simp -dsimp (disch := (first | omega | (simp only [LN]; omega))) only [retQ, Tryz.results64, resVals, cellRV, resOf, St.rest, St.freeze, RT, go_sem, ↓reduceIte, seval]
       rw [← hi, idx_end hk]
       done)
    | (
       simp -dsimp (disch := (first | omega | (simp only [LN]; omega))) only [retQ, Tryz.results64, resVals, cellRV, resOf, St.rest, St.freeze, RT, go_sem, ↓reduceIte, seval]
       rw [← hi, idx_hit _ ‹_›])
    | (refine ⟨⟨k + 1, by omega, by rw [idx_step _ ‹_›, hi]⟩, by simp only; omega, ?_⟩
       refine St.le_mk ?_ ?_ ?_ <;> simp only [LE, EN, Nat.reduceEqDiff, reduceIte, Nat.reduceSub]
       )

def mx0 (i : Int) : Int := if i < 0 then 0 else i
def tblAt (l : List Tbl) (name : ByteArray) : Int := idx (fun t => sEq t.name name) l 0
def colAt (l : List Col) (name : ByteArray) : Int := idx (fun t => sEq t.name name) l 0

theorem findTable1_sat (t : Tbl) (name : ByteArray) : Sat Tryz.prog 46 [.agg (eTbl t), .one (.fz [.str name])] (.v (oB (sEq t.name name))) := by
  refine sat_of_body tyOk Tryz.func46 rfl (by kernel_rfl) ⟨Nat.le_of_ble_eq_true rfl, Nat.le_of_ble_eq_true rfl⟩ fun w0 m0 F0 => ?_
  simp only [Tryz.ntmps46, envOf, Nat.reduceAdd]
  repeat' (first | ((first | with_reducible refine qV tyOk fun K hK => ?_ | (with_reducible first | refine qG ?_ | refine qH ?_ | refine qP ?_ | refine qGx ?_ | refine qHx ?_ | refine qPx ?_) | ((with_reducible first | refine qS ?_ ?_ | refine qT ?_ ?_ | refine qU ?_ ?_) <;> (intro h; try simp only [NM] at h)) | with_reducible refine yD tyOk mixed 6 (by kernel_rfl) fun K hK => ?_) <;> simp -dsimp (disch := (first | omega | (simp only [LN]; omega))) only [go_sem, ↓reduceIte, seval]) | ((with_reducible refine hK _ ?_); clear hK K) | (with_reducible first | refine qA ?_ | refine qB ?_ | refine qC ?_ | refine qD ?_ | refine qE ?_ | refine qF ?_ | refine qL ?_ | refine qM ?_ | refine qN ?_ | refine qO ?_ | refine qQ ?_) | refine qR rfl ?_ | (with_reducible refine AI ?_) | ((with_reducible refine qW (T := TT) (b := ?_) ?_ ?_); rotate_left; exact rfl) | (with_reducible first | refine qX ?_ | refine qY ?_ | refine qZ ?_) | (with_reducible first | refine qI ?_ | refine qIx ?_ | fail) | ((with_reducible refine yS ?_ ?_) <;> (intro h; try simp only [NM] at h)))
  simp -dsimp (disch := (first | omega | (simp only [LN]; omega))) only [retQ, Tryz.results46, resVals, cellRV, resOf, St.rest, St.freeze, RT, go_sem, ↓reduceIte, seval]
  rfl
theorem findColumn1_sat (t : Col) (name : ByteArray) : Sat Tryz.prog 89 [.agg (eCol t), .one (.fz [.str name])] (.v (oB (sEq t.name name))) := by
  refine sat_of_body tyOk Tryz.func89 rfl (by kernel_rfl) ⟨Nat.le_of_ble_eq_true rfl, Nat.le_of_ble_eq_true rfl⟩ fun w0 m0 F0 => ?_
  simp only [Tryz.ntmps89, envOf, Nat.reduceAdd]
  repeat' (first | ((first | with_reducible refine qV tyOk fun K hK => ?_ | (with_reducible first | refine qG ?_ | refine qH ?_ | refine qP ?_ | refine qGx ?_ | refine qHx ?_ | refine qPx ?_) | ((with_reducible first | refine qS ?_ ?_ | refine qT ?_ ?_ | refine qU ?_ ?_) <;> (intro h; try simp only [NM] at h)) | with_reducible refine yD tyOk mixed 6 (by kernel_rfl) fun K hK => ?_) <;> simp -dsimp (disch := (first | omega | (simp only [LN]; omega))) only [go_sem, ↓reduceIte, seval]) | ((with_reducible refine hK _ ?_); clear hK K) | (with_reducible first | refine qA ?_ | refine qB ?_ | refine qC ?_ | refine qD ?_ | refine qE ?_ | refine qF ?_ | refine qL ?_ | refine qM ?_ | refine qN ?_ | refine qO ?_ | refine qQ ?_) | refine qR rfl ?_ | (with_reducible refine AI ?_) | ((with_reducible refine qW (T := TT) (b := ?_) ?_ ?_); rotate_left; exact rfl) | (with_reducible first | refine qX ?_ | refine qY ?_ | refine qZ ?_) | (with_reducible first | refine qI ?_ | refine qIx ?_ | fail) | ((with_reducible refine yS ?_ ?_) <;> (intro h; try simp only [NM] at h)))
  simp -dsimp (disch := (first | omega | (simp only [LN]; omega))) only [retQ, Tryz.results89, resVals, cellRV, resOf, St.rest, St.freeze, RT, go_sem, ↓reduceIte, seval]
  rfl

theorem findTable_sat (s : Sch) (name : ByteArray) (hlen : s.tables.length ≤ 140737488355328) : Sat Tryz.prog 20 [.agg (eSch s), oS name] (.tup [oI (mx0 (tblAt s.tables name)), oB (decide (0 ≤ tblAt s.tables name))]) := by
  refine sat_of_body tyOk Tryz.func20 rfl (by kernel_rfl) ⟨Nat.le_of_ble_eq_true rfl, Nat.le_of_ble_eq_true rfl⟩ fun w0 m0 F0 => ?_
  simp only [Tryz.ntmps20, envOf, Nat.reduceAdd]
  repeat' (first | ((first | with_reducible refine qV tyOk fun K hK => ?_ | (with_reducible first | refine qG ?_ | refine qH ?_ | refine qP ?_ | refine qGx ?_ | refine qHx ?_ | refine qPx ?_) | ((with_reducible first | refine qS ?_ ?_ | refine qT ?_ ?_ | refine qU ?_ ?_) <;> (intro h; try simp only [NM] at h)) | with_reducible refine yD tyOk mixed 6 (by kernel_rfl) fun K hK => ?_ | ((with_reducible refine CallJ.is ?_); (first | refine CallJ.pure (indexFuncTbl_sat s.tables _ [.fz [.str name]] _ hlen fun t _ => findTable1_sat t name) ?_ | ((apply CallJ.lentI); (focus (simp -dsimp (disch := (first | omega | (simp only [LN]; omega))) only [go_sem, ↓reduceIte, seval]; rfl)); (focus (first | exact (indexFuncTbl_sat s.tables _ [.fz [.str name]] _ hlen fun t _ => findTable1_sat t name)))))) | ((with_reducible refine CallH.is ?_); (first | refine CallH.intro (indexFuncTbl_sat s.tables _ [.fz [.str name]] _ hlen fun t _ => findTable1_sat t name) ?_))) <;> simp -dsimp (disch := (first | omega | (simp only [LN]; omega))) only [go_sem, ↓reduceIte, seval]) | ((with_reducible refine hK _ ?_); clear hK K) | (with_reducible first | refine qA ?_ | refine qB ?_ | refine qC ?_ | refine qD ?_ | refine qE ?_ | refine qF ?_ | refine qL ?_ | refine qM ?_ | refine qN ?_ | refine qO ?_ | refine qQ ?_) | refine qR rfl ?_ | (with_reducible refine AI ?_) | ((with_reducible refine qW (T := TT) (b := ?_) ?_ ?_); rotate_left; exact rfl) | (with_reducible first | refine qX ?_ | refine qY ?_ | refine qZ ?_) | (with_reducible first | refine qI ?_ | refine qIx ?_ | fail) | ((with_reducible refine yS ?_ ?_) <;> (intro h; try simp only [NM] at h)))
  simp -dsimp (disch := (first | omega | (simp only [LN]; omega))) only [retQ, Tryz.results20, resVals, cellRV, resOf, St.rest, St.freeze, RT, go_sem, ↓reduceIte, seval]
  rfl
theorem findColumn_sat (s : Tbl) (name : ByteArray) (hlen : s.cols.length ≤ 140737488355328) : Sat Tryz.prog 63 [.agg (eTbl s), oS name] (.tup [oI (mx0 (colAt s.cols name)), oB (decide (0 ≤ colAt s.cols name))]) := by
  refine sat_of_body tyOk Tryz.func63 rfl (by kernel_rfl) ⟨Nat.le_of_ble_eq_true rfl, Nat.le_of_ble_eq_true rfl⟩ fun w0 m0 F0 => ?_
  simp only [Tryz.ntmps63, envOf, Nat.reduceAdd]
  repeat' (first | ((first | with_reducible refine qV tyOk fun K hK => ?_ | (with_reducible first | refine qG ?_ | refine qH ?_ | refine qP ?_ | refine qGx ?_ | refine qHx ?_ | refine qPx ?_) | ((with_reducible first | refine qS ?_ ?_ | refine qT ?_ ?_ | refine qU ?_ ?_) <;> (intro h; try simp only [NM] at h)) | with_reducible refine yD tyOk mixed 6 (by kernel_rfl) fun K hK => ?_ | ((with_reducible refine CallJ.is ?_); (first | refine CallJ.pure (indexFuncCol_sat s.cols _ [.fz [.str name]] _ hlen fun t _ => findColumn1_sat t name) ?_ | ((apply CallJ.lentI); (focus (simp -dsimp (disch := (first | omega | (simp only [LN]; omega))) only [go_sem, ↓reduceIte, seval]; rfl)); (focus (first | exact (indexFuncCol_sat s.cols _ [.fz [.str name]] _ hlen fun t _ => findColumn1_sat t name)))))) | ((with_reducible refine CallH.is ?_); (first | refine CallH.intro (indexFuncCol_sat s.cols _ [.fz [.str name]] _ hlen fun t _ => findColumn1_sat t name) ?_))) <;> simp -dsimp (disch := (first | omega | (simp only [LN]; omega))) only [go_sem, ↓reduceIte, seval]) | ((with_reducible refine hK _ ?_); clear hK K) | (with_reducible first | refine qA ?_ | refine qB ?_ | refine qC ?_ | refine qD ?_ | refine qE ?_ | refine qF ?_ | refine qL ?_ | refine qM ?_ | refine qN ?_ | refine qO ?_ | refine qQ ?_) | refine qR rfl ?_ | (with_reducible refine AI ?_) | ((with_reducible refine qW (T := TT) (b := ?_) ?_ ?_); rotate_left; exact rfl) | (with_reducible first | refine qX ?_ | refine qY ?_ | refine qZ ?_) | (with_reducible first | refine qI ?_ | refine qIx ?_ | fail) | ((with_reducible refine yS ?_ ?_) <;> (intro h; try simp only [NM] at h)))
  simp -dsimp (disch := (first | omega | (simp only [LN]; omega))) only [retQ, Tryz.results63, resVals, cellRV, resOf, St.rest, St.freeze, RT, go_sem, ↓reduceIte, seval]
  rfl

def okByte (b : UInt8) : Bool := !((decide ((b.toNat : Int) < 97) || decide (122 < (b.toNat : Int))) && (decide ((b.toNat : Int) < 48) || decide (57 < (b.toNat : Int))))
def digit (b : UInt8) : Bool := decide (48 ≤ (b.toNat : Int)) && decide ((b.toNat : Int) ≤ 57)
def validName (s : ByteArray) : Bool := !(decide (s.size < 1) || decide (12 < s.size) || digit (s.data.toList.getD 0 0)) && s.data.toList.all okByte

theorem chunks_one {α : Type} (f : α → L) : ∀ (l : List α), chunks 1 l.length (l.map f) = l.map fun x => [f x]
  | [] => rfl
  | x :: l => by
    simp only [List.length_cons, List.map_cons, chunks]
    rw [List.drop_succ_cons, List.drop_zero, chunks_one f l]
    rfl

set_option maxHeartbeats 4000000 in
theorem validName_sat (s : ByteArray) : Sat Tryz.prog 62 [oS s] (.v (oB (validName s))) := by
  obtain ⟨⟨bs⟩⟩ := s
  have hsz : (ByteArray.mk (Array.mk bs)).size = bs.length := rfl
  have hdt : (ByteArray.mk (Array.mk bs)).data.toList = bs := rfl
  have e1 : chunks 1 bs.length (bs.map fun b => L.int .u8 (b.toNat : Int)) = bs.map fun b => [L.int .u8 (b.toNat : Int)] := chunks_one _ bs
  unfold validName
  rw [hsz, hdt]
  refine sat_of_body tyOk Tryz.func62 rfl (by kernel_rfl) ⟨Nat.le_of_ble_eq_true rfl, Nat.le_of_ble_eq_true rfl⟩ fun w0 m0 F0 => ?_
  simp only [Tryz.ntmps62, envOf, Nat.reduceAdd]
  repeat' (first | ((first | with_reducible refine qV tyOk fun K hK => ?_ | (with_reducible first | refine qG ?_ | refine qH ?_ | refine qP ?_ | refine qGx ?_ | refine qHx ?_ | refine qPx ?_) | ((with_reducible first | refine qS ?_ ?_ | refine qT ?_ ?_ | refine qU ?_ ?_) <;> (intro h; try simp only [NM] at h)) | with_reducible refine yD tyOk mixed 6 (by kernel_rfl) fun K hK => ?_) <;> simp -dsimp (disch := (first | omega | (simp only [LN]; omega))) only [go_sem, ↓reduceIte, seval, hsz, hdt, e1]) | ((with_reducible refine hK _ ?_); clear hK K) | (with_reducible first | refine qA ?_ | refine qB ?_ | refine qC ?_ | refine qD ?_ | refine qE ?_ | refine qF ?_ | refine qL ?_ | refine qM ?_ | refine qN ?_ | refine qO ?_ | refine qQ ?_) | refine qR rfl ?_ | (with_reducible refine AI ?_) | ((with_reducible refine qW (T := TT) (b := ?_) ?_ ?_); rotate_left; exact rfl) | (with_reducible first | refine qX ?_ | refine qY ?_ | refine qZ ?_) | (with_reducible first | refine qI ?_ | refine qIx ?_ | fail) | ((with_reducible refine yS ?_ ?_) <;> (intro h; try simp only [NM] at h)))
  all_goals first
    | (
       simp -dsimp (disch := (first | omega | (simp only [LN]; omega))) only [retQ, Tryz.results62, resVals, cellRV, resOf, St.rest, St.freeze, RT, go_sem, ↓reduceIte, seval]
       simp only [digit]
       first
         | (have : bs.length < 1 := by omega
            simp [this]
            done)
         | (have : 12 < bs.length := by omega
            simp [this]
            done)
         | (have h1 : (48 : Int) ≤ ((bs.getD 0 0).toNat : Int) := by omega
            have h2 : ((bs.getD 0 0).toNat : Int) ≤ 57 := by omega
            simp only [h1, h2, decide_true, Bool.and_true, Bool.or_true, Bool.not_true, Bool.false_and]
            done))
    | (have hd : digit (bs.getD 0 0) = false := by
         simp only [digit, Bool.and_eq_false_imp, decide_eq_true_eq, decide_eq_false_iff_not]
         omega
       have hb : ¬ bs.length < 1 := by omega
       have h12 : ¬ 12 < bs.length := by omega
       refine AWP.loop (ι := {k : Nat // k ≤ bs.length ∧ (bs.drop k).all okByte = bs.all okByte}) (fun k => ⟨45, [(24, .v (.one (.sl 1 (bs.map fun b => [L.int .u8 (b.toNat : Int)])))), (25, .v (oI bs.length)), (26, .v (oI k.1))], [], []⟩) (fun k => bs.length - k.1) ⟨0, Nat.zero_le _, rfl⟩ ?_ fun ⟨k, hkl, hi⟩ => ?_
       · refine St.le_mk ?_ ?_ ?_ <;> simp only [LE, EN, Nat.reduceEqDiff, reduceIte, Nat.reduceSub]
       repeat' (first | ((first | with_reducible refine qV tyOk fun K hK => ?_ | (with_reducible first | refine qG ?_ | refine qH ?_ | refine qP ?_ | refine qGx ?_ | refine qHx ?_ | refine qPx ?_) | ((with_reducible first | refine qS ?_ ?_ | refine qT ?_ ?_ | refine qU ?_ ?_) <;> (intro h; try simp only [NM] at h)) | with_reducible refine yD tyOk mixed 6 (by kernel_rfl) fun K hK => ?_) <;> simp -dsimp (disch := (first | omega | (simp only [LN]; omega))) only [go_sem, ↓reduceIte, seval]) | ((with_reducible refine hK _ ?_); clear hK K) | (with_reducible first | refine qA ?_ | refine qB ?_ | refine qC ?_ | refine qD ?_ | refine qE ?_ | refine qF ?_ | refine qL ?_ | refine qM ?_ | refine qN ?_ | refine qO ?_ | refine qQ ?_) | refine qR rfl ?_ | (with_reducible refine AI ?_) | ((with_reducible refine qW (T := TT) (b := ?_) ?_ ?_); rotate_left; exact rfl) | (with_reducible first | refine qX ?_ | refine qY ?_ | refine qZ ?_) | (with_reducible first | refine qI ?_ | refine qIx ?_ | fail) | ((with_reducible refine yS ?_ ?_) <;> (intro h; try simp only [NM] at h)))
       all_goals first
         | (have hk : ¬ k < bs.length := by omega
            simp -dsimp (disch := (first | omega | (simp only [LN]; omega))) only [retQ, Tryz.results62, resVals, cellRV, resOf, St.rest, St.freeze, RT, go_sem, ↓reduceIte, seval]
            rw [← hi, List.drop_of_length_le (by omega), hd]
            simp [hb, h12]
            done)
         | (have hk : k < bs.length := by omega
            have hstep : (bs.drop k).all okByte = (okByte bs[k] && (bs.drop (k + 1)).all okByte) := by rw [List.drop_eq_getElem_cons hk, List.all_cons]
            first
              | (have hok : okByte bs[k] = true := by
                   simp only [okByte, Bool.not_eq_true', Bool.and_eq_false_imp, Bool.or_eq_true, Bool.or_eq_false_iff, decide_eq_true_eq, decide_eq_false_iff_not]
                   omega
                 refine ⟨⟨k + 1, by omega, by rw [← hi, hstep, hok]; rfl⟩, by simp only; omega, ?_⟩
                 refine St.le_mk ?_ ?_ ?_ <;> simp only [LE, EN, Nat.reduceEqDiff, reduceIte, Nat.reduceSub]
                 done)
              | (have hok : okByte bs[k] = false := by
                   simp only [okByte, Bool.not_eq_false', Bool.and_eq_true, Bool.or_eq_true, decide_eq_true_eq]
                   omega
                 simp -dsimp (disch := (first | omega | (simp only [LN]; omega))) only [retQ, Tryz.results62, resVals, cellRV, resOf, St.rest, St.freeze, RT, go_sem, ↓reduceIte, seval]
                 rw [← hi, hstep, hok]
                 simp)))

def scan {α : Type} (f : Nat → α → Option Int) : List α → Nat → Option Int
  | [], _ => none
  | x :: l, k => match f k x with
    | some e => some e
    | none => scan f l (k + 1)
theorem scan_step {α : Type} {f : Nat → α → Option Int} {l : List α} {k : Nat} (hk : k < l.length) (h : f k l[k] = none) : scan f (l.drop (k + 1)) (k + 1) = scan f (l.drop k) k := by
  rw [List.drop_eq_getElem_cons hk, scan, h]
theorem scan_hit {α : Type} {f : Nat → α → Option Int} {l : List α} {k : Nat} {e : Int} (hk : k < l.length) (h : f k l[k] = some e) : scan f (l.drop k) k = some e := by
  rw [List.drop_eq_getElem_cons hk, scan, h]
theorem scan_end {α : Type} {f : Nat → α → Option Int} {l : List α} {k : Nat} (hk : ¬ k < l.length) : scan f (l.drop k) k = none := by
  rw [List.drop_of_length_le (by omega), scan]

theorem scan_leaf {α : Type} {f : Nat → α → Option Int} {l : List α} {k : Nat} {e : Int} (hk : k < l.length) (h : f k l[k] = some e) (hi : scan f (l.drop k) k = scan f l 0) : scan f l 0 = some e := by
  rw [← hi, scan_hit hk h]

def colE (t : Tbl) (k : Nat) (c : Col) : Option Int :=
  if validName c.name = false then some 23 else if mx0 (colAt t.cols c.name) < k then some 5 else if c.kind < 1 ∨ 3 < c.kind then some 7 else none
def zCol : Col := ⟨ByteArray.empty, 0, false⟩
def pkE (t : Tbl) (k : Nat) (c : Int) : Option Int :=
  if c < 0 ∨ (t.cols.length : Int) ≤ c ∨ (t.cols.getD c.toNat zCol).nullable = true ∨ (0 < (k : Int) ∧ c ≤ t.pk.getD ((k : Int) - 1).toNat 0) then some 9 else none
def tblE (t : Tbl) : Int :=
  if validName t.name = false then 23 else if t.cols.length = 0 then 3 else if 6 < t.cols.length then 2 else
  match scan (colE t) t.cols 0 with
  | some e => e
  | none => match scan (pkE t) t.pk 0 with
    | some e => e
    | none => if t.pk.length = 0 then 9 else 0

set_option maxHeartbeats 8000000 in
theorem validateTable_sat (t : Tbl) (h1 : t.cols.length ≤ 140737488355328) (h2 : t.pk.length ≤ 140737488355328) : Sat Tryz.prog 34 [.agg (eTbl t)] (.v (oI (tblE t))) := by
  refine sat_of_body tyOk Tryz.func34 rfl (by kernel_rfl) ⟨Nat.le_of_ble_eq_true rfl, Nat.le_of_ble_eq_true rfl⟩ fun w0 m0 F0 => ?_
  simp only [Tryz.ntmps34, envOf, Nat.reduceAdd]
  repeat' (first | ((first | with_reducible refine qV tyOk fun K hK => ?_ | (with_reducible first | refine qG ?_ | refine qH ?_ | refine qP ?_ | refine qGx ?_ | refine qHx ?_ | refine qPx ?_) | ((with_reducible first | refine qS ?_ ?_ | refine qT ?_ ?_ | refine qU ?_ ?_) <;> (intro h; try simp only [NM] at h)) | with_reducible refine yD tyOk mixed 6 (by kernel_rfl) fun K hK => ?_ | ((with_reducible refine CallJ.is ?_); (first | refine CallJ.pure (validName_sat _) ?_ | ((apply CallJ.lentI); (focus (simp -dsimp (disch := (first | omega | (simp only [LN]; omega))) only [go_sem, ↓reduceIte, seval]; rfl)); (focus (first | exact (validName_sat _)))))) | ((with_reducible refine CallH.is ?_); (first | refine CallH.intro (validName_sat _) ?_))) <;> simp -dsimp (disch := (first | omega | (simp only [LN]; omega))) only [go_sem, ↓reduceIte, seval]) | ((with_reducible refine hK _ ?_); clear hK K) | (with_reducible first | refine qA ?_ | refine qB ?_ | refine qC ?_ | refine qD ?_ | refine qE ?_ | refine qF ?_ | refine qL ?_ | refine qM ?_ | refine qN ?_ | refine qO ?_ | refine qQ ?_) | refine qR rfl ?_ | (with_reducible refine AI ?_) | ((with_reducible refine qW (T := TT) (b := ?_) ?_ ?_); rotate_left; exact rfl) | (with_reducible first | refine qX ?_ | refine qY ?_ | refine qZ ?_) | (with_reducible first | refine qI ?_ | refine qIx ?_ | fail) | ((with_reducible refine yS ?_ ?_) <;> (intro h; try simp only [NM] at h)))
  all_goals first
    | (
       simp -dsimp (disch := (first | omega | (simp only [LN]; omega))) only [retQ, Tryz.results34, resVals, cellRV, resOf, St.rest, St.freeze, RT, go_sem, ↓reduceIte, seval]
       simp [tblE, *]
       done)
    | (
       simp -dsimp (disch := (first | omega | (simp only [LN]; omega))) only [retQ, Tryz.results34, resVals, cellRV, resOf, St.rest, St.freeze, RT, go_sem, ↓reduceIte, seval]
       first
         | (have : t.cols.length = 0 := by omega
            simp [tblE, *]
            done)
         | (have h0 : t.cols.length ≠ 0 := by omega
            have : 6 < t.cols.length := by omega
            simp [tblE, *]
            done))
    | skip
  have h0 : t.cols.length ≠ 0 := by omega
  have h6 : ¬ 6 < t.cols.length := by omega
  have spec : tblE t = match scan (colE t) t.cols 0 with
    | some e => e
    | none => match scan (pkE t) t.pk 0 with
      | some e => e
      | none => if t.pk.length = 0 then 9 else 0 := by simp [tblE, *]
  rw [spec]
  refine AWP.loop (ι := {k : Nat // k ≤ t.cols.length ∧ scan (colE t) (t.cols.drop k) k = scan (colE t) t.cols 0}) (fun k => ⟨96, [(1, .v (.one (.ptr 1 0))), (22, .v (.one (eCols t.cols))), (23, .v (oI t.cols.length)), (24, .v (oI k.1))], [(1, eTbl t)], []⟩) (fun k => t.cols.length - k.1) ⟨0, Nat.zero_le _, rfl⟩ ?_ fun ⟨k, hkl, hi⟩ => ?_
  · refine St.le_mk ?_ ?_ ?_ <;> simp only [LE, EN, Nat.reduceEqDiff, reduceIte, Nat.reduceSub]
  repeat' (first | ((first | with_reducible refine qV tyOk fun K hK => ?_ | (with_reducible first | refine qG ?_ | refine qH ?_ | refine qP ?_ | refine qGx ?_ | refine qHx ?_ | refine qPx ?_) | ((with_reducible first | refine qS ?_ ?_ | refine qT ?_ ?_ | refine qU ?_ ?_) <;> (intro h; try simp only [NM] at h)) | with_reducible refine yD tyOk mixed 6 (by kernel_rfl) fun K hK => ?_ | ((with_reducible refine CallJ.is ?_); (first | refine CallJ.pure (validName_sat _) ?_ | refine CallJ.pure (findColumn_sat t _ h1) ?_ | ((apply CallJ.lentI); (focus (simp -dsimp (disch := (first | omega | (simp only [LN]; omega))) only [go_sem, ↓reduceIte, seval]; rfl)); (focus (first | exact (validName_sat _) | exact (findColumn_sat t _ h1)))))) | ((with_reducible refine CallH.is ?_); (first | refine CallH.intro (validName_sat _) ?_ | refine CallH.intro (findColumn_sat t _ h1) ?_))) <;> simp -dsimp (disch := (first | omega | (simp only [LN]; omega))) only [go_sem, ↓reduceIte, seval]) | ((with_reducible refine hK _ ?_); clear hK K) | (with_reducible first | refine qA ?_ | refine qB ?_ | refine qC ?_ | refine qD ?_ | refine qE ?_ | refine qF ?_ | refine qL ?_ | refine qM ?_ | refine qN ?_ | refine qO ?_ | refine qQ ?_) | refine qR rfl ?_ | (with_reducible refine AI ?_) | ((with_reducible refine qW (T := TT) (b := ?_) ?_ ?_); rotate_left; exact rfl) | (with_reducible first | refine qX ?_ | refine qY ?_ | refine qZ ?_) | (with_reducible first | refine qI ?_ | refine qIx ?_ | fail) | ((with_reducible refine yS ?_ ?_) <;> (intro h; try simp only [NM] at h)))
  all_goals try (
    first
      | (have hs : (colE t) k t.cols[k] = none := by
           (simp (disch := omega) only [colE, getD_lt]; (repeat' split) <;> first | rfl | with_reducible assumption | omega | (exfalso; omega) | (simp_all; done) | (simp_all; omega))
         refine ⟨⟨k + 1, by omega, by rw [scan_step (by omega) hs, hi]⟩, by simp only; omega, ?_⟩
         refine St.le_mk ?_ ?_ ?_ <;> simp only [LE, EN, Nat.reduceEqDiff, reduceIte, Nat.reduceSub, eTbl]
         done)
      | (simp -dsimp (disch := (first | omega | (simp only [LN]; omega))) only [retQ, Tryz.results34, resVals, cellRV, resOf, St.rest, St.freeze, RT, go_sem, ↓reduceIte, seval]
         rw [scan_leaf (by omega) ?_ hi]
         all_goals first | with_reducible rfl | ((simp (disch := omega) only [colE, getD_lt]; (repeat' split) <;> first | rfl | with_reducible assumption | omega | (exfalso; omega) | (simp_all; done) | (simp_all; omega)); done) | rfl
         done)
    )
  have hi0 : scan (colE t) t.cols 0 = none := by rw [← hi, scan_end (by omega)]
  refine AWP.loop (ι := {k : Nat // k ≤ t.pk.length ∧ scan (pkE t) (t.pk.drop k) k = scan (pkE t) t.pk 0}) (fun k => ⟨96, [(1, .v (.one (.ptr 1 0))), (53, .v (.one (eInts t.pk))), (54, .v (oI t.pk.length)), (55, .v (oI k.1))], [(1, eTbl t)], []⟩) (fun k => t.pk.length - k.1) ⟨0, Nat.zero_le _, rfl⟩ ?_ fun ⟨k, hkl, hi⟩ => ?_
  · refine St.le_mk ?_ ?_ ?_ <;> simp only [LE, EN, Nat.reduceEqDiff, reduceIte, Nat.reduceSub, eTbl]
  repeat' (first | ((first | with_reducible refine qV tyOk fun K hK => ?_ | (with_reducible first | refine qG ?_ | refine qH ?_ | refine qP ?_ | refine qGx ?_ | refine qHx ?_ | refine qPx ?_) | ((with_reducible first | refine qS ?_ ?_ | refine qT ?_ ?_ | refine qU ?_ ?_) <;> (intro h; try simp only [NM] at h)) | with_reducible refine yD tyOk mixed 6 (by kernel_rfl) fun K hK => ?_) <;> simp -dsimp (disch := (first | omega | (simp only [LN]; omega))) only [go_sem, ↓reduceIte, seval]) | ((with_reducible refine hK _ ?_); clear hK K) | (with_reducible first | refine qA ?_ | refine qB ?_ | refine qC ?_ | refine qD ?_ | refine qE ?_ | refine qF ?_ | refine qL ?_ | refine qM ?_ | refine qN ?_ | refine qO ?_ | refine qQ ?_) | refine qR rfl ?_ | (with_reducible refine AI ?_) | ((with_reducible refine qW (T := TT) (b := ?_) ?_ ?_); rotate_left; exact rfl) | (with_reducible first | refine qX ?_ | refine qY ?_ | refine qZ ?_) | (with_reducible first | refine qI ?_ | refine qIx ?_ | fail) | ((with_reducible refine yS ?_ ?_) <;> (intro h; try simp only [NM] at h)))
  all_goals try rw [hi0]
  all_goals simp only
  all_goals try (
    first
      | (have hs : (pkE t) k t.pk[k] = none := by
           (simp (disch := omega) only [pkE, getD_lt]; (repeat' split) <;> first | rfl | with_reducible assumption | omega | (exfalso; omega) | (simp_all; done) | (simp_all; omega))
         refine ⟨⟨k + 1, by omega, by rw [scan_step (by omega) hs, hi]⟩, by simp only; omega, ?_⟩
         refine St.le_mk ?_ ?_ ?_ <;> simp only [LE, EN, Nat.reduceEqDiff, reduceIte, Nat.reduceSub, eTbl]
         done)
      | (simp -dsimp (disch := (first | omega | (simp only [LN]; omega))) only [retQ, Tryz.results34, resVals, cellRV, resOf, St.rest, St.freeze, RT, go_sem, ↓reduceIte, seval]
         rw [scan_leaf (by omega) ?_ hi]
         all_goals first | with_reducible rfl | ((simp (disch := omega) only [pkE, getD_lt]; (repeat' split) <;> first | rfl | with_reducible assumption | omega | (exfalso; omega) | (simp_all; done) | (simp_all; omega)); done) | rfl
         done)
    )
  all_goals
    have hi1 : scan (pkE t) t.pk 0 = none := by rw [← hi, scan_end (by omega)]
    rw [hi1]
    simp -dsimp (disch := (first | omega | (simp only [LN]; omega))) only [retQ, Tryz.results34, resVals, cellRV, resOf, St.rest, St.freeze, RT, go_sem, ↓reduceIte, seval]
    first
      | (rw [if_pos (by omega)])
      | (rw [if_neg (by omega)])
end Go.Bw
