/-
  THE LAYER: what the walks of the functions go by.
-/
import Derived.Test.YtinlgpgdinnefaaKD
set_option linter.unusedSimpArgs false
set_option linter.unusedVariables false

namespace Go.Bw
open Go.RowKit

section
variable {P : Program} {w0 : World} {m0 : Mem} {s s' : St} {a : Act} {w : World} {m : Mem} {ω : Wh} {F0 : Home} {T : TypeId → Option TI}

/-- The acts differ at the slots of D at the most. -/
def Agree (D : Nat → Prop) (a ag : Act) : Prop := ag.defers = a.defers ∧ ag.tmps.size = a.tmps.size ∧ ∀ d, ¬ D d → ag.tmps[d]? = a.tmps[d]?
theorem Agree.refl (D : Nat → Prop) (a : Act) : Agree D a a := ⟨rfl, rfl, fun _ _ => rfl⟩
theorem Agree.put {D : Nat → Prop} {a ag : Act} (h : Agree D a ag) (d : Option Tmp) (v : Value) : Agree D (a.put d v) (ag.put d v) := by
  cases d with
  | none => exact h
  | some d =>
    refine ⟨h.1, by simpa [Act.put] using h.2.1, fun e he => ?_⟩
    simp only [Act.put, Array.getElem?_setIfInBounds, h.2.1, h.2.2 e he]
theorem Agree.putOf {D D' : Nat → Prop} {a ag : Act} (h : Agree D a ag) (d : Option Tmp) (v : Value) (hD : ∀ e, ¬ D' e → D e → d = some e) : Agree D' (a.put d v) (ag.put d v) := by
  cases d with
  | none =>
    refine ⟨h.1, h.2.1, fun e he => h.2.2 e fun hd => ?_⟩
    cases hD e he hd
  | some d =>
    refine ⟨h.1, by simpa [Act.put] using h.2.1, fun e he => ?_⟩
    simp only [Act.put, Array.getElem?_setIfInBounds, h.2.1]
    by_cases hde : d = e
    · simp [hde]
    · rw [if_neg hde, if_neg hde]
      exact h.2.2 e fun hd => hde (by have := hD e he hd; injection this)
theorem Agree.ghost {D : Nat → Prop} {a ag : Act} (h : Agree D a ag) (d : Option Tmp) (v : Value) (hD : ∀ e, d = some e → D e) : Agree D a (ag.put d v) := by
  cases d with
  | none => exact h
  | some d =>
    refine ⟨h.1, by simpa [Act.put] using h.2.1, fun e he => ?_⟩
    have hde : d ≠ e := fun hh => he (hD e (by rw [hh]))
    simp only [Act.put, Array.getElem?_setIfInBounds, if_neg hde, h.2.2 e he]

theorem wp_agree {D : Nat → Prop} {o : Oper} {a ag : Act} {next : Act → World → Prop} {Q : Exit → Act → World → Prop} (he : execOp a.eval o = execOp ag.eval o) (hA : Agree D a ag)
    (h : o.wp P ag w (fun a' w' => ∀ ar, Agree D ar a' → next ar w') (fun e a' w' => ∀ ar, Agree D ar a' → Q e ar w')) : o.wp P a w next Q := by
  unfold Oper.wp at h ⊢
  rw [he]
  unfold Oper.upon at h ⊢
  split at h
  · exact h _ (hA.put _ _)
  · exact h _ (hA.put _ _)
  · rename_i d w1 _
    have h1 : Agree D { a with defers := d :: a.defers } { ag with defers := d :: ag.defers } := ⟨by show d :: ag.defers = d :: a.defers; rw [hA.1], hA.2.1, hA.2.2⟩
    exact h _ (h1.put _ _)
  · refine h.mono fun e w' hr => ?_
    cases e with
    | returned v => exact hr _ (hA.put _ _)
    | panicked c => exact hr _ hA
    | outgrown =>
      obtain ⟨a1, w1, h1⟩ := hr
      exact ⟨a1, w1, h1 _ (Agree.refl _ _)⟩
  · exact h.mono fun v w' hr => hr _ (hA.put _ _)
  · exact h _ hA
  · exact h.elim

theorem eval_agree {D : Nat → Prop} {ops : Array Oper} {o : Oper} {a ag : Act} (hA : Agree D a ag) (hs : ∀ cs b, o.op ≠ .select cs b) (hl : ∀ t ∈ o.looksAt ops, ¬ D t) : execOp a.eval o = execOp ag.eval o := by
  refine execOp_congr o hs fun x hx => ?_
  cases x with
  | tmp t =>
    have := hA.2.2 t (hl t (operand_looks (by simpa using hx)))
    simp only [Act.eval, Array.getD_eq_getD_getElem?, this]
  | _ => rfl
theorem wanted_agree {D : Nat → Prop} {ops : Array Oper} {o : Oper} {a ag : Act} (hA : Agree D a ag) (hl : ∀ t ∈ o.looksAt ops, ¬ D t) : Region.wanted o (yielded ops a.tmps) = Region.wanted o (yielded ops ag.tmps) := by
  unfold Region.wanted
  cases hg : o.guard with
  | none => rfl
  | some p =>
    obtain ⟨j, b⟩ := p
    have : yielded ops a.tmps j = yielded ops ag.tmps j := by
      unfold yielded
      cases hd : (ops[j]?).bind (·.dst) with
      | none => rfl
      | some t =>
        have := hA.2.2 t (hl t (by simp [Oper.looksAt, hg, hd]))
        simp only [Option.bind_some, this]
    simp only [this]

def sameA (t : St) (d : Option Tmp) (y : A) : Prop := match d with | some d => d < t.n ∧ look t.env d = some y | none => True
theorem CI.same (h : CI P w0 m0 F0 s a w m ω) {d : Option Tmp} {y : A} {v : Value} (hs : sameA s d y) (hv : ARep m ω v y) : CI P w0 m0 F0 s (a.put d v) w m ω := by
  cases d with
  | none => exact h
  | some d =>
    obtain ⟨h1, h2⟩ := hs
    refine (h.put h1 hv).ext rfl (fun t => ?_) rfl rfl
    show look s.env t = if d = t then some y else look s.env t
    split
    · rename_i e; subst e; exact h2
    · rfl
/-- At this state the quiet operations give what their slots hold. -/
def Stable (P : Program) (T : TypeId → Option TI) (ops : Array Oper) : List Oper → St → Prop
  | [], _ => True
  | o :: l, t => (match guardOf ops t o with | some true => VVal P T o t (sameA t o.dst) | some false => sameA t o.dst (.tup []) | none => False) ∧ Stable P T ops l t
theorem Stable.get {ops : Array Oper} {t : St} {o : Oper} : ∀ {l : List Oper}, Stable P T ops l t → o ∈ l → (match guardOf ops t o with | some true => VVal P T o t (sameA t o.dst) | some false => sameA t o.dst (.tup []) | none => False)
  | x :: l, h, ho => by
    rcases List.mem_cons.1 ho with rfl | ho
    · exact h.1
    · exact Stable.get h.2 ho
/-- The chain, one after the other; in between the quiet operations stay what they are. -/
def VCh (P : Program) (T : TypeId → Option TI) (ops : Array Oper) (lq : List Oper) : List Oper → St → (St → Prop) → Prop
  | [], t, K => Stable P T ops lq t ∧ K t
  | o :: l, t, K => Stable P T ops lq t ∧ VOps P T ops [o] t (fun t' => VCh P T ops lq l t' K)
theorem VCh.stable {ops : Array Oper} {lq l : List Oper} {t : St} {K : St → Prop} (h : VCh P T ops lq l t K) : Stable P T ops lq t := by
  cases l <;> exact h.1
theorem VCh.step {ops : Array Oper} {lq l : List Oper} {o : Oper} {t : St} {K : St → Prop} (h1 : Stable P T ops lq t) (h2 : ∀ K2 : St → Prop, (∀ t', VCh P T ops lq l t' K → K2 t') → VOps P T ops [o] t K2) : VCh P T ops lq (o :: l) t K :=
  ⟨h1, h2 _ fun _ h => h⟩

theorem VHead_ghost (hT : TabOk P T) {ops : Array Oper} {K : St → Prop} {D : Nat → Prop} {a0 : Act} : ∀ (l : List Oper) (s : St) (a : Act) (m : Mem), (∀ o ∈ l, plainOp o = true ∧ ∀ d, o.dst = some d → D d) → VHead P T ops l s K → CI P w0 m0 F0 s a w m ω → Agree D a0 a →
    ∃ s' ag m', K s' ∧ CI P w0 m0 F0 s' ag w m' ω ∧ Agree D a0 ag
  | [], s, a, m, _, h, hC, hA => ⟨s, a, m, h, hC, hA⟩
  | o :: l, s, a, m, hp, h, hC, hA => by
    obtain ⟨p1, p2⟩ := hp o (by simp)
    have hp' : ∀ o ∈ l, plainOp o = true ∧ ∀ d, o.dst = some d → D d := fun o ho => hp o (by simp [ho])
    simp only [VHead] at h
    split at h
    · obtain ⟨x, hx, hG⟩ := VVal_sound hT h hC
      obtain ⟨h1, h2⟩ := pk_elim hx
      obtain ⟨v, m', _, hC', hv⟩ := hG.2 p1
      exact VHead_ghost hT l _ _ m' hp' h2 (hC'.putO h1 hv) (hA.ghost _ _ p2)
    · obtain ⟨h1, h2⟩ := pk_elim h
      exact VHead_ghost hT l _ _ m hp' h2 (hC.putO h1 arep_undef) (hA.ghost _ _ p2)
    · cases h

def noSelect (o : Oper) : Bool := match o.op with | .select .. => false | _ => true
/-- The chain is in order; no operation looks at what a later one writes. -/
def chainOk (ops : Array Oper) (ce : List Nat) (dep : Nat) : Bool :=
  (List.range ops.size).all fun i => (ce.elem i || ((ops[i]?).map plainOp).getD true) && ((ops[i]?).map noSelect).getD true &&
    (List.range ops.size).all fun j => (j < i || match dstAt ops j with | none => true | some t => !(looksAt ops i).elem t) && (!(ce.elem i && ce.elem j && decide (j < i)) || (clo ops dep i).elem j)
def quietOf (ops : Array Oper) (ce : List Nat) : List Oper := (List.range ops.size).filterMap fun i => if ce.elem i then none else ops[i]?

structure ChainFacts (ops : Array Oper) (ce : List Nat) (dep : Nat) : Prop where
  plain : ∀ (i : Nat) (o : Oper), ops[i]? = some o → i ∉ ce → plainOp o = true
  sel : ∀ (i : Nat) (o : Oper), ops[i]? = some o → ∀ cs b, o.op ≠ .select cs b
  later : ∀ i j t, i < ops.size → j < ops.size → i ≤ j → dstAt ops j = some t → t ∉ looksAt ops i
  chain : ∀ i j, i < ops.size → j < ops.size → i ∈ ce → j ∈ ce → j < i → j ∈ clo ops dep i
theorem chainFacts {ops : Array Oper} {ce : List Nat} {dep : Nat} (h : chainOk ops ce dep = true) : ChainFacts ops ce dep := by
  unfold chainOk at h
  simp only [List.all_eq_true, List.mem_range, Bool.and_eq_true] at h
  refine ⟨fun i o ho hi => ?_, fun i o ho cs b hb => ?_, fun i j t hi hj hij ht hl => ?_, fun i j hi hj h1 h2 hlt => ?_⟩
  · have hin : i < ops.size := (Array.getElem?_eq_some_iff.1 ho).1
    have h1 := (h i hin).1.1
    rw [ho] at h1
    simp only [Option.map_some, Option.getD_some, Bool.or_eq_true] at h1
    rcases h1 with h1 | h1
    · exact absurd (by simpa using h1) hi
    · exact h1
  · have hin : i < ops.size := (Array.getElem?_eq_some_iff.1 ho).1
    have h1 := (h i hin).1.2
    rw [ho] at h1
    simp only [Option.map_some, Option.getD_some, noSelect, hb] at h1
    cases h1
  · have h1 := ((h i hi).2 j hj).1
    rw [ht] at h1
    simp only [Bool.or_eq_true, decide_eq_true_eq] at h1
    rcases h1 with h1 | h1
    · omega
    · have : (looksAt ops i).elem t = true := by simpa using hl
      rw [this] at h1
      cases h1
  · have h3 := ((h i hi).2 j hj).2
    have e1 : ce.elem i = true := by simpa using h1
    have e2 : ce.elem j = true := by simpa using h2
    rw [e1, e2] at h3
    simp only [hlt, decide_true, Bool.and_self, Bool.not_true, Bool.false_or] at h3
    simpa using h3

theorem AWP.drawC0 (hT : TabOk P T) (hm : P.follows .mixedOrders = true) {Q : Exit → St → Prop} {id : Nat} {ops : Array Oper} (ce : List Nat) (dep : Nat) (hord : ce.Pairwise (· < ·)) (hchk : drawOk ops ops.size dep = true) (hch : chainOk ops ce dep = true)
    (h : VHead P T ops (quietOf ops ce) s fun s' => VCh P T ops (quietOf ops ce) (ce.filterMap fun i => ops[i]?) s' (Q .normal)) : AWP P w0 m0 F0 (.region id ops true) Q s := by
  intro a w hc
  have F := drawFacts hchk
  have G := chainFacts hch
  obtain ⟨m, ω, hC⟩ := hc
  refine wp_region_any hm ?_
  have hg0 : ∀ i, (Array.replicate ops.size false).getD i false = false := fun i => by
    rw [Array.getD_eq_getD_getElem?, Array.getElem?_replicate]
    split <;> rfl
  let D : (Nat → Bool) → Nat → Prop := fun S d => ∃ i, i ∉ ce ∧ S i = false ∧ dstAt ops i = some d
  have hq : ∀ o, o ∈ quietOf ops ce ↔ ∃ i, i ∉ ce ∧ ops[i]? = some o := by
    intro o
    unfold quietOf
    simp only [List.mem_filterMap, List.mem_range]
    constructor
    · rintro ⟨i, hi, ho⟩
      split at ho
      · cases ho
      · rename_i hn
        exact ⟨i, by simpa using hn, ho⟩
    · rintro ⟨i, hi, ho⟩
      refine ⟨i, (Array.getElem?_eq_some_iff.1 ho).1, ?_⟩
      rw [if_neg (by simpa using hi)]
      exact ho
  refine draw_headE hT F (K := Q .normal) (Q := PostQ P w0 m0 F0 Q)
    (C := fun S a w => ∃ l1 l2 t, ce = l1 ++ l2 ∧ (∀ j ∈ l1, S j = true) ∧ (∀ j ∈ l2, S j = false) ∧ VCh P T ops (quietOf ops ce) (l2.filterMap fun i => ops[i]?) t (Q .normal) ∧ ∃ ag, Conc P w0 m0 F0 t ag w ∧ Agree (D S) a ag)
    (fun s a w h1 h2 => ⟨s, h1, h2⟩) (fun S i a w o ho hi hSi htl hcl hcl2 hC' K' Q' hK => ?_) (fun S a w hall htl hC' => ?_) ops.size _ a _ 0 (by omega) (by simp) ?_ ?_ ?_ ?_
  · obtain ⟨l1, l2, t, e1, e2, e3, hV, ag, ⟨m, ω, hA⟩, hag⟩ := hC'
    have hin : i < ops.size := (Array.getElem?_eq_some_iff.1 ho).1
    have hlook : ∀ t ∈ o.looksAt ops, ¬ D S t := by
      rintro t ht ⟨j, j1, j2, j3⟩
      have htl' : t ∈ looksAt ops i := by simpa [looksAt, ho] using ht
      have hjn : j < ops.size := by
        rcases Nat.lt_or_ge j ops.size with h | h
        · exact h
        · simp [dstAt, Array.getElem?_eq_none h] at j3
      rcases Nat.lt_or_ge j i with hlt | hge
      · have := hcl j ((F.reads i j t hin hjn (by omega) j3 htl').1 hlt)
        rw [j2] at this
        cases this
      · exact G.later i j t hin hjn hge j3 htl'
    have hsel := G.sel i o ho
    have hex := eval_agree hag hsel hlook
    have hwa := wanted_agree hag hlook
    rw [hwa]
    by_cases hic : i ∈ ce
    · -- the chain
      have hi2 : i ∈ l2 := by
        rw [e1] at hic
        rcases List.mem_append.1 hic with h | h
        · have := e2 i h; rw [hSi] at this; cases this
        · exact h
      obtain ⟨k, l2', rfl⟩ : ∃ k l2', l2 = k :: l2' := by
        cases l2 with
        | nil => cases hi2
        | cons k l => exact ⟨k, l, rfl⟩
      have hord2 : (k :: l2').Pairwise (· < ·) := by rw [e1] at hord; exact (List.pairwise_append.1 hord).2.1
      have hki : k = i := by
        rcases List.mem_cons.1 hi2 with h | h
        · exact h.symm
        · have hlt := (List.pairwise_cons.1 hord2).1 i h
          have := hcl k (G.chain i k hin (by omega) hic (by rw [e1]; simp) hlt)
          rw [e3 k (by simp)] at this
          cases this
      subst hki
      have hnot : ∀ j ∈ l2', j ≠ k := fun j hj e => by have := (List.pairwise_cons.1 hord2).1 j hj; omega
      simp only [List.filterMap_cons, ho] at hV
      have hV := hV.2
      have hDS : ∀ d, D (fun j => if j = k then true else S j) d ↔ D S d := by
        intro d
        constructor
        · rintro ⟨j, j1, j2, j3⟩
          have hjk : j ≠ k := fun e => j1 (e ▸ hic)
          exact ⟨j, j1, by simpa [hjk] using j2, j3⟩
        · rintro ⟨j, j1, j2, j3⟩
          have hjk : j ≠ k := fun e => j1 (e ▸ hic)
          exact ⟨j, j1, by simpa [hjk] using j2, j3⟩
      have hnext : ∀ t' ar ag' w', VCh P T ops (quietOf ops ce) (l2'.filterMap fun i => ops[i]?) t' (Q .normal) → Conc P w0 m0 F0 t' ag' w' → Agree (D S) ar ag' → K' ar w' := fun t' ar ag' w' h1 h2 h3 =>
        hK _ _ ⟨l1 ++ [k], l2', t', by rw [e1]; simp, fun j hj => by
          rcases List.mem_append.1 hj with h | h
          · simp only [e2 j h, ite_self]
          · have : j = k := by simpa using h
            simp [this], fun j hj => by simp only [hnot j hj, if_false]; exact e3 j (by simp [hj]), h1, ag', h2, ⟨h3.1, h3.2.1, fun d hd => h3.2.2 d fun h => hd ((hDS d).2 h)⟩⟩
      simp only [VOps] at hV
      split at hV
      · rename_i hg
        rw [if_pos (guardOf_sound hA hg)]
        exact .inl (wp_agree hex hag (VOp_sound hT hV hA _ _ fun s' a' w' h1 h2 ar har => hnext s' ar a' w' h1 h2 har))
      · rename_i hg
        rw [if_neg (by rw [guardOf_sound hA hg]; simp)]
        obtain ⟨h1, h2⟩ := pk_elim hV
        exact hnext _ _ (ag.put o.dst undef) w h2 ⟨m, ω, hA.putO h1 arep_undef⟩ (hag.put _ _)
      · cases hV
    · -- a quiet one
      have hst := Stable.get hV.stable ((hq o).2 ⟨i, hic, ho⟩)
      have hfin : ∀ v m', CI P w0 m0 F0 t (ag.put o.dst v) w m' ω → K' (a.put o.dst v) w := fun v m' h1 =>
        hK _ _ ⟨l1, l2, t, e1, fun j hj => by simp only [e2 j hj, ite_self], fun j hj => by
          have : j ≠ i := fun e => hic (by rw [e1]; simp [← e, hj])
          simp only [this, if_false]; exact e3 j hj, hV, ag.put o.dst v, ⟨m', ω, h1⟩, hag.putOf _ _ fun e h1 h2 => by
            obtain ⟨j, j1, j2, j3⟩ := h2
            by_cases hji : j = i
            · subst hji
              simpa [dstAt, ho] using j3
            · exact absurd ⟨j, j1, by simpa [hji] using j2, j3⟩ h1⟩
      split at hst
      · rename_i hg
        rw [if_pos (guardOf_sound hA hg)]
        obtain ⟨x, hx, hG⟩ := VVal_sound hT hst hA
        obtain ⟨v, m', hrun, hC2, hv⟩ := hG.2 (G.plain i o ho hic)
        refine .inl ?_
        unfold Oper.wp
        rw [hex, hrun, Oper.upon_value]
        exact hfin v m' (hC2.same hx hv)
      · rename_i hg
        rw [if_neg (by rw [guardOf_sound hA hg]; simp)]
        exact hfin _ m (hA.same hst arep_undef)
      · cases hst
  · obtain ⟨l1, l2, t, e1, e2, e3, hV, ag, hA, hag⟩ := hC'
    have hl2 : (l2.filterMap fun i => ops[i]?) = [] := by
      refine List.filterMap_eq_nil_iff.2 fun j hj => ?_
      rcases Nat.lt_or_ge j ops.size with h | h
      · have := hall j h
        rw [e3 j hj] at this
        cases this
      · exact Array.getElem?_eq_none h
    rw [hl2] at hV
    have hD : ∀ d, ¬ D S d := by
      rintro d ⟨j, j1, j2, j3⟩
      rcases Nat.lt_or_ge j ops.size with h | h
      · have := hall j h
        rw [j2] at this
        cases this
      · simp [dstAt, Array.getElem?_eq_none h] at j3
    have hea : ag = a := by
      obtain ⟨h1, h2, h3⟩ := hag
      cases ag
      cases a
      simp only at h1 h2 h3
      subst h1
      congr 1
      exact Array.ext_getElem? fun d => h3 d (hD d)
    subst hea
    refine ⟨t, ?_, hA⟩
    have hd : ops.toList.drop ops.size = [] := by apply List.drop_eq_nil_of_le; simp
    rw [hd]
    exact hV.2
  · rw [List.filter_eq_nil_iff.2 (fun i _ => by rw [hg0]; simp)]
    rfl
  · intro i _ hb
    rw [hg0] at hb
    cases hb
  · intro i _
    exact hg0 i
  · obtain ⟨s', ag, m', h1, h2, h3⟩ := VHead_ghost (D := D fun i => (Array.replicate ops.size false).getD i false) (a0 := a) hT _ s a m (fun o ho => by
      obtain ⟨i, hi, ho⟩ := (hq o).1 ho
      exact ⟨G.plain i o ho hi, fun d hd => ⟨i, hi, hg0 i, by simp [dstAt, ho, hd]⟩⟩) h hC.draw (Agree.refl _ _)
    exact ⟨[], ce, s', rfl, fun j hj => (by cases hj), fun j _ => hg0 j, h1, ag, ⟨m', ω, h2⟩, h3⟩

/-- Pieces of a list, each by its place and its length. -/
def segs (l : List Oper) : List (Nat × Nat) → List Oper
  | [] => []
  | p :: r => (l.drop p.1).take p.2 ++ segs l r
/-- The same, what follows kept out of sight. -/
theorem AWP.drawC (hT : TabOk P T) (hm : P.follows .mixedOrders = true) {Q : Exit → St → Prop} {id : Nat} {l : List Oper} (sq sc : List (Nat × Nat)) (ce : List Nat) (dep : Nat) (hord : ce.Pairwise (· < ·)) (hchk : drawOk l.toArray l.toArray.size dep = true) (hch : chainOk l.toArray ce dep = true)
    (h1 : quietOf l.toArray ce = segs l sq) (h2 : (ce.filterMap fun i => l.toArray[i]?) = segs l sc)
    (h : ∀ K2 : St → Prop, (∀ s', (∀ K : St → Prop, (∀ s', Q .normal s' → K s') → VCh P T l.toArray (segs l sq) (segs l sc) s' K) → K2 s') → VHead P T l.toArray (segs l sq) s K2) : AWP P w0 m0 F0 (.region id l.toArray true) Q s :=
  AWP.drawC0 hT hm ce dep hord hchk hch (by rw [h1, h2]; exact h _ fun s' h => h _ fun _ h => h)
theorem Stable_nil {ops : Array Oper} (t : St) : Stable P T ops [] t = True := rfl
theorem Stable_cons {ops : Array Oper} {d : Option Tmp} {op : Op} {ty : TypeId} {pos : String} {af : Array Edge} {l : List Oper} (t : St) : Stable P T ops (⟨d, op, ty, pos, af, Option.none⟩ :: l) t = (VVal P T ⟨d, op, ty, pos, af, Option.none⟩ t (sameA t d) ∧ Stable P T ops l t) := rfl
theorem topL_clo1 (kb kr : List Nat) (s : St) (f : FuncId) (i o : Nat) : topL kb kr s (.clo f [.ptr i o]) = .clo f [topL kb kr s (.ptr i o)] := rfl
theorem topL_clo2 (kb kr : List Nat) (s : St) (f : FuncId) (i o i' o' : Nat) : topL kb kr s (.clo f [.ptr i o, .ptr i' o']) = .clo f [topL kb kr s (.ptr i o), topL kb kr s (.ptr i' o')] := rfl
theorem sameA_some (t : St) (d : Nat) (y : A) : sameA t (some d) y = (d < t.n ∧ look t.env d = some y) := rfl
theorem sameA_none (t : St) (y : A) : sameA t Option.none y = True := rfl
end
end Go.Bw

namespace Go.Bw
variable {P : Program} {w0 : World} {m0 : Mem} {F0 : Home}

theorem St.le_keep (ts : List Nat) (s : St) : St.le ⟨s.n, keepL ts s.env, s.box, s.row⟩ s := by
  refine ⟨rfl, fun t x hx => ?_, fun _ _ h => h, fun _ _ h => h⟩
  simp only [look_keepL] at hx
  split at hx
  · exact hx
  · cases hx
theorem AWP.keep {Q : Exit → St → Prop} {s : St} {c : Code} (ts : List Nat) (h : AWP P w0 m0 F0 c Q ⟨s.n, keepL ts s.env, s.box, s.row⟩) : AWP P w0 m0 F0 c Q s :=
  AWP.weak (St.le_keep ts s) h

theorem frzCs_off {fr : L → L} {k c i : Nat} {r : L} (hk : k ≠ i) : ∀ (x : List L) (j : Nat), frzCs fr [(k, c, r)] i j x = x.map (L.frzN 4)
  | [], _ => rfl
  | l :: x, j => by
    rw [frzCs_cons, frzCs_off hk x (j + 1), List.map_cons]
    congr 1
    simp only [ovGet, hk, false_and, if_false, frzO]
theorem frzRs_off {fr : L → L} {α : Type} {e : α → List L} (he : ∀ x, (e x).map (L.frzN 4) = e x) {k c : Nat} {r : L} : ∀ (l : List α) (i : Nat), k < i → frzRs fr [(k, c, r)] i (l.map e) = l.map e
  | [], _, _ => rfl
  | x :: l, i, h => by
    rw [List.map_cons, frzRs_cons, frzRs_off he l (i + 1) (by omega), frzCs_off (by omega), he]
theorem frzRs_set {fr : L → L} {α : Type} {e : α → List L} (he : ∀ x, (e x).map (L.frzN 4) = e x) {c : Nat} {r : L} {y : List L} {z : α} : ∀ (l : List α) (k i : Nat), k < l.length → frzCs fr [(i + k, c, r)] (i + k) 0 y = e z →
    frzRs fr [(i + k, c, r)] i ((l.map e).set k y) = (l.set k z).map e
  | [], _, _, h, _ => by simp at h
  | x :: l, 0, i, _, hz => by
    simp only [List.map_cons, List.set_cons_zero, Nat.add_zero] at hz ⊢
    rw [frzRs_cons, frzRs_off he l (i + 1) (by omega), hz]
  | x :: l, k + 1, i, h, hz => by
    simp only [List.map_cons, List.set_cons_succ]
    rw [frzRs_cons, frzCs_off (by omega), he]
    have := frzRs_set he (fr := fr) (c := c) (r := r) (y := y) (z := z) l k (i + 1) (by simpa using h) (by rw [show i + 1 + k = i + (k + 1) by omega]; exact hz)
    rw [show i + 1 + k = i + (k + 1) by omega] at this
    rw [this]
end Go.Bw
