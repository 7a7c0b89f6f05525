/-
  THE LAYER: what the walks of the functions go by.
-/
import Derived.Test.YtmmbghbkpjmifaaDoorKD
import Derived.Lib.AppendZerosOnto
set_option linter.unusedSimpArgs false
set_option linter.unusedVariables false

namespace Go.Bw
open Go.RowKit

section
variable {P : Program} {w0 : World} {m0 : Mem} {s s' : St} {a : Act} {w : World} {m : Mem} {ω : Wh} {F0 : Home} {T : TypeId → Option TI}

/-- The acts differ at the slots of D at the most. -/
def Agree (D : Nat → Prop) (a ag : Act) : Prop := ag.defers = a.defers ∧ ag.tmps.size = a.tmps.size ∧ ∀ d, ¬ D d → ag.tmps[d]? = a.tmps[d]?
theorem Agree.refl (D : Nat → Prop) (a : Act) : Agree D a a := ⟨rfl, rfl, fun _ _ => rfl⟩
theorem Agree.put {D : Nat → Prop} {a ag : Act} (h : Agree D a ag) (d : Option Tmp) (v : Value) : Agree D (a.put d v) (ag.put d v) := by
  cases d with
  | none => exact h
  | some d =>
    refine ⟨h.1, by simpa [Act.put] using h.2.1, fun e he => ?_⟩
    simp only [Act.put, Array.getElem?_setIfInBounds, h.2.1, h.2.2 e he]
theorem Agree.putOf {D D' : Nat → Prop} {a ag : Act} (h : Agree D a ag) (d : Option Tmp) (v : Value) (hD : ∀ e, ¬ D' e → D e → d = some e) : Agree D' (a.put d v) (ag.put d v) := by
  cases d with
  | none =>
    refine ⟨h.1, h.2.1, fun e he => h.2.2 e fun hd => ?_⟩
    cases hD e he hd
  | some d =>
    refine ⟨h.1, by simpa [Act.put] using h.2.1, fun e he => ?_⟩
    simp only [Act.put, Array.getElem?_setIfInBounds, h.2.1]
    by_cases hde : d = e
    · simp [hde]
    · rw [if_neg hde, if_neg hde]
      exact h.2.2 e fun hd => hde (by have := hD e he hd; injection this)
theorem Agree.ghost {D : Nat → Prop} {a ag : Act} (h : Agree D a ag) (d : Option Tmp) (v : Value) (hD : ∀ e, d = some e → D e) : Agree D a (ag.put d v) := by
  cases d with
  | none => exact h
  | some d =>
    refine ⟨h.1, by simpa [Act.put] using h.2.1, fun e he => ?_⟩
    have hde : d ≠ e := fun hh => he (hD e (by rw [hh]))
    simp only [Act.put, Array.getElem?_setIfInBounds, if_neg hde, h.2.2 e he]

theorem wp_agree {D : Nat → Prop} {o : Oper} {a ag : Act} {next : Act → World → Prop} {Q : Exit → Act → World → Prop} (he : execOp a.eval o = execOp ag.eval o) (hA : Agree D a ag)
    (h : o.wp P ag w (fun a' w' => ∀ ar, Agree D ar a' → next ar w') (fun e a' w' => ∀ ar, Agree D ar a' → Q e ar w')) : o.wp P a w next Q := by
  unfold Oper.wp at h ⊢
  rw [he]
  unfold Oper.upon at h ⊢
  split at h
  · exact h _ (hA.put _ _)
  · exact h _ (hA.put _ _)
  · rename_i d w1 _
    have h1 : Agree D { a with defers := d :: a.defers } { ag with defers := d :: ag.defers } := ⟨by show d :: ag.defers = d :: a.defers; rw [hA.1], hA.2.1, hA.2.2⟩
    exact h _ (h1.put _ _)
  · refine h.mono fun e w' hr => ?_
    cases e with
    | returned v => exact hr _ (hA.put _ _)
    | panicked c => exact hr _ hA
    | outgrown =>
      obtain ⟨a1, w1, h1⟩ := hr
      exact ⟨a1, w1, h1 _ (Agree.refl _ _)⟩
  · exact h.mono fun v w' hr => hr _ (hA.put _ _)
  · exact h _ hA
  · exact h.elim

theorem eval_agree {D : Nat → Prop} {ops : Array Oper} {o : Oper} {a ag : Act} (hA : Agree D a ag) (hs : ∀ cs b, o.op ≠ .select cs b) (hl : ∀ t ∈ o.looksAt ops, ¬ D t) : execOp a.eval o = execOp ag.eval o := by
  refine execOp_congr o hs fun x hx => ?_
  cases x with
  | tmp t =>
    have := hA.2.2 t (hl t (operand_looks (by simpa using hx)))
    simp only [Act.eval, Array.getD_eq_getD_getElem?, this]
  | _ => rfl
theorem wanted_agree {D : Nat → Prop} {ops : Array Oper} {o : Oper} {a ag : Act} (hA : Agree D a ag) (hl : ∀ t ∈ o.looksAt ops, ¬ D t) : Region.wanted o (yielded ops a.tmps) = Region.wanted o (yielded ops ag.tmps) := by
  unfold Region.wanted
  cases hg : o.guard with
  | none => rfl
  | some p =>
    obtain ⟨j, b⟩ := p
    have : yielded ops a.tmps j = yielded ops ag.tmps j := by
      unfold yielded
      cases hd : (ops[j]?).bind (·.dst) with
      | none => rfl
      | some t =>
        have := hA.2.2 t (hl t (by simp [Oper.looksAt, hg, hd]))
        simp only [Option.bind_some, this]
    simp only [this]

def sameA (t : St) (d : Option Tmp) (y : A) : Prop := match d with | some d => d < t.n ∧ look t.env d = some y | none => True
theorem CI.same (h : CI P w0 m0 F0 s a w m ω) {d : Option Tmp} {y : A} {v : Value} (hs : sameA s d y) (hv : ARep m ω v y) : CI P w0 m0 F0 s (a.put d v) w m ω := by
  cases d with
  | none => exact h
  | some d =>
    obtain ⟨h1, h2⟩ := hs
    refine (h.put h1 hv).ext rfl (fun t => ?_) rfl rfl
    show look s.env t = if d = t then some y else look s.env t
    split
    · rename_i e; subst e; exact h2
    · rfl
/-- At this state the quiet operations give what their slots hold. -/
def Stable (P : Program) (T : TypeId → Option TI) (ops : Array Oper) : List Oper → St → Prop
  | [], _ => True
  | o :: l, t => (match guardOf ops t o with | some true => VVal P T o t (sameA t o.dst) | some false => sameA t o.dst (.tup []) | none => False) ∧ Stable P T ops l t
theorem Stable.get {ops : Array Oper} {t : St} {o : Oper} : ∀ {l : List Oper}, Stable P T ops l t → o ∈ l → (match guardOf ops t o with | some true => VVal P T o t (sameA t o.dst) | some false => sameA t o.dst (.tup []) | none => False)
  | x :: l, h, ho => by
    rcases List.mem_cons.1 ho with rfl | ho
    · exact h.1
    · exact Stable.get h.2 ho
/-- The chain, one after the other; in between the quiet operations stay what they are. -/
def VCh (P : Program) (T : TypeId → Option TI) (ops : Array Oper) (lq : List Oper) : List Oper → St → (St → Prop) → Prop
  | [], t, K => Stable P T ops lq t ∧ K t
  | o :: l, t, K => Stable P T ops lq t ∧ VOps P T ops [o] t (fun t' => VCh P T ops lq l t' K)
theorem VCh.stable {ops : Array Oper} {lq l : List Oper} {t : St} {K : St → Prop} (h : VCh P T ops lq l t K) : Stable P T ops lq t := by
  cases l <;> exact h.1
theorem VCh.step {ops : Array Oper} {lq l : List Oper} {o : Oper} {t : St} {K : St → Prop} (h1 : Stable P T ops lq t) (h2 : ∀ K2 : St → Prop, (∀ t', VCh P T ops lq l t' K → K2 t') → VOps P T ops [o] t K2) : VCh P T ops lq (o :: l) t K :=
  ⟨h1, h2 _ fun _ h => h⟩

theorem VHead_ghost (hT : TabOk P T) {ops : Array Oper} {K : St → Prop} {D : Nat → Prop} {a0 : Act} : ∀ (l : List Oper) (s : St) (a : Act) (m : Mem), (∀ o ∈ l, plainOp o = true ∧ ∀ d, o.dst = some d → D d) → VHead P T ops l s K → CI P w0 m0 F0 s a w m ω → Agree D a0 a →
    ∃ s' ag m', K s' ∧ CI P w0 m0 F0 s' ag w m' ω ∧ Agree D a0 ag
  | [], s, a, m, _, h, hC, hA => ⟨s, a, m, h, hC, hA⟩
  | o :: l, s, a, m, hp, h, hC, hA => by
    obtain ⟨p1, p2⟩ := hp o (by simp)
    have hp' : ∀ o ∈ l, plainOp o = true ∧ ∀ d, o.dst = some d → D d := fun o ho => hp o (by simp [ho])
    simp only [VHead] at h
    split at h
    · obtain ⟨x, hx, hG⟩ := VVal_sound hT h hC
      obtain ⟨h1, h2⟩ := pk_elim hx
      obtain ⟨v, m', _, hC', hv⟩ := hG.2 p1
      exact VHead_ghost hT l _ _ m' hp' h2 (hC'.putO h1 hv) (hA.ghost _ _ p2)
    · obtain ⟨h1, h2⟩ := pk_elim h
      exact VHead_ghost hT l _ _ m hp' h2 (hC.putO h1 arep_undef) (hA.ghost _ _ p2)
    · cases h

def noSelect (o : Oper) : Bool := match o.op with | .select .. => false | _ => true
/-- The chain is in order; no operation looks at what a later one writes. -/
def chainOk (ops : Array Oper) (ce : List Nat) (dep : Nat) : Bool :=
  (List.range ops.size).all fun i => (ce.elem i || ((ops[i]?).map plainOp).getD true) && ((ops[i]?).map noSelect).getD true &&
    (List.range ops.size).all fun j => (j < i || match dstAt ops j with | none => true | some t => !(looksAt ops i).elem t) && (!(ce.elem i && ce.elem j && decide (j < i)) || (clo ops dep i).elem j)
def quietOf (ops : Array Oper) (ce : List Nat) : List Oper := (List.range ops.size).filterMap fun i => if ce.elem i then none else ops[i]?

structure ChainFacts (ops : Array Oper) (ce : List Nat) (dep : Nat) : Prop where
  plain : ∀ (i : Nat) (o : Oper), ops[i]? = some o → i ∉ ce → plainOp o = true
  sel : ∀ (i : Nat) (o : Oper), ops[i]? = some o → ∀ cs b, o.op ≠ .select cs b
  later : ∀ i j t, i < ops.size → j < ops.size → i ≤ j → dstAt ops j = some t → t ∉ looksAt ops i
  chain : ∀ i j, i < ops.size → j < ops.size → i ∈ ce → j ∈ ce → j < i → j ∈ clo ops dep i
theorem chainFacts {ops : Array Oper} {ce : List Nat} {dep : Nat} (h : chainOk ops ce dep = true) : ChainFacts ops ce dep := by
  unfold chainOk at h
  simp only [List.all_eq_true, List.mem_range, Bool.and_eq_true] at h
  refine ⟨fun i o ho hi => ?_, fun i o ho cs b hb => ?_, fun i j t hi hj hij ht hl => ?_, fun i j hi hj h1 h2 hlt => ?_⟩
  · have hin : i < ops.size := (Array.getElem?_eq_some_iff.1 ho).1
    have h1 := (h i hin).1.1
    rw [ho] at h1
    simp only [Option.map_some, Option.getD_some, Bool.or_eq_true] at h1
    rcases h1 with h1 | h1
    · exact absurd (by simpa using h1) hi
    · exact h1
  · have hin : i < ops.size := (Array.getElem?_eq_some_iff.1 ho).1
    have h1 := (h i hin).1.2
    rw [ho] at h1
    simp only [Option.map_some, Option.getD_some, noSelect, hb] at h1
    cases h1
  · have h1 := ((h i hi).2 j hj).1
    rw [ht] at h1
    simp only [Bool.or_eq_true, decide_eq_true_eq] at h1
    rcases h1 with h1 | h1
    · omega
    · have : (looksAt ops i).elem t = true := by simpa using hl
      rw [this] at h1
      cases h1
  · have h3 := ((h i hi).2 j hj).2
    have e1 : ce.elem i = true := by simpa using h1
    have e2 : ce.elem j = true := by simpa using h2
    rw [e1, e2] at h3
    simp only [hlt, decide_true, Bool.and_self, Bool.not_true, Bool.false_or] at h3
    simpa using h3

theorem AWP.drawC0 (hT : TabOk P T) (hm : P.follows .mixedOrders = true) {Q : Exit → St → Prop} {id : Nat} {ops : Array Oper} (ce : List Nat) (dep : Nat) (hord : ce.Pairwise (· < ·)) (hchk : drawOk ops ops.size dep = true) (hch : chainOk ops ce dep = true)
    (h : VHead P T ops (quietOf ops ce) s fun s' => VCh P T ops (quietOf ops ce) (ce.filterMap fun i => ops[i]?) s' (Q .normal)) : AWP P w0 m0 F0 (.region id ops true) Q s := by
  intro a w hc
  have F := drawFacts hchk
  have G := chainFacts hch
  obtain ⟨m, ω, hC⟩ := hc
  refine wp_region_any hm ?_
  have hg0 : ∀ i, (Array.replicate ops.size false).getD i false = false := fun i => by
    rw [Array.getD_eq_getD_getElem?, Array.getElem?_replicate]
    split <;> rfl
  let D : (Nat → Bool) → Nat → Prop := fun S d => ∃ i, i ∉ ce ∧ S i = false ∧ dstAt ops i = some d
  have hq : ∀ o, o ∈ quietOf ops ce ↔ ∃ i, i ∉ ce ∧ ops[i]? = some o := by
    intro o
    unfold quietOf
    simp only [List.mem_filterMap, List.mem_range]
    constructor
    · rintro ⟨i, hi, ho⟩
      split at ho
      · cases ho
      · rename_i hn
        exact ⟨i, by simpa using hn, ho⟩
    · rintro ⟨i, hi, ho⟩
      refine ⟨i, (Array.getElem?_eq_some_iff.1 ho).1, ?_⟩
      rw [if_neg (by simpa using hi)]
      exact ho
  refine draw_headE hT F (K := Q .normal) (Q := PostQ P w0 m0 F0 Q)
    (C := fun S a w => ∃ l1 l2 t, ce = l1 ++ l2 ∧ (∀ j ∈ l1, S j = true) ∧ (∀ j ∈ l2, S j = false) ∧ VCh P T ops (quietOf ops ce) (l2.filterMap fun i => ops[i]?) t (Q .normal) ∧ ∃ ag, Conc P w0 m0 F0 t ag w ∧ Agree (D S) a ag)
    (fun s a w h1 h2 => ⟨s, h1, h2⟩) (fun S i a w o ho hi hSi htl hcl hcl2 hC' K' Q' hK => ?_) (fun S a w hall htl hC' => ?_) ops.size _ a _ 0 (by omega) (by simp) ?_ ?_ ?_ ?_
  · obtain ⟨l1, l2, t, e1, e2, e3, hV, ag, ⟨m, ω, hA⟩, hag⟩ := hC'
    have hin : i < ops.size := (Array.getElem?_eq_some_iff.1 ho).1
    have hlook : ∀ t ∈ o.looksAt ops, ¬ D S t := by
      rintro t ht ⟨j, j1, j2, j3⟩
      have htl' : t ∈ looksAt ops i := by simpa [looksAt, ho] using ht
      have hjn : j < ops.size := by
        rcases Nat.lt_or_ge j ops.size with h | h
        · exact h
        · simp [dstAt, Array.getElem?_eq_none h] at j3
      rcases Nat.lt_or_ge j i with hlt | hge
      · have := hcl j ((F.reads i j t hin hjn (by omega) j3 htl').1 hlt)
        rw [j2] at this
        cases this
      · exact G.later i j t hin hjn hge j3 htl'
    have hsel := G.sel i o ho
    have hex := eval_agree hag hsel hlook
    have hwa := wanted_agree hag hlook
    rw [hwa]
    by_cases hic : i ∈ ce
    · -- the chain
      have hi2 : i ∈ l2 := by
        rw [e1] at hic
        rcases List.mem_append.1 hic with h | h
        · have := e2 i h; rw [hSi] at this; cases this
        · exact h
      obtain ⟨k, l2', rfl⟩ : ∃ k l2', l2 = k :: l2' := by
        cases l2 with
        | nil => cases hi2
        | cons k l => exact ⟨k, l, rfl⟩
      have hord2 : (k :: l2').Pairwise (· < ·) := by rw [e1] at hord; exact (List.pairwise_append.1 hord).2.1
      have hki : k = i := by
        rcases List.mem_cons.1 hi2 with h | h
        · exact h.symm
        · have hlt := (List.pairwise_cons.1 hord2).1 i h
          have := hcl k (G.chain i k hin (by omega) hic (by rw [e1]; simp) hlt)
          rw [e3 k (by simp)] at this
          cases this
      subst hki
      have hnot : ∀ j ∈ l2', j ≠ k := fun j hj e => by have := (List.pairwise_cons.1 hord2).1 j hj; omega
      simp only [List.filterMap_cons, ho] at hV
      have hV := hV.2
      have hDS : ∀ d, D (fun j => if j = k then true else S j) d ↔ D S d := by
        intro d
        constructor
        · rintro ⟨j, j1, j2, j3⟩
          have hjk : j ≠ k := fun e => j1 (e ▸ hic)
          exact ⟨j, j1, by simpa [hjk] using j2, j3⟩
        · rintro ⟨j, j1, j2, j3⟩
          have hjk : j ≠ k := fun e => j1 (e ▸ hic)
          exact ⟨j, j1, by simpa [hjk] using j2, j3⟩
      have hnext : ∀ t' ar ag' w', VCh P T ops (quietOf ops ce) (l2'.filterMap fun i => ops[i]?) t' (Q .normal) → Conc P w0 m0 F0 t' ag' w' → Agree (D S) ar ag' → K' ar w' := fun t' ar ag' w' h1 h2 h3 =>
        hK _ _ ⟨l1 ++ [k], l2', t', by rw [e1]; simp, fun j hj => by
          rcases List.mem_append.1 hj with h | h
          · simp only [e2 j h, ite_self]
          · have : j = k := by simpa using h
            simp [this], fun j hj => by simp only [hnot j hj, if_false]; exact e3 j (by simp [hj]), h1, ag', h2, ⟨h3.1, h3.2.1, fun d hd => h3.2.2 d fun h => hd ((hDS d).2 h)⟩⟩
      simp only [VOps] at hV
      split at hV
      · rename_i hg
        rw [if_pos (guardOf_sound hA hg)]
        exact .inl (wp_agree hex hag (VOp_sound hT hV hA _ _ fun s' a' w' h1 h2 ar har => hnext s' ar a' w' h1 h2 har))
      · rename_i hg
        rw [if_neg (by rw [guardOf_sound hA hg]; simp)]
        obtain ⟨h1, h2⟩ := pk_elim hV
        exact hnext _ _ (ag.put o.dst undef) w h2 ⟨m, ω, hA.putO h1 arep_undef⟩ (hag.put _ _)
      · cases hV
    · -- a quiet one
      have hst := Stable.get hV.stable ((hq o).2 ⟨i, hic, ho⟩)
      have hfin : ∀ v m', CI P w0 m0 F0 t (ag.put o.dst v) w m' ω → K' (a.put o.dst v) w := fun v m' h1 =>
        hK _ _ ⟨l1, l2, t, e1, fun j hj => by simp only [e2 j hj, ite_self], fun j hj => by
          have : j ≠ i := fun e => hic (by rw [e1]; simp [← e, hj])
          simp only [this, if_false]; exact e3 j hj, hV, ag.put o.dst v, ⟨m', ω, h1⟩, hag.putOf _ _ fun e h1 h2 => by
            obtain ⟨j, j1, j2, j3⟩ := h2
            by_cases hji : j = i
            · subst hji
              simpa [dstAt, ho] using j3
            · exact absurd ⟨j, j1, by simpa [hji] using j2, j3⟩ h1⟩
      split at hst
      · rename_i hg
        rw [if_pos (guardOf_sound hA hg)]
        obtain ⟨x, hx, hG⟩ := VVal_sound hT hst hA
        obtain ⟨v, m', hrun, hC2, hv⟩ := hG.2 (G.plain i o ho hic)
        refine .inl ?_
        unfold Oper.wp
        rw [hex, hrun, Oper.upon_value]
        exact hfin v m' (hC2.same hx hv)
      · rename_i hg
        rw [if_neg (by rw [guardOf_sound hA hg]; simp)]
        exact hfin _ m (hA.same hst arep_undef)
      · cases hst
  · obtain ⟨l1, l2, t, e1, e2, e3, hV, ag, hA, hag⟩ := hC'
    have hl2 : (l2.filterMap fun i => ops[i]?) = [] := by
      refine List.filterMap_eq_nil_iff.2 fun j hj => ?_
      rcases Nat.lt_or_ge j ops.size with h | h
      · have := hall j h
        rw [e3 j hj] at this
        cases this
      · exact Array.getElem?_eq_none h
    rw [hl2] at hV
    have hD : ∀ d, ¬ D S d := by
      rintro d ⟨j, j1, j2, j3⟩
      rcases Nat.lt_or_ge j ops.size with h | h
      · have := hall j h
        rw [j2] at this
        cases this
      · simp [dstAt, Array.getElem?_eq_none h] at j3
    have hea : ag = a := by
      obtain ⟨h1, h2, h3⟩ := hag
      cases ag
      cases a
      simp only at h1 h2 h3
      subst h1
      congr 1
      exact Array.ext_getElem? fun d => h3 d (hD d)
    subst hea
    refine ⟨t, ?_, hA⟩
    have hd : ops.toList.drop ops.size = [] := by apply List.drop_eq_nil_of_le; simp
    rw [hd]
    exact hV.2
  · rw [List.filter_eq_nil_iff.2 (fun i _ => by rw [hg0]; simp)]
    rfl
  · intro i _ hb
    rw [hg0] at hb
    cases hb
  · intro i _
    exact hg0 i
  · obtain ⟨s', ag, m', h1, h2, h3⟩ := VHead_ghost (D := D fun i => (Array.replicate ops.size false).getD i false) (a0 := a) hT _ s a m (fun o ho => by
      obtain ⟨i, hi, ho⟩ := (hq o).1 ho
      exact ⟨G.plain i o ho hi, fun d hd => ⟨i, hi, hg0 i, by simp [dstAt, ho, hd]⟩⟩) h hC.draw (Agree.refl _ _)
    exact ⟨[], ce, s', rfl, fun j hj => (by cases hj), fun j _ => hg0 j, h1, ag, ⟨m', ω, h2⟩, h3⟩

/-- Pieces of a list, each by its place and its length. -/
def segs (l : List Oper) : List (Nat × Nat) → List Oper
  | [] => []
  | p :: r => (l.drop p.1).take p.2 ++ segs l r
/-- The same, what follows kept out of sight. -/
theorem AWP.drawC (hT : TabOk P T) (hm : P.follows .mixedOrders = true) {Q : Exit → St → Prop} {id : Nat} {l : List Oper} (sq sc : List (Nat × Nat)) (ce : List Nat) (dep : Nat) (hord : ce.Pairwise (· < ·)) (hchk : drawOk l.toArray l.toArray.size dep = true) (hch : chainOk l.toArray ce dep = true)
    (h1 : quietOf l.toArray ce = segs l sq) (h2 : (ce.filterMap fun i => l.toArray[i]?) = segs l sc)
    (h : ∀ K2 : St → Prop, (∀ s', (∀ K : St → Prop, (∀ s', Q .normal s' → K s') → VCh P T l.toArray (segs l sq) (segs l sc) s' K) → K2 s') → VHead P T l.toArray (segs l sq) s K2) : AWP P w0 m0 F0 (.region id l.toArray true) Q s :=
  AWP.drawC0 hT hm ce dep hord hchk hch (by rw [h1, h2]; exact h _ fun s' h => h _ fun _ h => h)
theorem Stable_nil {ops : Array Oper} (t : St) : Stable P T ops [] t = True := rfl
theorem Stable_cons {ops : Array Oper} {d : Option Tmp} {op : Op} {ty : TypeId} {pos : String} {af : Array Edge} {l : List Oper} (t : St) : Stable P T ops (⟨d, op, ty, pos, af, Option.none⟩ :: l) t = (VVal P T ⟨d, op, ty, pos, af, Option.none⟩ t (sameA t d) ∧ Stable P T ops l t) := rfl
theorem topL_clo1 (kb kr : List Nat) (s : St) (f : FuncId) (i o : Nat) : topL kb kr s (.clo f [.ptr i o]) = .clo f [topL kb kr s (.ptr i o)] := rfl
theorem topL_clo2 (kb kr : List Nat) (s : St) (f : FuncId) (i o i' o' : Nat) : topL kb kr s (.clo f [.ptr i o, .ptr i' o']) = .clo f [topL kb kr s (.ptr i o), topL kb kr s (.ptr i' o')] := rfl
theorem sameA_some (t : St) (d : Nat) (y : A) : sameA t (some d) y = (d < t.n ∧ look t.env d = some y) := rfl
theorem sameA_none (t : St) (y : A) : sameA t Option.none y = True := rfl
end
end Go.Bw

namespace Go.Bw
variable {P : Program} {w0 : World} {m0 : Mem} {F0 : Home}

theorem St.le_keep (ts : List Nat) (s : St) : St.le ⟨s.n, keepL ts s.env, s.box, s.row⟩ s := by
  refine ⟨rfl, fun t x hx => ?_, fun _ _ h => h, fun _ _ h => h⟩
  simp only [look_keepL] at hx
  split at hx
  · exact hx
  · cases hx
theorem AWP.keep {Q : Exit → St → Prop} {s : St} {c : Code} (ts : List Nat) (h : AWP P w0 m0 F0 c Q ⟨s.n, keepL ts s.env, s.box, s.row⟩) : AWP P w0 m0 F0 c Q s :=
  AWP.weak (St.le_keep ts s) h

theorem frzCs_off {fr : L → L} {k c i : Nat} {r : L} (hk : k ≠ i) : ∀ (x : List L) (j : Nat), frzCs fr [(k, c, r)] i j x = x.map (L.frzN 4)
  | [], _ => rfl
  | l :: x, j => by
    rw [frzCs_cons, frzCs_off hk x (j + 1), List.map_cons]
    congr 1
    simp only [ovGet, hk, false_and, if_false, frzO]
theorem frzRs_off {fr : L → L} {α : Type} {e : α → List L} (he : ∀ x, (e x).map (L.frzN 4) = e x) {k c : Nat} {r : L} : ∀ (l : List α) (i : Nat), k < i → frzRs fr [(k, c, r)] i (l.map e) = l.map e
  | [], _, _ => rfl
  | x :: l, i, h => by
    rw [List.map_cons, frzRs_cons, frzRs_off he l (i + 1) (by omega), frzCs_off (by omega), he]
theorem frzRs_set {fr : L → L} {α : Type} {e : α → List L} (he : ∀ x, (e x).map (L.frzN 4) = e x) {c : Nat} {r : L} {y : List L} {z : α} : ∀ (l : List α) (k i : Nat), k < l.length → frzCs fr [(i + k, c, r)] (i + k) 0 y = e z →
    frzRs fr [(i + k, c, r)] i ((l.map e).set k y) = (l.set k z).map e
  | [], _, _, h, _ => by simp at h
  | x :: l, 0, i, _, hz => by
    simp only [List.map_cons, List.set_cons_zero, Nat.add_zero] at hz ⊢
    rw [frzRs_cons, frzRs_off he l (i + 1) (by omega), hz]
  | x :: l, k + 1, i, h, hz => by
    simp only [List.map_cons, List.set_cons_succ]
    rw [frzRs_cons, frzCs_off (by omega), he]
    have := frzRs_set he (fr := fr) (c := c) (r := r) (y := y) (z := z) l k (i + 1) (by simpa using h) (by rw [show i + 1 + k = i + (k + 1) by omega]; exact hz)
    rw [show i + 1 + k = i + (k + 1) by omega] at this
    rw [this]
end Go.Bw

namespace Go.Bw
open Go.RowKit
variable {P : Program} {T : TypeId → Option TI} {w0 : World} {m0 : Mem} {F0 : Home} {s : St} {ω : Wh}

def StabX (P : Program) (T : TypeId → Option TI) (ops : Array Oper) (t : St) (o : Oper) : Prop := match guardOf ops t o with
  | some true => ∃ x, sameA t o.dst x ∧ VVal P T o t (fun y => y = x)
  | some false => sameA t o.dst (.tup [])
  | none => False
theorem Stable.x {ops : Array Oper} {t : St} {l : List Oper} (h : Stable P T ops l t) : ∀ o ∈ l, StabX P T ops t o := by
  intro o ho
  have h1 := Stable.get h ho
  unfold StabX
  cases hg : guardOf ops t o with
  | none => rw [hg] at h1; exact h1.elim
  | some b =>
    rw [hg] at h1
    cases b with
    | true =>
      obtain ⟨x, h2, h3⟩ := VVal_pick h1
      exact ⟨x, h2, h3⟩
    | false => exact h1
/-- One link of the chain: the operation; the quiet ones that it sets free; those set free before that may still come. -/
structure Link where
  op : Oper
  free : List Oper
  rest : List Oper
def VCy (P : Program) (T : TypeId → Option TI) (ops : Array Oper) : List Link → St → (St → Prop) → Prop
  | [], t, K => K t
  | p :: l, t, K => VOps P T ops [p.op] t (fun t' => VHead P T ops p.free t' (fun t'' => Stable P T ops p.rest t'' ∧ VCy P T ops l t'' K))
def VCx (P : Program) (T : TypeId → Option TI) (ops : Array Oper) (lq : List Oper) (l : List Link) (t : St) (K : St → Prop) : Prop := (∀ o ∈ lq, StabX P T ops t o) ∧ VCy P T ops l t K
/-- All of the chain that this one must follow has been done. -/
def unl (ops : Array Oper) (ce : List Nat) (dep : Nat) (l1 : List Nat) (i : Nat) : Bool := ce.all fun j => !(clo ops dep i).elem j || l1.elem j
def pickO (ops : Array Oper) (p : Nat → Bool) : List Oper := (List.range ops.size).filterMap fun i => if p i then ops[i]? else none
theorem mem_pickO {ops : Array Oper} {p : Nat → Bool} {o : Oper} : o ∈ pickO ops p ↔ ∃ i, p i = true ∧ ops[i]? = some o := by
  unfold pickO
  simp only [List.mem_filterMap, List.mem_range]
  constructor
  · rintro ⟨i, hi, ho⟩
    split at ho
    · rename_i hn
      exact ⟨i, hn, ho⟩
    · cases ho
  · rintro ⟨i, hi, ho⟩
    refine ⟨i, (Array.getElem?_eq_some_iff.1 ho).1, ?_⟩
    rw [if_pos hi]
    exact ho
def quiet0 (ops : Array Oper) (ce : List Nat) (dep : Nat) : List Oper := pickO ops fun i => !ce.elem i && unl ops ce dep [] i
def quietNew (ops : Array Oper) (ce : List Nat) (dep : Nat) (l1 : List Nat) (k : Nat) : List Oper := pickO ops fun i => !ce.elem i && !unl ops ce dep l1 i && unl ops ce dep (l1 ++ [k]) i
def quietOld (ops : Array Oper) (ce : List Nat) (dep : Nat) (l1 : List Nat) (k : Nat) : List Oper := pickO ops fun i => !ce.elem i && unl ops ce dep l1 i && !(l1 ++ [k]).any fun j => (clo ops dep j).elem i
def quietAft (ops : Array Oper) (ce : List Nat) (dep : Nat) (l1 : List Nat) : List Oper := pickO ops fun i => !ce.elem i && unl ops ce dep l1 i && !l1.any fun j => (clo ops dep j).elem i
/-- The chain, each with what it sets free and with what may still come behind it. -/
def chainLs (ops : Array Oper) (ce : List Nat) (dep : Nat) : List Nat → List Nat → List Link
  | _, [] => []
  | l1, j :: l2 => (match ops[j]? with | some o => [⟨o, quietNew ops ce dep l1 j, quietOld ops ce dep l1 j⟩] | none => []) ++ chainLs ops ce dep (l1 ++ [j]) l2

def laterOk (ops : Array Oper) (o o' : Oper) : Prop := (∀ t ∈ o.looksAt ops, o'.dst ≠ some t) ∧ ∀ d, o.dst = some d → o'.dst ≠ some d
theorem steps_ghost (hT : TabOk P T) {ops : Array Oper} {w : World} {D : Nat → Prop} {a0 : Act} : ∀ (l : List Oper) (s : St) (ps : List (Option Tmp × A)) (a : Act) (m : Mem), (∀ o ∈ l, plainOp o = true ∧ ∀ d, o.dst = some d → D d) → ps.length = l.length →
    (∀ (i : Nat) (o : Oper), l[i]? = some o → ∃ x, ps[i]? = some (o.dst, x) ∧ StepOK P T ops (puts s (ps.take i)) o x) → CI P w0 m0 F0 s a w m ω → Agree D a0 a → ∃ ag m', CI P w0 m0 F0 (puts s ps) ag w m' ω ∧ Agree D a0 ag
  | [], s, ps, a, m, _, hl, _, hC, hA => by
    have : ps = [] := List.length_eq_zero_iff.1 (by simpa using hl)
    subst this
    exact ⟨a, m, hC, hA⟩
  | o :: l, s, ps, a, m, hp, hl, hs, hC, hA => by
    obtain ⟨p1, p2⟩ := hp o (by simp)
    obtain ⟨x, h1, h2⟩ := hs 0 o rfl
    cases ps with
    | nil => simp at h1
    | cons p ps =>
      simp only [List.getElem?_cons_zero, Option.some.injEq] at h1
      subst h1
      have hrest := fun (a : Act) (m : Mem) (hC : CI P w0 m0 F0 (s.putO o.dst x) a w m ω) (hA : Agree D a0 a) => steps_ghost hT l (s.putO o.dst x) ps a m (fun o ho => hp o (by simp [ho])) (by simpa using hl) (fun i o' ho' => by
        obtain ⟨y, h3, h4⟩ := hs (i + 1) o' (by simpa using ho')
        exact ⟨y, by simpa using h3, by simpa [puts] using h4⟩) hC hA
      simp only [List.take_zero, puts] at h2
      obtain ⟨h0, ⟨hg, hv⟩ | ⟨hg, rfl⟩⟩ := h2
      · obtain ⟨y, rfl, hG⟩ := VVal_sound hT hv hC
        obtain ⟨v, m', _, hC', hv'⟩ := hG.2 p1
        exact hrest _ m' (hC'.putO h0 hv') (hA.ghost _ _ p2)
      · exact hrest _ m (hC.putO h0 arep_undef) (hA.ghost _ _ p2)
theorem steps_stable {ops : Array Oper} {l : List Oper} {ps : List (Option Tmp × A)} {s : St} (hl : ps.length = l.length) (hp : l.Pairwise (laterOk ops)) (hself : ∀ o ∈ l, ∀ t ∈ o.looksAt ops, o.dst ≠ some t)
    (hs : ∀ (i : Nat) (o : Oper), l[i]? = some o → ∃ x, ps[i]? = some (o.dst, x) ∧ StepOK P T ops (puts s (ps.take i)) o x) :
    ∀ o ∈ l, StabX P T ops (puts s ps) o := by
  intro o ho
  obtain ⟨i, hi, rfl⟩ := List.mem_iff_getElem.1 ho
  obtain ⟨x, h1, h2⟩ := hs i l[i] (List.getElem?_eq_getElem hi)
  have hi' : i < ps.length := by omega
  have hpi : ps[i] = (l[i].dst, x) := by rw [List.getElem?_eq_getElem hi'] at h1; injection h1
  have hsplit : ps = ps.take i ++ (l[i].dst, x) :: ps.drop (i + 1) := by
    rw [← hpi, List.getElem_cons_drop, List.take_append_drop]
  have hdst : ∀ p ∈ ps.drop (i + 1), ∃ o', laterOk ops l[i] o' ∧ p.1 = o'.dst := by
    intro p hp'
    obtain ⟨k, hk, rfl⟩ := List.mem_iff_getElem.1 hp'
    rw [List.length_drop] at hk
    have hk' : i + 1 + k < l.length := by omega
    obtain ⟨y, h3, _⟩ := hs (i + 1 + k) l[i + 1 + k] (List.getElem?_eq_getElem hk')
    refine ⟨l[i + 1 + k], List.pairwise_iff_getElem.1 hp i (i + 1 + k) hi hk' (by omega), ?_⟩
    rw [List.getElem?_eq_getElem (by omega)] at h3
    injection h3 with h3
    rw [List.getElem_drop, h3]
  have hlook : ∀ t ∈ l[i].looksAt ops, look (puts s (ps.take i)).env t = look (puts s ps).env t := by
    intro t ht
    conv => rhs; rw [hsplit, puts_append]
    refine (look_puts_ne fun p hp' e => ?_).symm
    rcases List.mem_cons.1 hp' with rfl | hp'
    · exact hself _ ho t ht e
    · obtain ⟨o', h3, h4⟩ := hdst p hp'
      exact h3.1 t ht (h4 ▸ e)
  have hsame : sameA (puts s ps) l[i].dst x := by
    unfold sameA
    split
    · rename_i d hd
      have h0 := h2.1
      rw [hd] at h0
      refine ⟨by rw [puts_n]; have : d < (puts s (ps.take i)).n := h0; rwa [puts_n] at this, ?_⟩
      rw [hsplit, puts_append, puts, look_puts_ne fun p hp' e => by
        obtain ⟨o', h3, h4⟩ := hdst p hp'
        exact h3.2 d hd (h4 ▸ e)]
      rw [hd]
      show (if d = d then some x else _) = some x
      rw [if_pos rfl]
    · trivial
  unfold StabX
  rw [← guardOf_congr hlook]
  have hbox : (puts s (ps.take i)).box = (puts s ps).box := by rw [puts_box, puts_box]
  have hrow : (puts s ps).row = (puts s (ps.take i)).row := by rw [puts_row, puts_row]
  obtain ⟨_, ⟨hg, hv⟩ | ⟨hg, rfl⟩⟩ := h2
  · rw [hg]
    have hv2 := VVal_congr (s' := puts s ps) (fun id ls h => by rw [← hbox]; exact h) hrow (fun y hy ty => evalO_congr (fun t e => hlook t (operand_looks (e ▸ hy))) ty) hv
    exact ⟨x, hsame, hv2⟩
  · rw [hg]
    exact hsame

/-- The chain is in order; no operation looks at what a later quiet one writes; what is not in the chain is quiet. -/
def linkOk (ops : Array Oper) (ce : List Nat) (dep : Nat) : Bool :=
  (List.range ops.size).all fun i => (ce.elem i || ((ops[i]?).map plainOp).getD true) && ((ops[i]?).map noSelect).getD true &&
    (List.range ops.size).all fun j => (decide (j < i) || ce.elem j || match dstAt ops j with | none => true | some t => !(looksAt ops i).elem t) && (!(ce.elem i && ce.elem j && decide (j < i)) || (clo ops dep i).elem j)
structure LinkFacts (ops : Array Oper) (ce : List Nat) (dep : Nat) : Prop where
  plain : ∀ (i : Nat) (o : Oper), ops[i]? = some o → i ∉ ce → plainOp o = true
  sel : ∀ (i : Nat) (o : Oper), ops[i]? = some o → ∀ cs b, o.op ≠ .select cs b
  later : ∀ i j t, i < ops.size → j < ops.size → i ≤ j → j ∉ ce → dstAt ops j = some t → t ∉ looksAt ops i
  chain : ∀ i j, i < ops.size → j < ops.size → i ∈ ce → j ∈ ce → j < i → j ∈ clo ops dep i
theorem linkFacts {ops : Array Oper} {ce : List Nat} {dep : Nat} (h : linkOk ops ce dep = true) : LinkFacts ops ce dep := by
  unfold linkOk at h
  simp only [List.all_eq_true, List.mem_range, Bool.and_eq_true] at h
  refine ⟨fun i o ho hi => ?_, fun i o ho cs b hb => ?_, fun i j t hi hj hij hjc ht hl => ?_, fun i j hi hj h1 h2 hlt => ?_⟩
  · have hin : i < ops.size := (Array.getElem?_eq_some_iff.1 ho).1
    have h1 := (h i hin).1.1
    rw [ho] at h1
    simp only [Option.map_some, Option.getD_some, Bool.or_eq_true] at h1
    rcases h1 with h1 | h1
    · exact absurd (by simpa using h1) hi
    · exact h1
  · have hin : i < ops.size := (Array.getElem?_eq_some_iff.1 ho).1
    have h1 := (h i hin).1.2
    rw [ho] at h1
    simp only [Option.map_some, Option.getD_some, noSelect, hb] at h1
    cases h1
  · have h1 := ((h i hi).2 j hj).1
    rw [ht] at h1
    simp only [Bool.or_eq_true, decide_eq_true_eq] at h1
    rcases h1 with (h1 | h1) | h1
    · omega
    · exact hjc (by simpa using h1)
    · have : (looksAt ops i).elem t = true := by simpa using hl
      rw [this] at h1
      cases h1
  · have h3 := ((h i hi).2 j hj).2
    have e1 : ce.elem i = true := by simpa using h1
    have e2 : ce.elem j = true := by simpa using h2
    rw [e1, e2] at h3
    simp only [hlt, decide_true, Bool.and_self, Bool.not_true, Bool.false_or] at h3
    simpa using h3
theorem pickO_later {ops : Array Oper} {ce : List Nat} {dep : Nat} (F : DrawFacts ops ops.size dep) (G : LinkFacts ops ce dep) (p : Nat → Bool) (hp : ∀ i, p i = true → ce.elem i = false) : (pickO ops p).Pairwise (laterOk ops) ∧ ∀ o ∈ pickO ops p, ∀ t ∈ o.looksAt ops, o.dst ≠ some t := by
  constructor
  · unfold pickO
    refine List.Pairwise.filterMap _ (fun i j hij o ho o' ho' => ?_) List.pairwise_lt_range
    split at ho
    case isFalse => cases ho
    split at ho'
    case isFalse => cases ho'
    rename_i hpi hpj
    have hjc : j ∉ ce := by simpa using hp j hpj
    have hi : i < ops.size := (Array.getElem?_eq_some_iff.1 ho).1
    have hj : j < ops.size := (Array.getElem?_eq_some_iff.1 ho').1
    refine ⟨fun t ht e => ?_, fun d hd e => ?_⟩
    · exact G.later i j t hi hj (by omega) hjc (by simp [dstAt, ho', e]) (by simpa [looksAt, ho] using ht)
    · exact F.apart i j hi hj (by omega) d (by simp [dstAt, ho, hd]) (by simp [dstAt, ho', e])
  · intro o ho t ht e
    obtain ⟨i, hpi, ho⟩ := mem_pickO.1 ho
    have hi : i < ops.size := (Array.getElem?_eq_some_iff.1 ho).1
    have hic : i ∉ ce := by simpa using hp i hpi
    exact G.later i i t hi hi (Nat.le_refl _) hic (by simp [dstAt, ho, e]) (by simpa [looksAt, ho] using ht)
theorem unl_iff {ops : Array Oper} {ce : List Nat} {dep : Nat} {l1 : List Nat} {i : Nat} : unl ops ce dep l1 i = true ↔ ∀ j ∈ ce, j ∈ clo ops dep i → j ∈ l1 := by
  unfold unl
  simp only [List.all_eq_true, Bool.or_eq_true, Bool.not_eq_true', List.elem_eq_mem, decide_eq_false_iff_not, decide_eq_true_eq]
  exact forall₂_congr fun j _ => ⟨fun h h2 => h.resolve_left fun h3 => h3 h2, fun h => Decidable.or_iff_not_imp_left.2 fun h2 => h (Decidable.of_not_not h2)⟩
theorem AWP.drawX0 (hT : TabOk P T) (hm : P.follows .mixedOrders = true) {Q : Exit → St → Prop} {id : Nat} {ops : Array Oper} (ce : List Nat) (dep : Nat) (hord : ce.Pairwise (· < ·)) (hchk : drawOk ops ops.size dep = true) (hch : linkOk ops ce dep = true)
    (h : VHead P T ops (quiet0 ops ce dep) s fun s' => VCy P T ops (chainLs ops ce dep [] ce) s' (Q .normal)) : AWP P w0 m0 F0 (.region id ops true) Q s := by
  intro a w hc
  have F := drawFacts hchk
  have G := linkFacts hch
  obtain ⟨m, ω, hC⟩ := hc
  refine wp_region_any hm ?_
  have hg0 : ∀ i, (Array.replicate ops.size false).getD i false = false := fun i => by
    rw [Array.getD_eq_getD_getElem?, Array.getElem?_replicate]
    split <;> rfl
  let D : (Nat → Bool) → List Nat → Nat → Prop := fun S l1 d => ∃ i, i ∉ ce ∧ unl ops ce dep l1 i = true ∧ S i = false ∧ dstAt ops i = some d
  have hqa : ∀ (l1 : List Nat) (o : Oper) (i : Nat), i ∉ ce → ops[i]? = some o → unl ops ce dep l1 i = true → (∀ j ∈ l1, i ∉ clo ops dep j) → o ∈ quietAft ops ce dep l1 := by
    intro l1 o i hi ho hu hj
    refine mem_pickO.2 ⟨i, ?_, ho⟩
    have h1 : ce.elem i = false := by simpa using hi
    have h2 : (l1.any fun j => (clo ops dep j).elem i) = false := by
      rw [List.any_eq_false]
      intro j hj'
      simpa using hj j hj'
    rw [h1, h2, hu]
    rfl
  refine draw_headE hT F (K := Q .normal) (Q := PostQ P w0 m0 F0 Q)
    (C := fun S a w => ∃ l1 l2 t, ce = l1 ++ l2 ∧ (∀ j ∈ l1, S j = true) ∧ (∀ j ∈ l2, S j = false) ∧ VCx P T ops (quietAft ops ce dep l1) (chainLs ops ce dep l1 l2) t (Q .normal) ∧ ∃ ag, Conc P w0 m0 F0 t ag w ∧ Agree (D S l1) a ag)
    (fun s a w h1 h2 => ⟨s, h1, h2⟩) (fun S i a w o ho hi hSi htl hcl hcl2 hC' K' Q' hK => ?_) (fun S a w hall htl hC' => ?_) ops.size _ a _ 0 (by omega) (by simp) ?_ ?_ ?_ ?_
  · obtain ⟨l1, l2, t, e1, e2, e3, hV, ag, ⟨m, ω, hA⟩, hag⟩ := hC'
    have hin : i < ops.size := (Array.getElem?_eq_some_iff.1 ho).1
    have hdone : ∀ j ∈ ce, S j = true → j ∈ l1 := by
      intro j hj hSj
      rw [e1] at hj
      rcases List.mem_append.1 hj with h | h
      · exact h
      · rw [e3 j h] at hSj; cases hSj
    have hlook : ∀ t ∈ o.looksAt ops, ¬ D S l1 t := by
      rintro t ht ⟨j, j1, _, j2, j3⟩
      have htl' : t ∈ looksAt ops i := by simpa [looksAt, ho] using ht
      have hjn : j < ops.size := by
        rcases Nat.lt_or_ge j ops.size with h | h
        · exact h
        · simp [dstAt, Array.getElem?_eq_none h] at j3
      rcases Nat.lt_or_ge j i with hlt | hge
      · have := hcl j ((F.reads i j t hin hjn (by omega) j3 htl').1 hlt)
        rw [j2] at this
        cases this
      · exact G.later i j t hin hjn hge j1 j3 htl'
    have hsel := G.sel i o ho
    have hex := eval_agree hag hsel hlook
    have hwa := wanted_agree hag hlook
    rw [hwa]
    by_cases hic : i ∈ ce
    · -- the chain
      have hi2 : i ∈ l2 := by
        rw [e1] at hic
        rcases List.mem_append.1 hic with h | h
        · have := e2 i h; rw [hSi] at this; cases this
        · exact h
      obtain ⟨k, l2', rfl⟩ : ∃ k l2', l2 = k :: l2' := by
        cases l2 with
        | nil => cases hi2
        | cons k l => exact ⟨k, l, rfl⟩
      have hord2 : (k :: l2').Pairwise (· < ·) := by rw [e1] at hord; exact (List.pairwise_append.1 hord).2.1
      have hki : k = i := by
        rcases List.mem_cons.1 hi2 with h | h
        · exact h.symm
        · have hlt := (List.pairwise_cons.1 hord2).1 i h
          have := hcl k (G.chain i k hin (by omega) hic (by rw [e1]; simp) hlt)
          rw [e3 k (by simp)] at this
          cases this
      subst hki
      have hnot : ∀ j ∈ l2', j ≠ k := fun j hj e => by have := (List.pairwise_cons.1 hord2).1 j hj; omega
      have hV := hV.2
      simp only [chainLs, ho, List.cons_append, List.nil_append, VCy] at hV
      have hunew : ∀ i', i' ∉ ce → unl ops ce dep l1 i' = false → S i' = false := by
        intro i' _ hu
        cases hS : S i' with
        | false => rfl
        | true =>
          have : unl ops ce dep l1 i' = true := unl_iff.2 fun j hj hjc => hdone j hj (hcl2 i' hS j hjc)
          rw [hu] at this
          cases this
      have hDD : ∀ d, D S l1 d → D (fun j => if j = k then true else S j) (l1 ++ [k]) d := by
        rintro d ⟨j, j1, ju, j2, j3⟩
        have hjk : j ≠ k := fun e => j1 (e ▸ hic)
        exact ⟨j, j1, unl_iff.2 fun q hq hqc => List.mem_append_left _ (unl_iff.1 ju q hq hqc), by simpa [hjk] using j2, j3⟩
      have hnext : ∀ t' ar ag' w', VHead P T ops (quietNew ops ce dep l1 k) t' (fun t'' => Stable P T ops (quietOld ops ce dep l1 k) t'' ∧ VCy P T ops (chainLs ops ce dep (l1 ++ [k]) l2') t'' (Q .normal)) → Conc P w0 m0 F0 t' ag' w' → Agree (D S l1) ar ag' → K' ar w' := by
        rintro t' ar ag' w' h1 ⟨m2, ω2, h2⟩ h3
        obtain ⟨ps, hl, ⟨hst, hK2⟩, hs⟩ := VHead_chain _ _ h1
        obtain ⟨hidx, hself⟩ := pickO_later F G (fun i => !ce.elem i && !unl ops ce dep l1 i && unl ops ce dep (l1 ++ [k]) i) (fun i hi => by simp only [Bool.and_eq_true, Bool.not_eq_true'] at hi; exact hi.1.1)
        have hstab := steps_stable hl hidx hself hs
        have h3' : Agree (D (fun j => if j = k then true else S j) (l1 ++ [k])) ar ag' := ⟨h3.1, h3.2.1, fun d hd => h3.2.2 d fun h => hd (hDD d h)⟩
        obtain ⟨ag2, m', h4, h5⟩ := steps_ghost (D := D (fun j => if j = k then true else S j) (l1 ++ [k])) (a0 := ar) hT _ t' ps ag' m2 (fun o' ho' => by
          obtain ⟨i', hi', ho'⟩ := mem_pickO.1 ho'
          simp only [Bool.and_eq_true, Bool.not_eq_true', List.elem_eq_mem, decide_eq_false_iff_not] at hi'
          obtain ⟨⟨q1, q2⟩, q3⟩ := hi'
          have hik : i' ≠ k := fun e => q1 (e ▸ hic)
          exact ⟨G.plain i' o' ho' q1, fun d hd => ⟨i', q1, q3, by simpa [hik] using hunew i' q1 q2, by simp [dstAt, ho', hd]⟩⟩) hl hs h2 h3'
        refine hK _ _ ⟨l1 ++ [k], l2', puts t' ps, by rw [e1]; simp, fun j hj => ?_, fun j hj => ?_, ⟨fun o' ho' => ?_, hK2⟩, ag2, ⟨m', ω2, h4⟩, h5⟩
        · rcases List.mem_append.1 hj with h | h
          · simp only [e2 j h, ite_self]
          · have : j = k := by simpa using h
            simp [this]
        · simp only [hnot j hj, if_false]; exact e3 j (by simp [hj])
        · obtain ⟨i', hi', hoo⟩ := mem_pickO.1 ho'
          simp only [Bool.and_eq_true] at hi'
          obtain ⟨⟨q1, q2⟩, q3⟩ := hi'
          cases hu : unl ops ce dep l1 i' with
          | true => exact hst.x o' (mem_pickO.2 ⟨i', by simp only [q1, hu, q3, Bool.and_self], hoo⟩)
          | false => exact hstab o' (mem_pickO.2 ⟨i', by simp only [q1, hu, q2, Bool.not_false, Bool.and_self], hoo⟩)
      simp only [VOps] at hV
      split at hV
      · rename_i hg
        rw [if_pos (guardOf_sound hA hg)]
        exact .inl (wp_agree hex hag (VOp_sound hT hV hA _ _ fun s' a' w' h1 h2 ar har => hnext s' ar a' w' h1 h2 har))
      · rename_i hg
        rw [if_neg (by rw [guardOf_sound hA hg]; simp)]
        obtain ⟨h1, h2⟩ := pk_elim hV
        exact hnext _ _ (ag.put o.dst undef) w h2 ⟨m, ω, hA.putO h1 arep_undef⟩ (hag.put _ _)
      · cases hV
    · -- a quiet one
      have hun : unl ops ce dep l1 i = true := unl_iff.2 fun j hj hjc => hdone j hj (hcl j hjc)
      have hst := hV.1 o (hqa l1 o i hic ho hun fun j hj hij => by
        have := hcl2 j (e2 j hj) i hij
        rw [hSi] at this
        cases this)
      have hfin : ∀ v m', CI P w0 m0 F0 t (ag.put o.dst v) w m' ω → K' (a.put o.dst v) w := fun v m' h1 =>
        hK _ _ ⟨l1, l2, t, e1, fun j hj => by simp only [e2 j hj, ite_self], fun j hj => by
          have : j ≠ i := fun e => hic (by rw [e1]; simp [← e, hj])
          simp only [this, if_false]; exact e3 j hj, hV, ag.put o.dst v, ⟨m', ω, h1⟩, hag.putOf _ _ fun e h1 h2 => by
            obtain ⟨j, j1, ju, j2, j3⟩ := h2
            by_cases hji : j = i
            · subst hji
              simpa [dstAt, ho] using j3
            · exact absurd ⟨j, j1, ju, by simpa [hji] using j2, j3⟩ h1⟩
      unfold StabX at hst
      split at hst
      · rename_i hg
        rw [if_pos (guardOf_sound hA hg)]
        obtain ⟨y, hy, hst⟩ := hst
        obtain ⟨x, hx, hG⟩ := VVal_sound hT hst hA
        have hx : sameA t o.dst x := hx ▸ hy
        obtain ⟨v, m', hrun, hC2, hv⟩ := hG.2 (G.plain i o ho hic)
        refine .inl ?_
        unfold Oper.wp
        rw [hex, hrun, Oper.upon_value]
        exact hfin v m' (hC2.same hx hv)
      · rename_i hg
        rw [if_neg (by rw [guardOf_sound hA hg]; simp)]
        exact hfin _ m (hA.same hst arep_undef)
      · cases hst
  · obtain ⟨l1, l2, t, e1, e2, e3, hV, ag, hA, hag⟩ := hC'
    have hl2 : ∀ (l1 l2 : List Nat), (∀ j ∈ l2, ops[j]? = none) → chainLs ops ce dep l1 l2 = [] := by
      intro l1 l2
      induction l2 generalizing l1 with
      | nil => intro _; rfl
      | cons j l2 ih =>
        intro hj
        simp only [chainLs, hj j (by simp), List.nil_append]
        exact ih _ fun j' hj' => hj j' (by simp [hj'])
    have hl2 := hl2 l1 l2 fun j hj => by
      rcases Nat.lt_or_ge j ops.size with h | h
      · have := hall j h
        rw [e3 j hj] at this
        cases this
      · exact Array.getElem?_eq_none h
    rw [hl2] at hV
    have hD : ∀ d, ¬ D S l1 d := by
      rintro d ⟨j, j1, _, j2, j3⟩
      rcases Nat.lt_or_ge j ops.size with h | h
      · have := hall j h
        rw [j2] at this
        cases this
      · simp [dstAt, Array.getElem?_eq_none h] at j3
    have hea : ag = a := by
      obtain ⟨h1, h2, h3⟩ := hag
      cases ag
      cases a
      simp only at h1 h2 h3
      subst h1
      congr 1
      exact Array.ext_getElem? fun d => h3 d (hD d)
    subst hea
    refine ⟨t, ?_, hA⟩
    have hd : ops.toList.drop ops.size = [] := by apply List.drop_eq_nil_of_le; simp
    rw [hd]
    exact hV.2
  · rw [List.filter_eq_nil_iff.2 (fun i _ => by rw [hg0]; simp)]
    rfl
  · intro i _ hb
    rw [hg0] at hb
    cases hb
  · intro i _
    exact hg0 i
  · obtain ⟨ps, hl, hK, hs⟩ := VHead_chain _ _ h
    obtain ⟨hidx, hself⟩ := pickO_later F G (fun i => !ce.elem i && unl ops ce dep [] i) (fun i hi => by simp only [Bool.and_eq_true, Bool.not_eq_true'] at hi; exact hi.1)
    have hstab := steps_stable hl hidx hself hs
    obtain ⟨ag, m', h2, h3⟩ := steps_ghost (D := D (fun i => (Array.replicate ops.size false).getD i false) []) (a0 := a) hT _ s ps a m (fun o ho => by
      obtain ⟨i, hi, ho⟩ := mem_pickO.1 ho
      simp only [Bool.and_eq_true, Bool.not_eq_true', List.elem_eq_mem, decide_eq_false_iff_not] at hi
      exact ⟨G.plain i o ho hi.1, fun d hd => ⟨i, hi.1, hi.2, hg0 i, by simp [dstAt, ho, hd]⟩⟩) hl hs hC.draw (Agree.refl _ _)
    refine ⟨[], ce, puts s ps, rfl, fun j hj => (by cases hj), fun j _ => hg0 j, ⟨fun o ho => hstab o ?_, hK⟩, ag, ⟨m', ω, h2⟩, h3⟩
    obtain ⟨i, hi, ho⟩ := mem_pickO.1 ho
    simp only [Bool.and_eq_true] at hi
    exact mem_pickO.2 ⟨i, by simp only [hi.1, Bool.and_self], ho⟩

/-- Pieces of a list, for each link: the operation's place; the pieces that it sets free; the pieces that may still come. -/
def segx (l : List Oper) : List (Nat × List (Nat × Nat) × List (Nat × Nat)) → List Link
  | [] => []
  | p :: r => (match l[p.1]? with | some o => [⟨o, segs l p.2.1, segs l p.2.2⟩] | none => []) ++ segx l r
theorem segx_nil (l : List Oper) : segx l [] = [] := rfl
theorem segx_cons (l : List Oper) (i : Nat) (q f : List (Nat × Nat)) (r : List (Nat × List (Nat × Nat) × List (Nat × Nat))) : segx l ((i, f, q) :: r) = (match l[i]? with | some o => [⟨o, segs l f, segs l q⟩] | none => []) ++ segx l r := rfl
theorem AWP.drawX (hT : TabOk P T) (hm : P.follows .mixedOrders = true) {Q : Exit → St → Prop} {id : Nat} {l : List Oper} (sq : List (Nat × Nat)) (sx : List (Nat × List (Nat × Nat) × List (Nat × Nat))) (ce : List Nat) (dep : Nat) (hord : ce.Pairwise (· < ·)) (hchk : drawOk l.toArray l.toArray.size dep = true) (hch : linkOk l.toArray ce dep = true)
    (h1 : quiet0 l.toArray ce dep = segs l sq) (h2 : chainLs l.toArray ce dep [] ce = segx l sx)
    (h : ∀ K2 : St → Prop, (∀ s', (∀ K : St → Prop, (∀ s', Q .normal s' → K s') → VCy P T l.toArray (segx l sx) s' K) → K2 s') → VHead P T l.toArray (segs l sq) s K2) : AWP P w0 m0 F0 (.region id l.toArray true) Q s :=
  AWP.drawX0 hT hm ce dep hord hchk hch (by rw [h1, h2]; exact h _ fun s' h => h _ fun _ h => h)
theorem VCy.step {ops : Array Oper} {lq ln : List Oper} {o : Oper} {l : List Link} {t : St} {K : St → Prop} (h : ∀ K2 : St → Prop, (∀ t', VHead P T ops ln t' (fun t'' => Stable P T ops lq t'' ∧ VCy P T ops l t'' K) → K2 t') → VOps P T ops [o] t K2) : VCy P T ops (⟨o, ln, lq⟩ :: l) t K :=
  h _ fun _ h => h
/-- The quiet ones that were set free. -/
theorem VCy.none {ops : Array Oper} {lq : List Oper} {l : List Link} {t : St} {K : St → Prop} (h : Stable P T ops lq t ∧ VCy P T ops l t K) : VHead P T ops [] t (fun t'' => Stable P T ops lq t'' ∧ VCy P T ops l t'' K) := h
theorem VCy.some {ops : Array Oper} {lq ln : List Oper} {o : Oper} {l : List Link} {t : St} {K : St → Prop} (h : ∀ K2 : St → Prop, (∀ t', (Stable P T ops lq t' ∧ VCy P T ops l t' K) → K2 t') → VHead P T ops (o :: ln) t K2) : VHead P T ops (o :: ln) t (fun t'' => Stable P T ops lq t'' ∧ VCy P T ops l t'' K) :=
  h _ fun _ h => h
theorem VCy.intro {A : (St → Prop) → Prop} {ops : Array Oper} {l : List Link} {t : St} (h : ∀ K : St → Prop, A K → VCy P T ops l t K) : ∀ K : St → Prop, A K → VCy P T ops l t K := h
theorem VCy.keep {ops : Array Oper} {t : St} {l : List Oper} {A : Prop} (h1 : Stable P T ops l t) (h : A) : Stable P T ops l t ∧ A := ⟨h1, h⟩
theorem VCy.quiet {ops : Array Oper} {t : St} {A : Prop} (h : A) : Stable P T ops [] t ∧ A := ⟨trivial, h⟩
theorem VCy.fin {ops : Array Oper} {t : St} {K : St → Prop} (h : K t) : VCy P T ops [] t K := h
end Go.Bw

namespace Go.Bw
open Go.RowKit
variable {P : Program} {T : TypeId → Option TI} {w0 : World} {m0 : Mem} {F0 : Home} {s : St} {ω : Wh}

inductive CT where
  | leaf
  | fail
  | none
  | cons (p : Link) (kid rest : CT)
def VCt (P : Program) (T : TypeId → Option TI) (ops : Array Oper) : CT → St → (St → Prop) → Prop
  | .leaf, t, K => K t
  | .fail, _, _ => False
  | .none, _, _ => True
  | .cons p kid rest, t, K => VOps P T ops [p.op] t (fun t' => VHead P T ops p.free t' (fun t'' => Stable P T ops p.rest t'' ∧ VCt P T ops kid t'' K)) ∧ VCt P T ops rest t K
def kidsOf (ops : Array Oper) (ce : List Nat) (dep : Nat) (l1 : List Nat) (kid : Nat → CT) : List Nat → CT
  | [] => .none
  | k :: r => if l1.elem k || !unl ops ce dep l1 k then kidsOf ops ce dep l1 kid r else match ops[k]? with
    | some o => .cons ⟨o, quietNew ops ce dep l1 k, quietOld ops ce dep l1 k⟩ (kid k) (kidsOf ops ce dep l1 kid r)
    | none => .fail
def chainTree (ops : Array Oper) (ce : List Nat) (dep : Nat) : Nat → List Nat → CT
  | 0, l1 => if ce.all (fun j => l1.elem j) then .leaf else .fail
  | n + 1, l1 => if ce.all (fun j => l1.elem j) then .leaf else kidsOf ops ce dep l1 (fun k => chainTree ops ce dep n (l1 ++ [k])) ce
theorem kid_of {ops : Array Oper} {ce : List Nat} {dep : Nat} {l1 : List Nat} {kid : Nat → CT} {t : St} {K : St → Prop} {k : Nat} {o : Oper} (ho : ops[k]? = some o) (h1 : k ∉ l1) (h2 : unl ops ce dep l1 k = true) : ∀ (l : List Nat), k ∈ l → VCt P T ops (kidsOf ops ce dep l1 kid l) t K →
    VOps P T ops [o] t (fun t' => VHead P T ops (quietNew ops ce dep l1 k) t' (fun t'' => Stable P T ops (quietOld ops ce dep l1 k) t'' ∧ VCt P T ops (kid k) t'' K))
  | q :: r, hk, h => by
    unfold kidsOf at h
    by_cases hq : q = k
    · subst hq
      rw [if_neg (by simp [h1, h2])] at h
      rw [ho] at h
      exact h.1
    · have hk : k ∈ r := by
        rcases List.mem_cons.1 hk with e | e
        · exact absurd e.symm hq
        · exact e
      split at h
      · exact kid_of ho h1 h2 r hk h
      · split at h
        · exact kid_of ho h1 h2 r hk h.2
        · exact h.elim
/-- No operation looks at what a later one writes; what is not in the chain is quiet. -/
def freeOk (ops : Array Oper) (ce : List Nat) : Bool :=
  (List.range ops.size).all fun i => (ce.elem i || ((ops[i]?).map plainOp).getD true) && ((ops[i]?).map noSelect).getD true &&
    (List.range ops.size).all fun j => (decide (j < i) || ce.elem j || match dstAt ops j with | none => true | some t => !(looksAt ops i).elem t)
structure FreeFacts (ops : Array Oper) (ce : List Nat) : Prop where
  plain : ∀ (i : Nat) (o : Oper), ops[i]? = some o → i ∉ ce → plainOp o = true
  sel : ∀ (i : Nat) (o : Oper), ops[i]? = some o → ∀ cs b, o.op ≠ .select cs b
  later : ∀ i j t, i < ops.size → j < ops.size → i ≤ j → j ∉ ce → dstAt ops j = some t → t ∉ looksAt ops i
theorem freeFacts {ops : Array Oper} {ce : List Nat} (h : freeOk ops ce = true) : FreeFacts ops ce := by
  unfold freeOk at h
  simp only [List.all_eq_true, List.mem_range, Bool.and_eq_true] at h
  refine ⟨fun i o ho hi => ?_, fun i o ho cs b hb => ?_, fun i j t hi hj hij hjc ht hl => ?_⟩
  · have hin : i < ops.size := (Array.getElem?_eq_some_iff.1 ho).1
    have h1 := (h i hin).1.1
    rw [ho] at h1
    simp only [Option.map_some, Option.getD_some, Bool.or_eq_true] at h1
    rcases h1 with h1 | h1
    · exact absurd (by simpa using h1) hi
    · exact h1
  · have hin : i < ops.size := (Array.getElem?_eq_some_iff.1 ho).1
    have h1 := (h i hin).1.2
    rw [ho] at h1
    simp only [Option.map_some, Option.getD_some, noSelect, hb] at h1
    cases h1
  · have h1 := (h i hi).2 j hj
    rw [ht] at h1
    simp only [Bool.or_eq_true, decide_eq_true_eq] at h1
    rcases h1 with (h1 | h1) | h1
    · omega
    · exact hjc (by simpa using h1)
    · have : (looksAt ops i).elem t = true := by simpa using hl
      rw [this] at h1
      cases h1

theorem pickO_free {ops : Array Oper} {ce : List Nat} {dep : Nat} (F : DrawFacts ops ops.size dep) (G : FreeFacts ops ce) (p : Nat → Bool) (hp : ∀ i, p i = true → ce.elem i = false) : (pickO ops p).Pairwise (laterOk ops) ∧ ∀ o ∈ pickO ops p, ∀ t ∈ o.looksAt ops, o.dst ≠ some t := by
  constructor
  · unfold pickO
    refine List.Pairwise.filterMap _ (fun i j hij o ho o' ho' => ?_) List.pairwise_lt_range
    split at ho
    case isFalse => cases ho
    split at ho'
    case isFalse => cases ho'
    rename_i hpi hpj
    have hjc : j ∉ ce := by simpa using hp j hpj
    have hi : i < ops.size := (Array.getElem?_eq_some_iff.1 ho).1
    have hj : j < ops.size := (Array.getElem?_eq_some_iff.1 ho').1
    refine ⟨fun t ht e => ?_, fun d hd e => ?_⟩
    · exact G.later i j t hi hj (by omega) hjc (by simp [dstAt, ho', e]) (by simpa [looksAt, ho] using ht)
    · exact F.apart i j hi hj (by omega) d (by simp [dstAt, ho, hd]) (by simp [dstAt, ho', e])
  · intro o ho t ht e
    obtain ⟨i, hpi, ho⟩ := mem_pickO.1 ho
    have hi : i < ops.size := (Array.getElem?_eq_some_iff.1 ho).1
    have hic : i ∉ ce := by simpa using hp i hpi
    exact G.later i i t hi hi (Nat.le_refl _) hic (by simp [dstAt, ho, e]) (by simpa [looksAt, ho] using ht)
theorem AWP.drawY0 (hT : TabOk P T) (hm : P.follows .mixedOrders = true) {Q : Exit → St → Prop} {id : Nat} {ops : Array Oper} (ce : List Nat) (dep : Nat) (hce : ∀ j ∈ ce, j < ops.size) (hchk : drawOk ops ops.size dep = true) (hch : freeOk ops ce = true)
    (h : VHead P T ops (quiet0 ops ce dep) s fun s' => VCt P T ops (chainTree ops ce dep ce.length []) s' (Q .normal)) : AWP P w0 m0 F0 (.region id ops true) Q s := by
  intro a w hc
  have F := drawFacts hchk
  have G := freeFacts hch
  obtain ⟨m, ω, hC⟩ := hc
  refine wp_region_any hm ?_
  have hg0 : ∀ i, (Array.replicate ops.size false).getD i false = false := fun i => by
    rw [Array.getD_eq_getD_getElem?, Array.getElem?_replicate]
    split <;> rfl
  let D : (Nat → Bool) → List Nat → Nat → Prop := fun S l1 d => ∃ i, i ∉ ce ∧ unl ops ce dep l1 i = true ∧ S i = false ∧ dstAt ops i = some d
  have hqa : ∀ (l1 : List Nat) (o : Oper) (i : Nat), i ∉ ce → ops[i]? = some o → unl ops ce dep l1 i = true → (∀ j ∈ l1, i ∉ clo ops dep j) → o ∈ quietAft ops ce dep l1 := by
    intro l1 o i hi ho hu hj
    refine mem_pickO.2 ⟨i, ?_, ho⟩
    have h1 : ce.elem i = false := by simpa using hi
    have h2 : (l1.any fun j => (clo ops dep j).elem i) = false := by
      rw [List.any_eq_false]
      intro j hj'
      simpa using hj j hj'
    rw [h1, h2, hu]
    rfl
  refine draw_headE hT F (K := Q .normal) (Q := PostQ P w0 m0 F0 Q)
    (C := fun S a w => ∃ l1 n t, (∀ j ∈ l1, S j = true) ∧ (∀ j ∈ ce, j ∉ l1 → S j = false) ∧ (∀ o ∈ quietAft ops ce dep l1, StabX P T ops t o) ∧ VCt P T ops (chainTree ops ce dep n l1) t (Q .normal) ∧ ∃ ag, Conc P w0 m0 F0 t ag w ∧ Agree (D S l1) a ag)
    (fun s a w h1 h2 => ⟨s, h1, h2⟩) (fun S i a w o ho hi hSi htl hcl hcl2 hC' K' Q' hK => ?_) (fun S a w hall htl hC' => ?_) ops.size _ a _ 0 (by omega) (by simp) ?_ ?_ ?_ ?_
  · obtain ⟨l1, n, t, e2, e3, hSt, hV, ag, ⟨m, ω, hA⟩, hag⟩ := hC'
    have hin : i < ops.size := (Array.getElem?_eq_some_iff.1 ho).1
    have hdone : ∀ j ∈ ce, S j = true → j ∈ l1 := by
      intro j hj hSj
      by_cases h : j ∈ l1
      · exact h
      · rw [e3 j hj h] at hSj; cases hSj
    have hlook : ∀ t ∈ o.looksAt ops, ¬ D S l1 t := by
      rintro t ht ⟨j, j1, _, j2, j3⟩
      have htl' : t ∈ looksAt ops i := by simpa [looksAt, ho] using ht
      have hjn : j < ops.size := by
        rcases Nat.lt_or_ge j ops.size with h | h
        · exact h
        · simp [dstAt, Array.getElem?_eq_none h] at j3
      rcases Nat.lt_or_ge j i with hlt | hge
      · have := hcl j ((F.reads i j t hin hjn (by omega) j3 htl').1 hlt)
        rw [j2] at this
        cases this
      · exact G.later i j t hin hjn hge j1 j3 htl'
    have hsel := G.sel i o ho
    have hex := eval_agree hag hsel hlook
    have hwa := wanted_agree hag hlook
    rw [hwa]
    by_cases hic : i ∈ ce
    · -- the chain
      have hk1 : i ∉ l1 := fun h => by rw [e2 i h] at hSi; cases hSi
      have hun : unl ops ce dep l1 i = true := unl_iff.2 fun j hj hjc => hdone j hj (hcl j hjc)
      have hnall : (ce.all fun j => l1.elem j) = false := by
        rw [List.all_eq_false]
        exact ⟨i, hic, by simpa using hk1⟩
      obtain ⟨n, rfl⟩ : ∃ n', n = n' + 1 := by
        cases n with
        | zero =>
          rw [chainTree, hnall] at hV
          exact hV.elim
        | succ n => exact ⟨n, rfl⟩
      rw [chainTree, hnall] at hV
      have hV := kid_of ho hk1 hun ce hic hV
      generalize i = k at *
      have hunew : ∀ i', i' ∉ ce → unl ops ce dep l1 i' = false → S i' = false := by
        intro i' _ hu
        cases hS : S i' with
        | false => rfl
        | true =>
          have : unl ops ce dep l1 i' = true := unl_iff.2 fun j hj hjc => hdone j hj (hcl2 i' hS j hjc)
          rw [hu] at this
          cases this
      have hDD : ∀ d, D S l1 d → D (fun j => if j = k then true else S j) (l1 ++ [k]) d := by
        rintro d ⟨j, j1, ju, j2, j3⟩
        have hjk : j ≠ k := fun e => j1 (e ▸ hic)
        exact ⟨j, j1, unl_iff.2 fun q hq hqc => List.mem_append_left _ (unl_iff.1 ju q hq hqc), by simpa [hjk] using j2, j3⟩
      have hnext : ∀ t' ar ag' w', VHead P T ops (quietNew ops ce dep l1 k) t' (fun t'' => Stable P T ops (quietOld ops ce dep l1 k) t'' ∧ VCt P T ops (chainTree ops ce dep n (l1 ++ [k])) t'' (Q .normal)) → Conc P w0 m0 F0 t' ag' w' → Agree (D S l1) ar ag' → K' ar w' := by
        rintro t' ar ag' w' h1 ⟨m2, ω2, h2⟩ h3
        obtain ⟨ps, hl, ⟨hst, hK2⟩, hs⟩ := VHead_chain _ _ h1
        obtain ⟨hidx, hself⟩ := pickO_free F G (fun i => !ce.elem i && !unl ops ce dep l1 i && unl ops ce dep (l1 ++ [k]) i) (fun i hi => by simp only [Bool.and_eq_true, Bool.not_eq_true'] at hi; exact hi.1.1)
        have hstab := steps_stable hl hidx hself hs
        have h3' : Agree (D (fun j => if j = k then true else S j) (l1 ++ [k])) ar ag' := ⟨h3.1, h3.2.1, fun d hd => h3.2.2 d fun h => hd (hDD d h)⟩
        obtain ⟨ag2, m', h4, h5⟩ := steps_ghost (D := D (fun j => if j = k then true else S j) (l1 ++ [k])) (a0 := ar) hT _ t' ps ag' m2 (fun o' ho' => by
          obtain ⟨i', hi', ho'⟩ := mem_pickO.1 ho'
          simp only [Bool.and_eq_true, Bool.not_eq_true', List.elem_eq_mem, decide_eq_false_iff_not] at hi'
          obtain ⟨⟨q1, q2⟩, q3⟩ := hi'
          have hik : i' ≠ k := fun e => q1 (e ▸ hic)
          exact ⟨G.plain i' o' ho' q1, fun d hd => ⟨i', q1, q3, by simpa [hik] using hunew i' q1 q2, by simp [dstAt, ho', hd]⟩⟩) hl hs h2 h3'
        refine hK _ _ ⟨l1 ++ [k], n, puts t' ps, fun j hj => ?_, fun j hj hjn => ?_, fun o' ho' => ?_, hK2, ag2, ⟨m', ω2, h4⟩, h5⟩
        · rcases List.mem_append.1 hj with h | h
          · simp only [e2 j h, ite_self]
          · have : j = k := by simpa using h
            simp [this]
        · have h1 : j ∉ l1 := fun h => hjn (List.mem_append_left _ h)
          have h2 : j ≠ k := fun h => hjn (by simp [h])
          simp only [h2, if_false]; exact e3 j hj h1
        · obtain ⟨i', hi', hoo⟩ := mem_pickO.1 ho'
          simp only [Bool.and_eq_true] at hi'
          obtain ⟨⟨q1, q2⟩, q3⟩ := hi'
          cases hu : unl ops ce dep l1 i' with
          | true => exact hst.x o' (mem_pickO.2 ⟨i', by simp only [q1, hu, q3, Bool.and_self], hoo⟩)
          | false => exact hstab o' (mem_pickO.2 ⟨i', by simp only [q1, hu, q2, Bool.not_false, Bool.and_self], hoo⟩)
      simp only [VOps] at hV
      split at hV
      · rename_i hg
        rw [if_pos (guardOf_sound hA hg)]
        exact .inl (wp_agree hex hag (VOp_sound hT hV hA _ _ fun s' a' w' h1 h2 ar har => hnext s' ar a' w' h1 h2 har))
      · rename_i hg
        rw [if_neg (by rw [guardOf_sound hA hg]; simp)]
        obtain ⟨h1, h2⟩ := pk_elim hV
        exact hnext _ _ (ag.put o.dst undef) w h2 ⟨m, ω, hA.putO h1 arep_undef⟩ (hag.put _ _)
      · cases hV
    · -- a quiet one
      have hun : unl ops ce dep l1 i = true := unl_iff.2 fun j hj hjc => hdone j hj (hcl j hjc)
      have hst := hSt o (hqa l1 o i hic ho hun fun j hj hij => by
        have := hcl2 j (e2 j hj) i hij
        rw [hSi] at this
        cases this)
      have hfin : ∀ v m', CI P w0 m0 F0 t (ag.put o.dst v) w m' ω → K' (a.put o.dst v) w := fun v m' h1 =>
        hK _ _ ⟨l1, n, t, fun j hj => by simp only [e2 j hj, ite_self], fun j hj hjn => by
          have : j ≠ i := fun e => hic (e ▸ hj)
          simp only [this, if_false]; exact e3 j hj hjn, hSt, hV, ag.put o.dst v, ⟨m', ω, h1⟩, hag.putOf _ _ fun e h1 h2 => by
            obtain ⟨j, j1, ju, j2, j3⟩ := h2
            by_cases hji : j = i
            · subst hji
              simpa [dstAt, ho] using j3
            · exact absurd ⟨j, j1, ju, by simpa [hji] using j2, j3⟩ h1⟩
      unfold StabX at hst
      split at hst
      · rename_i hg
        rw [if_pos (guardOf_sound hA hg)]
        obtain ⟨y, hy, hst⟩ := hst
        obtain ⟨x, hx, hG⟩ := VVal_sound hT hst hA
        have hx : sameA t o.dst x := hx ▸ hy
        obtain ⟨v, m', hrun, hC2, hv⟩ := hG.2 (G.plain i o ho hic)
        refine .inl ?_
        unfold Oper.wp
        rw [hex, hrun, Oper.upon_value]
        exact hfin v m' (hC2.same hx hv)
      · rename_i hg
        rw [if_neg (by rw [guardOf_sound hA hg]; simp)]
        exact hfin _ m (hA.same hst arep_undef)
      · cases hst
  · obtain ⟨l1, n, t, e2, e3, hSt, hV, ag, hA, hag⟩ := hC'
    have hin : ∀ j ∈ ce, j < ops.size → j ∈ l1 := by
      intro j hj hjs
      have h1 := hall j hjs
      by_cases h : j ∈ l1
      · exact h
      · rw [e3 j hj h] at h1; cases h1
    have hKt : Q .normal t := by
      have hall2 : (ce.all fun j => l1.elem j) = true ∨ ∃ j ∈ ce, j ∉ l1 ∧ ops[j]? = none := by
        cases hb : ce.all fun j => l1.elem j with
        | true => exact .inl rfl
        | false =>
          rw [List.all_eq_false] at hb
          obtain ⟨j, hj, hjn⟩ := hb
          refine .inr ⟨j, hj, by simpa using hjn, ?_⟩
          rcases Nat.lt_or_ge j ops.size with h | h
          · exact absurd (hin j hj h) (by simpa using hjn)
          · exact Array.getElem?_eq_none h
      rcases hall2 with hb | ⟨j, hj, hjn, hjo⟩
      · cases n with
        | zero => rw [chainTree, hb] at hV; exact hV
        | succ n => rw [chainTree, hb] at hV; exact hV
      · have : j < ops.size := hce j hj
        rw [Array.getElem?_eq_none_iff] at hjo
        omega
    have hD : ∀ d, ¬ D S l1 d := by
      rintro d ⟨j, j1, _, j2, j3⟩
      rcases Nat.lt_or_ge j ops.size with h | h
      · have := hall j h
        rw [j2] at this
        cases this
      · simp [dstAt, Array.getElem?_eq_none h] at j3
    have hea : ag = a := by
      obtain ⟨h1, h2, h3⟩ := hag
      cases ag
      cases a
      simp only at h1 h2 h3
      subst h1
      congr 1
      exact Array.ext_getElem? fun d => h3 d (hD d)
    subst hea
    refine ⟨t, ?_, hA⟩
    have hd : ops.toList.drop ops.size = [] := by apply List.drop_eq_nil_of_le; simp
    rw [hd]
    exact hKt
  · rw [List.filter_eq_nil_iff.2 (fun i _ => by rw [hg0]; simp)]
    rfl
  · intro i _ hb
    rw [hg0] at hb
    cases hb
  · intro i _
    exact hg0 i
  · obtain ⟨ps, hl, hK, hs⟩ := VHead_chain _ _ h
    obtain ⟨hidx, hself⟩ := pickO_free F G (fun i => !ce.elem i && unl ops ce dep [] i) (fun i hi => by simp only [Bool.and_eq_true, Bool.not_eq_true'] at hi; exact hi.1)
    have hstab := steps_stable hl hidx hself hs
    obtain ⟨ag, m', h2, h3⟩ := steps_ghost (D := D (fun i => (Array.replicate ops.size false).getD i false) []) (a0 := a) hT _ s ps a m (fun o ho => by
      obtain ⟨i, hi, ho⟩ := mem_pickO.1 ho
      simp only [Bool.and_eq_true, Bool.not_eq_true', List.elem_eq_mem, decide_eq_false_iff_not] at hi
      exact ⟨G.plain i o ho hi.1, fun d hd => ⟨i, hi.1, hi.2, hg0 i, by simp [dstAt, ho, hd]⟩⟩) hl hs hC.draw (Agree.refl _ _)
    refine ⟨[], ce.length, puts s ps, fun j hj => (by cases hj), fun j _ _ => hg0 j, fun o ho => hstab o ?_, hK, ag, ⟨m', ω, h2⟩, h3⟩
    obtain ⟨i, hi, ho⟩ := mem_pickO.1 ho
    simp only [Bool.and_eq_true] at hi
    exact mem_pickO.2 ⟨i, by simp only [hi.1, Bool.and_self], ho⟩

/-- The tree by places and pieces. -/
inductive PT where
  | leaf
  | none
  | cons (i : Nat) (free rest : List (Nat × Nat)) (kid rest' : PT)
def segt (l : List Oper) : PT → CT
  | .leaf => .leaf
  | .none => .none
  | .cons i f q kid r => match l[i]? with | some o => .cons ⟨o, segs l f, segs l q⟩ (segt l kid) (segt l r) | none => .fail
theorem segt_leaf (l : List Oper) : segt l .leaf = .leaf := rfl
theorem segt_none (l : List Oper) : segt l .none = .none := rfl
theorem segt_cons (l : List Oper) (i : Nat) (f q : List (Nat × Nat)) (kid r : PT) : segt l (.cons i f q kid r) = (match l[i]? with | some o => .cons ⟨o, segs l f, segs l q⟩ (segt l kid) (segt l r) | none => .fail) := rfl
theorem AWP.drawY (hT : TabOk P T) (hm : P.follows .mixedOrders = true) {Q : Exit → St → Prop} {id : Nat} {l : List Oper} (sq : List (Nat × Nat)) (pt : PT) (ce : List Nat) (dep : Nat) (hce : ∀ j ∈ ce, j < l.toArray.size) (hchk : drawOk l.toArray l.toArray.size dep = true) (hch : freeOk l.toArray ce = true)
    (h1 : quiet0 l.toArray ce dep = segs l sq) (h2 : chainTree l.toArray ce dep ce.length [] = segt l pt)
    (h : ∀ K2 : St → Prop, (∀ s', (∀ K : St → Prop, (∀ s', Q .normal s' → K s') → VCt P T l.toArray (segt l pt) s' K) → K2 s') → VHead P T l.toArray (segs l sq) s K2) : AWP P w0 m0 F0 (.region id l.toArray true) Q s :=
  AWP.drawY0 hT hm ce dep hce hchk hch (by rw [h1, h2]; exact h _ fun s' h => h _ fun _ h => h)
theorem VCt.step {ops : Array Oper} {lq ln : List Oper} {o : Oper} {kid : CT} {t : St} {K : St → Prop} (h : ∀ K2 : St → Prop, (∀ t', VHead P T ops ln t' (fun t'' => Stable P T ops lq t'' ∧ VCt P T ops kid t'' K) → K2 t') → VOps P T ops [o] t K2) : VCt P T ops (.cons ⟨o, ln, lq⟩ kid .none) t K :=
  ⟨h _ fun _ h => h, trivial⟩
theorem VCt.fork {ops : Array Oper} {lq ln : List Oper} {o : Oper} {kid : CT} {p : Link} {k2 r2 : CT} {t : St} {K : St → Prop} (h : ∀ K2 : St → Prop, (∀ t', VHead P T ops ln t' (fun t'' => Stable P T ops lq t'' ∧ VCt P T ops kid t'' K) → K2 t') → VOps P T ops [o] t K2) (h2 : VCt P T ops (.cons p k2 r2) t K) : VCt P T ops (.cons ⟨o, ln, lq⟩ kid (.cons p k2 r2)) t K :=
  ⟨h _ fun _ h => h, h2⟩
theorem VCt.none {ops : Array Oper} {lq : List Oper} {kid : CT} {t : St} {K : St → Prop} (h : Stable P T ops lq t ∧ VCt P T ops kid t K) : VHead P T ops [] t (fun t'' => Stable P T ops lq t'' ∧ VCt P T ops kid t'' K) := h
theorem VCt.some {ops : Array Oper} {lq ln : List Oper} {o : Oper} {kid : CT} {t : St} {K : St → Prop} (h : ∀ K2 : St → Prop, (∀ t', (Stable P T ops lq t' ∧ VCt P T ops kid t' K) → K2 t') → VHead P T ops (o :: ln) t K2) : VHead P T ops (o :: ln) t (fun t'' => Stable P T ops lq t'' ∧ VCt P T ops kid t'' K) :=
  h _ fun _ h => h
theorem VCt.intro {A : (St → Prop) → Prop} {ops : Array Oper} {kid : CT} {t : St} (h : ∀ K : St → Prop, A K → VCt P T ops kid t K) : ∀ K : St → Prop, A K → VCt P T ops kid t K := h
theorem VCt.fin {ops : Array Oper} {t : St} {K : St → Prop} (h : K t) : VCt P T ops .leaf t K := h
end Go.Bw

namespace Go.Bw
open Go.RowKit

section
variable {P : Program} {T : TypeId → Option TI} {w0 : World} {m0 : Mem} {F0 : Home} {s s' : St} {a : Act} {w : World} {m : Mem} {ω : Wh}

/-- What the operation does, whatever the world in which the state stands. -/
def SemOp (P : Program) (o : Oper) (s : St) (K : St → Prop) : Prop := ∀ (w0 : World) (m0 : Mem) (F0 : Home) (a : Act) (w : World) (m : Mem) (ω : Wh), CI P w0 m0 F0 s a w m ω → Follows P w0 m0 F0 o a w K
def VOpsX (P : Program) (T : TypeId → Option TI) (ops : Array Oper) : List Oper → St → (St → Prop) → Prop
  | [], s, K => K s
  | o :: l, s, K => (o.guard = none ∧ SemOp P o s fun s' => VOpsX P T ops l s' K) ∨ VOps P T ops [o] s fun s' => VOpsX P T ops l s' K
theorem VOpsX.sem {ops : Array Oper} {d : Option Tmp} {op : Op} {ty : TypeId} {pos : String} {af : Array Edge} {l : List Oper} {K : St → Prop} (h : SemOp P ⟨d, op, ty, pos, af, Option.none⟩ s fun s' => VOpsX P T ops l s' K) : VOpsX P T ops (⟨d, op, ty, pos, af, Option.none⟩ :: l) s K := .inl ⟨rfl, h⟩
theorem VOpsX.step {ops : Array Oper} {o : Oper} {l : List Oper} {K : St → Prop} (h : ∀ K2 : St → Prop, (∀ s', VOpsX P T ops l s' K → K2 s') → VOps P T ops [o] s K2) : VOpsX P T ops (o :: l) s K := .inr (h _ fun _ h => h)
theorem VOpsX.fin {ops : Array Oper} {K : St → Prop} (h : K s) : VOpsX P T ops [] s K := h
theorem VOpsX_sound (hT : TabOk P T) {ops : Array Oper} {K : St → Prop} {Q : Exit → Act → World → Prop} (hQ : ∀ s a w, K s → Conc P w0 m0 F0 s a w → Q .normal a w) :
    ∀ (l : List Oper) (k : Nat) (s : St) (a : Act) (w : World), ops.toList.drop k = l → VOpsX P T ops l s K → Conc P w0 m0 F0 s a w → wpOps P ops Q (List.range' k l.length) a w
  | [], k, s, a, w, _, hV, hC => hQ s a w hV hC
  | o :: l, k, s, a, w, hl, hV, hC => by
    have hk : ops[k]? = some o := by
      have : (ops.toList.drop k)[0]? = some o := by rw [hl]; rfl
      simpa [List.getElem?_drop] using this
    have hl' : ops.toList.drop (k + 1) = l := by
      have : (ops.toList.drop k).drop 1 = l := by rw [hl]; rfl
      simpa [List.drop_drop] using this
    obtain ⟨m, ω, h⟩ := hC
    simp only [List.length_cons, List.range'_succ, wpOps, hk]
    rcases hV with ⟨hg, hV⟩ | hV
    · have hw : Region.wanted o (yielded ops a.tmps) = true := by simp [Region.wanted, hg]
      rw [if_pos hw]
      exact .inl (hV _ _ _ a w m ω h _ _ fun s' a' w' hK hc => VOpsX_sound hT hQ l (k + 1) s' a' w' hl' hK hc)
    · simp only [VOps] at hV
      split at hV
      · rename_i hg
        rw [if_pos (guardOf_sound h hg)]
        exact .inl (VOp_sound hT hV h _ _ fun s' a' w' hK hc => VOpsX_sound hT hQ l (k + 1) s' a' w' hl' hK hc)
      · rename_i hg
        rw [if_neg (by rw [guardOf_sound h hg]; simp)]
        obtain ⟨h1, h2⟩ := pk_elim hV
        exact VOpsX_sound hT hQ l (k + 1) _ _ w hl' h2 ⟨m, ω, h.putO h1 arep_undef⟩
      · cases hV
theorem AWP.regionX (hT : TabOk P T) {id : Nat} {Q : Exit → St → Prop} {l : List Oper} (h : ∀ K : St → Prop, (∀ s', Q .normal s' → K s') → VOpsX P T l.toArray l s K) : AWP P w0 m0 F0 (.region id l.toArray false) Q s := by
  intro a w hc
  refine wp_region ?_
  have := VOpsX_sound hT (ops := l.toArray) (K := Q .normal) (Q := PostQ P w0 m0 F0 Q) (fun s a w h1 h2 => ⟨s, h1, h2⟩) l 0 s a w (by simp) (h _ fun _ h => h) hc
  have hlen : l.length = l.toArray.size := by simp
  rwa [← List.range_eq_range', hlen] at this

/-! ### arguments as they are -/
def argsRaw (T : TypeId → Option TI) (s : St) : List Operand → List TypeId → Option (List V)
  | [], _ => some []
  | x :: xs, tys => match evalO T s (tys.headD 0) x, argsRaw T s xs tys.tail with
    | some (.v y), some r => some (y :: r)
    | _, _ => none
theorem argsRaw_sound (h : CI P w0 m0 F0 s a w m ω) : ∀ (l : List Operand) (tys : List TypeId) (xs : List V), argsRaw T s l tys = some xs → ArgsRep m ω (l.map a.eval) xs
  | [], tys, xs, hx => by simp only [argsRaw, Option.some.injEq] at hx; subst hx; exact ⟨rfl, fun i x h => by simp at h⟩
  | x :: l, tys, xs, hx => by
    simp only [argsRaw] at hx
    split at hx
    · rename_i y r hy hr
      simp only [Option.some.injEq] at hx
      subst hx
      obtain ⟨h1, h2⟩ := argsRaw_sound h l tys.tail r hr
      refine ⟨by simpa using h1, fun i x' hi => ?_⟩
      cases i with
      | zero =>
        simp only [List.getElem?_cons_zero, Option.some.injEq] at hi
        subst hi
        have hv : VRep m ω (a.eval x) y := evalO_sound h hy
        exact ⟨_, rfl, hv⟩
      | succ i => simpa using h2 i x' (by simpa using hi)
    · cases hx
theorem semCall {d : Option Tmp} {g : FuncId} {args : Array Operand} {tys : Array TypeId} {ty : TypeId} {pos : String} {af : Array Edge} {xs : List V} {K : St → Prop}
    (hx : argsRaw T s args.toList tys.toList = some xs) (h : CallG P g xs s d K) :
    SemOp P ⟨d, .call ⟨.value (.func g), args, tys⟩, ty, pos, af, Option.none⟩ s K := by
  intro w0 m0 F0 a w m ω hC
  obtain ⟨s', hM, hK⟩ := h
  have h2 := argsRaw_sound hC _ _ _ hx
  refine Moves.follows (gives_of_callsR (f := g) (args := (args.toList.map a.eval).toArray) ?_ (hM _ _ _ a w m ω hC _ h2)) hK
  unfold execOp
  simp only [resolve, Act.eval, Deferred.ofValue, Sem.run_bind, Sem.run_pure, Result.andThen_ok, invoke]
  congr 2
  apply Array.ext'
  simp
theorem semCallIo {d : Option Tmp} {g : FuncId} {args : Array Operand} {tys : Array TypeId} {ty : TypeId} {pos : String} {af : Array Edge} {xs ys : List V} {bx bx' : Boxes} {rw rw' : Rows} {r : A} {K : St → Prop} (σb σr τb τr : Ids) (kb kr ib ir : List Nat)
    (hraw : argsRaw T s args.toList tys.toList = some xs) (hS : SatM P g ys bx rw r bx' rw') (gs : (goodIds σb && goodIds σr && goodIds τb && goodIds τr && okIn σb bx && okIn σr rw && okOut s.n σb τb bx' && okOut s.n σr τr rw' && ys.all (okV σb σr)) = true)
    (hd : deadOf σb τb = kb ∧ deadOf σr τr = kr ∧ idsOf σb τb = ib ∧ idsOf σr τr = ir) (hx : ys.map (V.map (L.ids σb σr)) = xs) (hin : inB s σb σr bx ∧ inR s σr rw)
    (hk : s.okD d ∧ K ((ioSt s kb kr ib ir (outB τb τr bx') (outR τb τr rw')).putO d (r.map (L.ids τb τr)))) : SemOp P ⟨d, .call ⟨.value (.func g), args, tys⟩, ty, pos, af, Option.none⟩ s K := by
  obtain ⟨rfl, rfl, rfl, rfl⟩ := hd
  exact semCall hraw (CallG.io σb σr τb τr hS gs hx hin hk)
theorem AWP.isRegion (id : Nat) {ops : Array Oper} {d : Bool} {Q : Exit → St → Prop} (h : AWP P w0 m0 F0 (.region id ops d) Q s) : AWP P w0 m0 F0 (.region id ops d) Q s := h
/-- As retQ, a nil slice kept as it is. -/
def retQN (T : TypeId → Option TI) (fn : Func) (kb kr : List Nat) (r : A) (bx' : Boxes) (rw' : Rows) : Exit → St → Prop
  | .normal, s | .ret, s => mO (resVals T s fn.results.toList) fun ys => (resOf (ys.map fun y => y.map (topL kb kr (s.rest kb kr))) = r) ∧ allIn (s.freeze kb kr).box bx' ∧ allIn (s.freeze kb kr).row rw'
  | _, _ => False
theorem satM_of_bodyN (hT : TabOk P T) {f : FuncId} {fn : Func} {c : Code} {xs : List V} {bx bx' : Boxes} {rw rw' : Rows} {r : A} (kb kr : List Nat) (hf : P.funcs[f]? = some fn) (hb : fn.body = some c) (hn : (fn.name == "runtime.NumGoroutine") = false) (hx : xs.length ≤ fn.ntmps ∧ fn.ntmps ≤ 1000)
    (h : ∀ w0 m0 F0, AWP P w0 m0 F0 c (retQN T fn kb kr r bx' rw') { n := fn.ntmps, env := envOf 0 xs, box := bx, row := rw }) : SatM P f xs bx rw r bx' rw' := by
  refine ⟨fun m w vs ω hC hA => ?_⟩
  refine .inr ⟨?_, ?_⟩
  · simp only [callFunc, Sem.run_bind, program, Sem.run, Result.andThen_ok, hf]
    rw [hn, hb]
    simp
  · refine calls_of_wp hf hb ?_
    have hCC : Conc P w m (handed bx rw ω) { n := fn.ntmps, env := envOf 0 xs, box := bx, row := rw } { tmps := vs.toArray ++ Array.replicate (fn.ntmps - vs.toArray.size) undef, defers := [] } w := by
      refine ⟨m, ω, { size := ?_, defers := rfl, keeps := hC.keeps, mle := hC.mle, mold := hC.mold, ok := hC.ok, env := fun t x ht => ?_, box := hC.box, row := hC.row, fresh := fun κ id hl => hC.fresh κ id (by cases κ <;> exact hl), apart := fun κ id κ' id' hl hl' => hC.apart κ id κ' id' (by cases κ <;> exact hl) (by cases κ' <;> exact hl'), home := ⟨fun id hid => ?_, hC.home.box, hC.home.row⟩, good := hC.good }⟩
      · simp [hA.1]
        omega
      · obtain ⟨_, y, h2, rfl⟩ := look_envOf xs 0 t x ht
        simp only [Nat.sub_zero] at h2
        obtain ⟨v, h3, h4⟩ := hA.2 t y h2
        have : (vs.toArray ++ Array.replicate (fn.ntmps - vs.toArray.size) undef).getD t undef = v := by
          rw [Array.getD_eq_getD_getElem?, Array.getElem?_append_left (by simpa using (List.getElem?_eq_some_iff.1 h3).1)]
          simp [h3]
        rw [this]
        exact h4
      · have := hC.home.big id hid
        exact ⟨by show fn.ntmps ≤ id; omega, this.2⟩
    refine wp_mono (h w m _ _ _ hCC) fun e a' w' he => ?_
    obtain ⟨s', hq, m', ω', hC'⟩ := he
    have fin : (mO (resVals T s' fn.results.toList) fun ys => (resOf (ys.map fun y => y.map (topL kb kr (s'.rest kb kr))) = r) ∧ allIn (s'.freeze kb kr).box bx' ∧ allIn (s'.freeze kb kr).row rw') → a'.defers = [] ∧ ∃ v, (results fn a'.tmps).run P w' = .ok v w' ∧ ∃ v', Ending.returned v = .returned v' ∧ Post P w m ω bx rw r bx' rw' v' w' := by
      intro hq
      obtain ⟨ys, h1, h2, h3, h4⟩ := mO_elim hq
      obtain ⟨v, h5, h6⟩ := results_run hT hC' h1
      obtain ⟨m'', hF, hle, hg⟩ := hC'.freeze kb kr
      have h7 : ARep m'' ω' v r := by
        rw [← h2]
        have := h6.map hg
        have e : (resOf ys).map (topL kb kr (s'.rest kb kr)) = resOf (ys.map fun y => y.map (topL kb kr (s'.rest kb kr))) := by
          rw [resOf_map]
          cases resOf ys with
          | v y => rfl
          | tup q => simp [A.map]
        rw [e] at this
        exact this
      have h8 : CI P w m (handed bx rw ω) (roots bx' rw') a0 w' m'' ω' := by
        have hw := hF.weaken (s' := { s'.freeze kb kr with env := [], box := bx', row := rw' }) rfl (fun t x hx => by cases hx) (allIn_look h3) (allIn_look h4)
        exact { size := rfl, defers := rfl, keeps := hw.keeps, mle := hw.mle, mold := hw.mold, ok := hw.ok, env := (fun t x hx => by cases hx), box := hw.box, row := hw.row, fresh := fun κ id hl => hw.fresh κ id (by cases κ <;> exact hl), apart := fun κ id κ' id' hl hl' => hw.apart κ id κ' id' (by cases κ <;> exact hl) (by cases κ' <;> exact hl'), home := ⟨fun id hid => ⟨Nat.zero_le _, (hw.home.big id hid).2⟩, hw.home.box, hw.home.row⟩, good := hw.good }
      exact ⟨hC'.defers, v, h5, v, rfl, m'', ω', h8, h7⟩
    cases e with
    | normal => exact fin hq
    | ret => exact fin hq
    | _ => cases hq
end
end Go.Bw
