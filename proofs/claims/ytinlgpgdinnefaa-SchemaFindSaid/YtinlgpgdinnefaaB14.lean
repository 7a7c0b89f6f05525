/-
  THE LAYER, 14: a region in the order of its text; the rules for code.
-/
import Derived.Test.YtinlgpgdinnefaaB13
set_option linter.unusedSimpArgs false
set_option linter.unusedVariables false
namespace Go.Bw
open Go.RowKit

section
variable {P : Program} {w0 : World} {m0 : Mem} {s : St} {a : Act} {w : World} {m : Mem} {ω : Wh} {F0 : Home} {T : TypeId → Option TI}

/-! ### a region in the order of its text -/
def guardOf (ops : Array Oper) (s : St) (o : Oper) : Option Bool :=
  match o.guard with
  | none => some true
  | some (j, want) => match (ops[j]?).bind (·.dst) with
    | some t => (match look s.env t with | some (.v (.one (.bool b))) => some (b == want) | some (.tup []) => some false | _ => none)
    | none => none

theorem getD_get (a : Act) {t : Nat} {b : Bool} (h : a.tmps.getD t undef = .bool b) : a.tmps[t]? = some (.bool b) := by
  rw [Array.getD_eq_getD_getElem?] at h
  cases hq : a.tmps[t]? with
  | none => rw [hq] at h; simp [undef] at h
  | some v => rw [hq] at h; simpa using h

theorem guardOf_sound (h : CI P w0 m0 F0 s a w m ω) {ops : Array Oper} {o : Oper} {b : Bool} (hg : guardOf ops s o = some b) : Region.wanted o (yielded ops a.tmps) = b := by
  unfold guardOf at hg
  unfold Region.wanted
  split at hg
  · rename_i hn
    injection hg with hg
    rw [hn, ← hg]
  · rename_i j want hn
    rw [hn]
    split at hg
    · rename_i t ht
      split at hg
      · rename_i b' hb
        injection hg with hg
        have hv : Rep m (a.tmps.getD t undef) (.bool b') := h.env t _ hb
        have hval : a.tmps[t]? = some (.bool b') := by
          generalize hx : a.tmps.getD t undef = u at hv
          cases hv
          exact getD_get a hx
        simp only [yielded, ht, Option.bind_some, hval]
        rw [← hg]
        cases b' <;> cases want <;> rfl
      · rename_i hb
        injection hg with hg
        have hv := h.env t _ hb
        have hval : ∀ b', a.tmps[t]? ≠ some (.bool b') := by
          intro b' hq
          rw [Array.getD_eq_getD_getElem?, hq] at hv
          obtain ⟨vs, hv, _⟩ := hv
          cases hv
        rw [← hg]
        simp only [yielded, ht, Option.bind_some]
        first
          | rfl
          | (split
             · rename_i b' hq
               exact absurd hq (hval b')
             · rfl)
      · cases hg
    · cases hg

def VOps (P : Program) (T : TypeId → Option TI) (ops : Array Oper) : List Oper → St → (St → Prop) → Prop
  | [], s, K => K s
  | o :: l, s, K => match guardOf ops s o with
    | some true => VOp P T o s fun s' => VOps P T ops l s' K
    | some false => pk s o.dst (fun s' => VOps P T ops l s' K) (.tup [])
    | none => False

def PostQ (P : Program) (w0 : World) (m0 : Mem) (F0 : Home) (Q : Exit → St → Prop) (e : Exit) (a : Act) (w : World) : Prop := ∃ s, Q e s ∧ Conc P w0 m0 F0 s a w

theorem VOps_sound (hT : TabOk P T) {ops : Array Oper} {K : St → Prop} {Q : Exit → Act → World → Prop} (hQ : ∀ s a w, K s → Conc P w0 m0 F0 s a w → Q .normal a w) :
    ∀ (l : List Oper) (k : Nat) (s : St) (a : Act) (w : World), ops.toList.drop k = l → VOps P T ops l s K → Conc P w0 m0 F0 s a w → wpOps P ops Q (List.range' k l.length) a w
  | [], k, s, a, w, _, hV, hC => hQ s a w hV hC
  | o :: l, k, s, a, w, hl, hV, hC => by
    obtain ⟨m, ω, h⟩ := hC
    have hk : ops[k]? = some o := by
      have : (ops.toList.drop k)[0]? = some o := by rw [hl]; rfl
      simpa [List.getElem?_drop] using this
    have hl' : ops.toList.drop (k + 1) = l := by
      have : (ops.toList.drop k).drop 1 = l := by rw [hl]; rfl
      simpa [List.drop_drop] using this
    simp only [List.length_cons, List.range'_succ, wpOps, hk]
    simp only [VOps] at hV
    split at hV
    · rename_i hg
      rw [if_pos (guardOf_sound h hg)]
      exact .inl (VOp_sound hT hV h _ _ fun s' a' w' hK hc => VOps_sound hT hQ l (k + 1) s' a' w' hl' hK hc)
    · rename_i hg
      rw [if_neg (by rw [guardOf_sound h hg]; simp)]
      unfold pk at hV
      split at hV
      · rename_i d hd
        rw [hd]
        exact VOps_sound hT hQ l (k + 1) _ _ w hl' hV.2 ⟨m, ω, h.put hV.1 arep_undef⟩
      · rename_i hd
        rw [hd]
        exact VOps_sound hT hQ l (k + 1) _ _ w hl' hV ⟨m, ω, h⟩
    · cases hV

/-! ### the rules for code -/
def AWP (P : Program) (w0 : World) (m0 : Mem) (F0 : Home) (c : Code) (Q : Exit → St → Prop) (s : St) : Prop :=
  ∀ a w, Conc P w0 m0 F0 s a w → c.wp P (PostQ P w0 m0 F0 Q) a w

section rules
variable {Q : Exit → St → Prop}

/-- Less is known behind. -/
def St.le (s' s : St) : Prop := s'.n = s.n ∧ (∀ t x, look s'.env t = some x → look s.env t = some x) ∧ (∀ i ls, look s'.box i = some ls → look s.box i = some ls) ∧ ∀ i r, look s'.row i = some r → look s.row i = some r
theorem Conc.le {s' : St} (h : Conc P w0 m0 F0 s a w) (hl : St.le s' s) : Conc P w0 m0 F0 s' a w := by
  obtain ⟨m, ω, h⟩ := h
  exact ⟨m, ω, h.weaken hl.1 hl.2.1 hl.2.2.1 hl.2.2.2⟩
theorem St.le_refl (s : St) : St.le s s := ⟨rfl, fun _ _ h => h, fun _ _ h => h, fun _ _ h => h⟩
theorem Conc.freeze (h : Conc P w0 m0 F0 s a w) (kb kr : List Nat) : Conc P w0 m0 F0 (s.freeze kb kr) a w := by
  obtain ⟨m, ω, h⟩ := h
  obtain ⟨m', h', _, _⟩ := h.freeze kb kr
  exact ⟨m', ω, h'⟩

theorem AWP.weak {c : Code} {s' : St} (hl : St.le s' s) (h : AWP P w0 m0 F0 c Q s') : AWP P w0 m0 F0 c Q s := fun a w hc => h a w (hc.le hl)
theorem AWP.frz {c : Code} (kb kr : List Nat) (h : AWP P w0 m0 F0 c Q (s.freeze kb kr)) : AWP P w0 m0 F0 c Q s := fun a w hc => h a w (hc.freeze kb kr)
theorem AWP.mono {c : Code} {Q' : Exit → St → Prop} (h : AWP P w0 m0 F0 c Q s) (hq : ∀ e s, Q e s → Q' e s) : AWP P w0 m0 F0 c Q' s :=
  fun a w hc => wp_mono (h a w hc) fun e _ _ ⟨s', h1, h2⟩ => ⟨s', hq e s' h1, h2⟩

def thenQ (R : St → Prop) (Q : Exit → St → Prop) : Exit → St → Prop
  | .normal, s => R s
  | e, s => Q e s
def blockQ (id : Nat) (Q : Exit → St → Prop) : Exit → St → Prop
  | .exit id', s => if id' = id then Q .normal s else Q (.exit id') s
  | e, s => Q e s

theorem AWP.skip (h : Q .normal s) : AWP P w0 m0 F0 .skip Q s := fun _ _ hc => wp_skip ⟨s, h, hc⟩
theorem AWP.exit {id : Nat} (h : Q (.exit id) s) : AWP P w0 m0 F0 (.exit id) Q s := fun _ _ hc => wp_exit ⟨s, h, hc⟩
theorem AWP.ret (h : Q .ret s) : AWP P w0 m0 F0 .ret Q s := fun _ _ hc => wp_ret ⟨s, h, hc⟩
theorem AWP.seq {x y : Code} (h : AWP P w0 m0 F0 x (thenQ (AWP P w0 m0 F0 y Q) Q) s) : AWP P w0 m0 F0 (.seq x y) Q s := by
  intro a w hc
  refine wp_seq (wp_mono (h a w hc) fun e a' w' he => ?_)
  obtain ⟨s', h1, h2⟩ := he
  cases e with
  | normal => exact h1 a' w' h2
  | _ => exact ⟨s', h1, h2⟩
theorem AWP.cond {c : Operand} {x y : Code} {b : Bool} (hb : boolOf (evalO T s 0 c) = some b) (h1 : b = true → AWP P w0 m0 F0 x Q s) (h2 : b = false → AWP P w0 m0 F0 y Q s) : AWP P w0 m0 F0 (.cond c x y) Q s := by
  intro a w hc
  obtain ⟨m, ω, h⟩ := hc
  have he : a.eval c = .bool b := bool_of h (boolOf_some hb)
  exact wp_cond_split he (fun e => h1 e a w ⟨m, ω, h⟩) (fun e => h2 e a w ⟨m, ω, h⟩)
theorem AWP.block {id : Nat} {c : Code} (h : AWP P w0 m0 F0 c (blockQ id Q) s) : AWP P w0 m0 F0 (.block id c) Q s := by
  intro a w hc
  refine wp_block (wp_mono (h a w hc) fun e a' w' he => ?_)
  obtain ⟨s', h1, h2⟩ := he
  cases e with
  | exit id' =>
    simp only [blockQ] at h1
    simp only [Exit.inBlock]
    split at h1
    · rename_i hid; rw [if_pos hid]; exact ⟨s', h1, h2⟩
    · rename_i hid; rw [if_neg hid]; exact ⟨s', h1, h2⟩
  | _ => exact ⟨s', h1, h2⟩
/-- A loop, its states counted by whatever falls. -/
theorem AWP.loop {ι : Type} {c : Code} (I : ι → St) (μ : ι → Nat) (i0 : ι) (h0 : St.le (I i0) s)
    (round : ∀ i, AWP P w0 m0 F0 c (thenQ (fun s' => ∃ j, μ j < μ i ∧ St.le (I j) s') Q) (I i)) : AWP P w0 m0 F0 (.loop c) Q s := by
  intro a w hc
  have key : ∀ n i a w, μ i = n → Conc P w0 m0 F0 (I i) a w → ∀ (b : Frame) (k : List Item) (cs : List Frame),
      ∃ e a' w', PostQ P w0 m0 F0 Q e a' w' ∧ Arrives P (lone (b.at a (.code c :: .inLoop c :: k)) cs w) b k cs e a' w' := by
    intro n
    induction n using Nat.strongRecOn with
    | _ n ih =>
      intro i a w hn hC b k cs
      obtain ⟨e, a₁, w₁, ⟨s1, hq, hc1⟩, harr⟩ := round i a w hC b (.inLoop c :: k) cs
      cases e with
      | normal =>
        obtain ⟨j, hlt, hle⟩ := hq
        obtain ⟨e₂, a₂, w₂, hq₂, harr₂⟩ := ih (μ j) (hn ▸ hlt) j a₁ w₁ rfl (hc1.le hle) b k cs
        exact ⟨e₂, a₂, w₂, hq₂, .of_steps (Steps.trans harr (.one step_inLoop)) harr₂⟩
      | exit id => exact ⟨_, a₁, w₁, ⟨s1, hq, hc1⟩, .pass (x := .inLoop c) rfl (fun _ _ => .inl (by simp)) harr⟩
      | goto l => exact ⟨_, a₁, w₁, ⟨s1, hq, hc1⟩, .pass (x := .inLoop c) rfl (fun _ _ => .inl (by simp)) harr⟩
      | ret => exact ⟨_, a₁, w₁, ⟨s1, hq, hc1⟩, .pass (x := .inLoop c) rfl (fun _ _ => .inl (by simp)) harr⟩
      | panic ch => exact ⟨_, a₁, w₁, ⟨s1, hq, hc1⟩, .pass (x := .inLoop c) rfl (fun _ _ => .inl (by simp)) harr⟩
      | outgrown => exact ⟨_, a₁, w₁, ⟨s1, hq, hc1⟩, .pass (x := .inLoop c) rfl (fun _ _ => .inl (by simp)) harr⟩
  intro b k cs
  obtain ⟨e, a', w', hq, harr⟩ := key _ i0 a w rfl (hc.le h0) b k cs
  exact ⟨e, a', w', hq, .of_steps (.one step_loop) harr⟩
theorem AWP.region0 (hT : TabOk P T) {id : Nat} {ops : Array Oper} {l : List Oper} (hl : ops.toList = l) (h : VOps P T ops l s (Q .normal)) : AWP P w0 m0 F0 (.region id ops false) Q s := by
  intro a w hc
  refine wp_region ?_
  have := VOps_sound hT (K := Q .normal) (Q := PostQ P w0 m0 F0 Q) (fun s a w h1 h2 => ⟨s, h1, h2⟩) l 0 s a w (by simpa using hl) h hc
  have hlen : l.length = ops.size := by rw [← hl]; simp
  rwa [← List.range_eq_range', hlen] at this
/-- The same, what follows kept out of sight. -/
theorem AWP.region (hT : TabOk P T) {id : Nat} {ops : Array Oper} {l : List Oper} (hl : ops.toList = l) (h : ∀ K : St → Prop, (∀ s', Q .normal s' → K s') → VOps P T ops l s K) : AWP P w0 m0 F0 (.region id ops false) Q s :=
  AWP.region0 hT hl (h _ fun _ h => h)
end rules
end
end Go.Bw
