/-
  THE LAYER: what the walks of the functions go by.
-/
import Derived.Test.YtmmbghbkpjmifaaDoorKV
set_option linter.unusedSimpArgs false
set_option linter.unusedVariables false

namespace Go.Bw
open Go.RowKit

section
variable {P : Program} {T : TypeId → Option TI} {w0 : World} {m0 : Mem} {F0 : Home} {s s' : St} {a : Act} {w w' : World} {m : Mem} {ω : Wh}

theorem ERep.whf {m : Mem} {ω : Wh} (f : Bool → Nat → Nat → Prop) {v : Value} {l : L} (h : ERep m ω v l) : ERep m { ω with f := f } v l := by
  cases l <;> exact h
theorem VRep.whf {m : Mem} {ω : Wh} (f : Bool → Nat → Nat → Prop) {v : Value} {x : V} (h : VRep m ω v x) : VRep m { ω with f := f } v x := by
  cases x with
  | one l => exact ERep.whf f h
  | agg ls => obtain ⟨cs, h1, h2, h3⟩ := h; exact ⟨cs, h1, h2, fun j l hl => let ⟨u, h4, h5⟩ := h3 j l hl; ⟨u, h4, h5.whf f⟩⟩
theorem ARep.whf {m : Mem} {ω : Wh} (f : Bool → Nat → Nat → Prop) {v : Value} {x : A} (h : ARep m ω v x) : ARep m { ω with f := f } v x := by
  cases x with
  | v x => exact VRep.whf f h
  | tup xs => obtain ⟨vs, h1, h2, h3⟩ := h; exact ⟨vs, h1, h2, fun j x hx => let ⟨u, h4, h5⟩ := h3 j x hx; ⟨u, h4, h5.whf f⟩⟩
theorem XRep.whf {m : Mem} {w : World} {ω : Wh} (f : Bool → Nat → Nat → Prop) {G : Nat → Prop} {v : Value} {l : L} (h : XRep m w ω G v l) : XRep m w { ω with f := f } G v l := by
  rcases h.cases with ⟨sz, xs, rfl, h⟩ | ⟨_, h⟩ | ⟨t, q, rfl, h⟩
  · exact h
  · exact (h.whf f).xrep
  · exact h
theorem RCell.whf {m : Mem} {w : World} {ω : Wh} (f : Bool → Nat → Nat → Prop) {G : Nat → Prop} {v : Value} {u : L} {o : Option L} (h : RCell m w ω G v u o) : RCell m w { ω with f := f } G v u o := by
  cases o with
  | none => exact h
  | some l => exact ERep.whf (ω := ω) f h
/-- What is written lies in the box's own blocks; it may own new blocks. -/
theorem CI.boxGrow (h : CI P w0 m0 F0 s a w m ω) {id : Nat} {ls0 ls : List L} (hb : look s.box id = some ls0)
    (hos : w'.os = w.os) (htp : w'.tape = w.tape) (hout : w'.output = w.output) (hsz : w.heap.size ≤ w'.heap.size) (hk : ∀ k, k < w.heap.size → ¬ ω.f false id k → w'.heap[k]? = w.heap[k]?)
    {cs : Array Value} {e : TypeId} (hh : w'.heap[ω.box id]? = some (.cells cs e (0, 0))) (hs : cs.size = ls.length) (G : Nat → Nat → Prop)
    (hG : ∀ j k, G j k → (ω.f false id k ∨ (w.heap.size ≤ k ∧ k < w'.heap.size)) ∧ k ≠ ω.box id) (hD : ∀ j j' k, G j k → G j' k → j = j')
    (hc : ∀ (j : Nat) (l : L), ls[j]? = some l → ∃ v, cs[j]? = some v ∧ XRep m w' ω (G j) v l) :
    ∃ ω', CI P w0 m0 F0 { s with box := sput id ls s.box } a w' m ω' ∧ ω'.box = ω.box ∧ ω'.row = ω.row := by
  obtain ⟨cs0, e0, g1, g2, g3, _⟩ := h.box id ls0 hb
  have hlive : s.live false id := by show (look s.box id).isSome; rw [hb]; rfl
  have hf := h.fresh false id hlive
  have hl' : ∀ κ i, ({ s with box := sput id ls s.box } : St).live κ i → s.live κ i := by
    intro κ i hl
    cases κ with
    | true => exact hl
    | false =>
      simp only [St.live] at hl ⊢
      rw [look_sput] at hl
      split at hl
      · rename_i e; subst e; rw [hb]; rfl
      · exact hl
  let f' : Bool → Nat → Nat → Prop := fun κ i k => ω.f κ i k ∨ (κ = false ∧ i = id ∧ w.heap.size ≤ k ∧ k < w'.heap.size)
  have hlt : ∀ κ i, s.live κ i → ∀ k, ω.f κ i k → k < w.heap.size := fun κ i hl k hk => (h.fresh κ i hl k hk).1
  have hf' : ∀ κ i, ¬ (κ = false ∧ i = id) → f' κ i = ω.f κ i := fun κ i hn => by
    funext k
    simp only [f', eq_iff_iff]
    exact ⟨fun h => h.elim (fun h => h) fun h => absurd ⟨h.1, h.2.1⟩ hn, fun h => .inl h⟩
  refine ⟨{ ω with f := f' }, ?_, rfl, rfl⟩
  refine { size := h.size, defers := h.defers, keeps := ⟨hos.trans h.keeps.os, htp.trans h.keeps.tape, hout.trans h.keeps.output, Nat.le_trans h.keeps.size hsz, fun k h1 h2 => ?_⟩, mle := h.mle, mold := h.mold, ok := fun x v hx => ?_, env := fun t x hx => (h.env t x hx).whf f', box := ?_, row := ?_, fresh := ?_, apart := ?_, home := ⟨h.home.big, fun i b hb' hi => h.home.box i b hb' (hl' false i hi), h.home.row⟩, good := h.good }
  · have hk1 : k < w.heap.size := Nat.lt_of_lt_of_le h1 h.keeps.size
    rw [hk k hk1 fun hw => by
      rcases (hf k hw).2.1 with h3 | h3
      · omega
      · exact h2 h3]
    exact h.keeps.block k h1 h2
  · have hx' := h.ok x v hx
    rw [World.cell?_of_block (hk x.block (World.block_lt_of_cell? w x hx') fun hw => (hf _ hw).2.2 x v hx rfl)]
    exact hx'
  · intro i l hi
    simp only at hi
    rw [look_sput] at hi
    split at hi
    · rename_i e'
      injection hi with hi
      subst hi; subst e'
      exact ⟨cs, e, hh, hs, .inl g3, G, fun j k hj => ⟨(hG j k hj).1.imp (fun q => q) fun q => ⟨rfl, rfl, q.1, q.2⟩, (hG j k hj).2⟩, hD, fun j l hj => let ⟨v, h1, h2⟩ := hc j l hj; ⟨v, h1, h2.whf f'⟩⟩
    · rename_i hne
      obtain ⟨cs1, e1, k1, k2, k3, G1, k4, k5, k6⟩ := h.box i l hi
      have hli : s.live false i := by show (look s.box i).isSome; rw [hi]; rfl
      have keep : ∀ k, ω.f false i k → w'.heap[k]? = w.heap[k]? := fun k hw => hk k (hlt _ _ hli k hw) fun hw' => hne (h.apart _ _ _ _ hli hlive k hw hw').2
      refine ⟨cs1, e1, (keep _ k3).trans k1, k2, .inl k3, G1, fun j k hj => ⟨.inl (k4 j k hj).1, (k4 j k hj).2⟩, k5, fun j u hj => ?_⟩
      obtain ⟨v, q1, q2⟩ := k6 j u hj
      exact ⟨v, q1, (q2.keep (Mem.le_refl m) fun k hw => keep k (k4 j k hw).1).whf f'⟩
  · intro i r hi
    have hli : s.live true i := by show (look s.row i).isSome; rw [hi]; rfl
    have keep : ∀ k, ω.f true i k → w'.heap[k]? = w.heap[k]? := fun k hw => hk k (hlt _ _ hli k hw) fun hw' => by cases (h.apart _ _ _ _ hli hlive k hw hw').1
    obtain ⟨q1, q2, q3⟩ := h.row i r hi
    refine ⟨q1, q2, ?_⟩
    revert q3
    show (match (ω.row i).blk with | Option.none => _ | some b => _) → (match (ω.row i).blk with | Option.none => _ | some b => _)
    cases hblk : (ω.row i).blk with
    | none => exact fun q3 => q3
    | some b =>
      intro q3
      obtain ⟨cs1, e1, k1, k2, k3, k4, k5, G1, k6, k7, k8⟩ := q3
      refine ⟨cs1, e1, (keep _ k5).trans k1, k2, k3, k4, .inl k5, G1, fun i' j k hj => ⟨.inl (k6 i' j k hj).1, (k6 i' j k hj).2⟩, k7, fun i' j u hj => ?_⟩
      obtain ⟨v, p1, p2⟩ := k8 i' j u hj
      exact ⟨v, p1, (p2.keep (Mem.le_refl m) fun k hw => keep k (k6 i' j k hw).1).whf f'⟩
  · intro κ i hl k hw
    rcases hw with hw | ⟨rfl, rfl, h1, h2⟩
    · obtain ⟨p1, p2, p3⟩ := h.fresh κ i (hl' κ i hl) k hw
      exact ⟨Nat.lt_of_lt_of_le p1 hsz, p2, p3⟩
    · refine ⟨h2, .inl (Nat.le_trans h.keeps.size h1), fun x v hx e => ?_⟩
      have := World.block_lt_of_cell? w x (h.ok x v hx)
      omega
  · intro κ i κ' i' hl hl2 k hw hw'
    have l1 := hl' κ i hl
    have l2 := hl' κ' i' hl2
    rcases hw with hw | ⟨rfl, rfl, h1, h2⟩ <;> rcases hw' with hw' | ⟨rfl, rfl, h3, h4⟩
    · exact h.apart κ i κ' i' l1 l2 k hw hw'
    · have := hlt _ _ l1 k hw; omega
    · have := hlt _ _ l2 k hw'; omega
    · exact ⟨rfl, rfl⟩
end
end Go.Bw
