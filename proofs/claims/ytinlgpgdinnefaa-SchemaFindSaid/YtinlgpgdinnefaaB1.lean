/-
  THE LAYER, 1: values as trees, the frozen memory, what is owned, the state of a body, its meaning.
-/
import Derived.Calls
import Derived.Orders
import Derived.Below
import Derived.Laws.AppendOwn
set_option linter.unusedSimpArgs false
set_option linter.unusedVariables false
namespace Go.Bw
open Go.RowKit

/-- What one cell holds, as a tree. -/
inductive L where
  | int (k : IntKind) (n : Int)
  | bool (b : Bool)
  | str (s : ByteArray)
  | sl (sz : Nat) (xs : List (List L))
  | nil (sz : Nat)
  | own (sz : Nat) (xs : List (List L))
  | clo (f : FuncId) (caps : List L)
  | fz (ls : List L)
  | ptr (id o : Nat)
  | eptr (id i o : Nat)
  | ref (id lo n : Nat)
  | any
  deriving Inhabited

abbrev Mem := Addr → Option Value

def cellOf (xs : List (List L)) (i j : Nat) : Option L := (xs[i]?).bind (·[j]?)

/-- The value v reads, in the frozen memory m, as the tree l. -/
inductive Rep (m : Mem) : Value → L → Prop
  | int (k : IntKind) (n : Int) : Rep m (.int k n) (.int k n)
  | bool (b : Bool) : Rep m (.bool b) (.bool b)
  | str (s : ByteArray) : Rep m (.string s) (.str s)
  | nil (sz : Nat) : Rep m (.slice none 0 0) (.nil sz)
  | slNil (sz : Nat) : Rep m (.slice none 0 0) (.sl sz [])
  | sl (ad : Addr) (len cap sz : Nat) (xs : List (List L)) (vals : Nat → Nat → Value) (hlen : len = xs.length) (hc : len ≤ cap)
      (hsz : ∀ x ∈ xs, x.length = sz)
      (hm : ∀ i j u, cellOf xs i j = some u → m (ad.add (i * sz + j)) = some (vals i j))
      (hr : ∀ i j u, cellOf xs i j = some u → Rep m (vals i j) u) : Rep m (.slice (some ad) len cap) (.sl sz xs)
  | clo (f : FuncId) (caps : List L) (vs : List Value) (vals : Nat → Value) (hl : vs.length = caps.length)
      (hm : ∀ i u, caps[i]? = some u → vs[i]? = some (vals i))
      (hr : ∀ i u, caps[i]? = some u → Rep m (vals i) u) :
      Rep m (.func (.func f) #[] vs.toArray) (.clo f caps)
  | fz (ad : Addr) (ls : List L) (vals : Nat → Value) (hm : ∀ j u, ls[j]? = some u → m (ad.add j) = some (vals j)) (hr : ∀ j u, ls[j]? = some u → Rep m (vals j) u) :
      Rep m (.pointer (some ad)) (.fz ls)
  | any (v : Value) (h : v.oneCell' = true) : Rep m v .any

def Mem.le (m m' : Mem) : Prop := ∀ a v, m a = some v → m' a = some v
theorem Mem.le_refl (m : Mem) : Mem.le m m := fun _ _ h => h
theorem Mem.le_trans {a b c : Mem} (h : Mem.le a b) (k : Mem.le b c) : Mem.le a c := fun x v hx => k x v (h x v hx)

theorem Rep.mono {m m' : Mem} (hm : Mem.le m m') {v : Value} {l : L} (h : Rep m v l) : Rep m' v l := by
  induction h with
  | int k n => exact .int k n
  | bool b => exact .bool b
  | str s => exact .str s
  | nil sz => exact .nil sz
  | slNil sz => exact .slNil sz
  | sl ad len cap sz xs vals hlen hc hsz h1 _ ih => exact .sl ad len cap sz xs vals hlen hc hsz (fun i j u hu => hm _ _ (h1 i j u hu)) ih
  | clo f caps vs vals hl h1 _ ih => exact .clo f caps vs vals hl h1 ih
  | fz ad ls vals h1 _ ih => exact .fz ad ls vals (fun j u hu => hm _ _ (h1 j u hu)) ih
  | any v h => exact .any v h
theorem Rep.oneCell {m : Mem} {v : Value} {l : L} (h : Rep m v l) : v.oneCell' = true := by
  cases h <;> first | rfl | assumption

/-- From ad on the frozen memory reads as these cells. -/
def FRep (m : Mem) (ad : Addr) (ls : List L) : Prop := ∀ (j : Nat) (u : L), ls[j]? = some u → ∃ v, m (ad.add j) = some v ∧ Rep m v u
theorem FRep.mono {m m' : Mem} (hm : Mem.le m m') {ad : Addr} {ls : List L} (h : FRep m ad ls) : FRep m' ad ls :=
  fun j u hu => let ⟨v, h1, h2⟩ := h j u hu; ⟨v, hm _ _ h1, h2.mono hm⟩
theorem FRep.rep {m : Mem} {ad : Addr} {ls : List L} (h : FRep m ad ls) : Rep m (.pointer (some ad)) (.fz ls) := by
  refine .fz ad ls (fun j => (m (ad.add j)).getD default) (fun j u hu => ?_) (fun j u hu => ?_)
  · obtain ⟨v, h1, _⟩ := h j u hu
    rw [h1]; rfl
  · obtain ⟨v, h1, h2⟩ := h j u hu
    rw [h1]; exact h2
theorem Rep.frep {m : Mem} {v : Value} {ls : List L} (h : Rep m v (.fz ls)) : ∃ ad, v = .pointer (some ad) ∧ FRep m ad ls := by
  cases h with
  | fz ad _ vals h1 h2 => exact ⟨ad, rfl, fun j u hu => ⟨_, h1 j u hu, h2 j u hu⟩⟩

/-- The value v reads as the tree l, whose own slices lie in blocks of F. -/
inductive CRep (m : Mem) (w : World) : (Nat → Prop) → Value → L → Prop
  | fr {F : Nat → Prop} {v : Value} {l : L} (h : Rep m v l) : CRep m w F v l
  | ownNil {F : Nat → Prop} (sz : Nat) : CRep m w F (.slice none 0 0) (.own sz [])
  | own {F : Nat → Prop} (b n cap sz : Nat) (xs : List (List L)) (cs : Array Value) (e : TypeId) (vals : Nat → Nat → Value) (G : Nat → Nat → Nat → Prop)
      (hb : F b) (hh : w.heap[b]? = some (.cells cs e (0, 0))) (hn : n = xs.length) (hcap : n ≤ cap) (hcm : cap ≤ maxLen) (hcs : cs.size = cap * sz) (hsz : ∀ x ∈ xs, x.length = sz)
      (hG : ∀ i j k, G i j k → F k ∧ k ≠ b) (hD : ∀ i j i' j' k, G i j k → G i' j' k → i = i' ∧ j = j')
      (hv : ∀ i j u, cellOf xs i j = some u → cs[i * sz + j]? = some (vals i j)) (hc : ∀ i j u, cellOf xs i j = some u → CRep m w (G i j) (vals i j) u) :
      CRep m w F (.slice (some ⟨b, 0, none⟩) n cap) (.own sz xs)

theorem CRep.keep {m m' : Mem} {w w' : World} (hm : Mem.le m m') {F : Nat → Prop} {v : Value} {l : L} (h : CRep m w F v l) (hw : ∀ k, F k → w'.heap[k]? = w.heap[k]?) : CRep m' w' F v l := by
  induction h with
  | fr h => exact .fr (h.mono hm)
  | ownNil sz => exact .ownNil sz
  | own b n cap sz xs cs e vals G hb hh hn hcap hcm hcs hsz hG hD hv _ ih =>
    exact .own b n cap sz xs cs e vals G hb ((hw b hb).trans hh) hn hcap hcm hcs hsz hG hD hv fun i j u hu => ih i j u hu fun k hk => hw k (hG i j k hk).1
theorem CRep.sub {m : Mem} {w : World} {F F' : Nat → Prop} {v : Value} {l : L} (h : CRep m w F v l) (hF : ∀ k, F k → F' k) : CRep m w F' v l := by
  cases h with
  | fr h => exact .fr h
  | ownNil sz => exact .ownNil sz
  | own b n cap sz xs cs e vals G hb hh hn hcap hcm hcs hsz hG hD hv hc => exact .own b n cap sz xs cs e vals G (hF b hb) hh hn hcap hcm hcs hsz (fun i j k h => ⟨hF k (hG i j k h).1, (hG i j k h).2⟩) hD hv hc
theorem CRep.oneCell {m : Mem} {w : World} {F : Nat → Prop} {v : Value} {l : L} (h : CRep m w F v l) : v.oneCell' = true := by
  cases h with
  | fr h => exact h.oneCell
  | ownNil sz => rfl
  | own => rfl

/-- All that is owned becomes frozen (n deep). -/
def L.frzN : Nat → L → L
  | 0, .own _ _ => .any
  | n + 1, .own sz xs => .sl sz (xs.map fun x => x.map (L.frzN n))
  | _, .ptr _ _ => .any
  | _, .eptr _ _ _ => .any
  | _, .ref _ _ _ => .any
  | _, l => l

/-- The memory in which the blocks of F are frozen. -/
noncomputable def frzMem (m : Mem) (w : World) (F : Nat → Prop) : Mem := by
  classical exact fun x => if F x.block then w.cell? x else m x
theorem frzMem_in {m : Mem} {w : World} {F : Nat → Prop} {x : Addr} (h : F x.block) : frzMem m w F x = w.cell? x := by
  unfold frzMem; rw [if_pos h]
theorem frzMem_out {m : Mem} {w : World} {F : Nat → Prop} {x : Addr} (h : ¬ F x.block) : frzMem m w F x = m x := by
  unfold frzMem; rw [if_neg h]
theorem frzMem_le {m : Mem} {w : World} {F : Nat → Prop} (hF : ∀ x v, m x = some v → ¬ F x.block) : Mem.le m (frzMem m w F) := fun x v h => by
  rw [frzMem_out (hF x v h)]; exact h
theorem frzMem_ok {m : Mem} {w : World} {F : Nat → Prop} (hok : ∀ x v, m x = some v → w.cell? x = some v) : ∀ x v, frzMem m w F x = some v → w.cell? x = some v := fun x v h => by
  by_cases hx : F x.block
  · rwa [frzMem_in hx] at h
  · rw [frzMem_out hx] at h; exact hok x v h
theorem cellOf_map (xs : List (List L)) (f : L → L) (i j : Nat) (u : L) (h : cellOf (xs.map fun x => x.map f) i j = some u) : ∃ u', cellOf xs i j = some u' ∧ u = f u' := by
  unfold cellOf at h ⊢
  rw [List.getElem?_map] at h
  cases hx : xs[i]? with
  | none => rw [hx] at h; simp at h
  | some x =>
    rw [hx] at h
    simp only [Option.map_some, Option.bind_some, List.getElem?_map, Option.map_eq_some_iff] at h
    obtain ⟨u', h1, h2⟩ := h
    exact ⟨u', by simpa using h1, h2.symm⟩
theorem Rep.frz {m : Mem} {v : Value} {l : L} (h : Rep m v l) (n : Nat) : Rep m v (l.frzN n) := by
  cases l with
  | own => cases h
  | ptr => cases h
  | eptr => cases h
  | ref => cases h
  | _ => cases n <;> exact h
theorem cell_row {w : World} {b : Nat} {cs : Array Value} {e : TypeId} {fr : Nat × Nat} (h : w.heap[b]? = some (.cells cs e fr)) (k : Nat) : w.cell? ((⟨b, 0, none⟩ : Addr).add k) = cs[k]? := by
  rw [Addr.add_lit]
  simp [World.cell?, h]
theorem block_add (x : Addr) (n : Nat) : (x.add n).block = x.block := by unfold Addr.add; split <;> rfl
theorem CRep.frz {m m' : Mem} {w : World} {F : Nat → Prop} {v : Value} {l : L} (h : CRep m w F v l) (hm : Mem.le m m') (hF : ∀ x : Addr, F x.block → m' x = w.cell? x) : ∀ n, Rep m' v (l.frzN n) := by
  induction h with
  | fr h => exact (h.mono hm).frz
  | ownNil sz =>
    intro n
    cases n with
    | zero => exact .any _ rfl
    | succ n => exact .slNil sz
  | own b n cap sz xs cs e vals G hb hh hn hcap hcm hcs hsz hG hD hv _ ih =>
    intro d
    cases d with
    | zero => exact .any _ rfl
    | succ d =>
      refine .sl ⟨b, 0, none⟩ n cap sz _ vals (by simpa using hn) hcap (fun x hx => ?_) (fun i j u hu => ?_) (fun i j u hu => ?_)
      · obtain ⟨y, hy, rfl⟩ := List.mem_map.1 hx
        simpa using hsz y hy
      · obtain ⟨u', hu', _⟩ := cellOf_map xs (L.frzN d) i j u hu
        rw [hF _ (by rw [block_add]; exact hb), cell_row hh]
        exact hv i j u' hu'
      · obtain ⟨u', hu', rfl⟩ := cellOf_map xs (L.frzN d) i j u hu
        exact ih i j u' hu' (fun x hx => hF x (hG i j _ hx).1) d

/-! ### Where things lie -/
structure RowI where
  blk : Option Nat
  cap : Nat
  sz : Nat
structure Wh where
  box : Nat → Nat
  row : Nat → RowI
  /-- What a box (false), a row (true) owns. -/
  f : Bool → Nat → Nat → Prop

/-- A pointer to something owned. -/
def PRep (ω : Wh) (v : Value) : L → Prop
  | .ptr id o => v = .pointer (some ⟨ω.box id, o, none⟩)
  | .eptr id i o => ∃ b, (ω.row id).blk = some b ∧ v = .pointer (some ⟨b, i * (ω.row id).sz + o, none⟩)
  | _ => False
/-- A slice over an own row. -/
def RefAt (r : RowI) (lo n : Nat) (v : Value) : Prop :=
  (r.blk = none ∧ lo = 0 ∧ n = 0 ∧ v = .slice none 0 0) ∨ ∃ b ad, r.blk = some b ∧ lo + n ≤ r.cap ∧ v = .slice (some ad) n (r.cap - lo) ∧ (lo < r.cap ∨ lo = 0 → ad = ⟨b, lo * r.sz, none⟩)
def ERep (m : Mem) (ω : Wh) (v : Value) : L → Prop
  | .ptr id o => PRep ω v (.ptr id o)
  | .eptr id i o => PRep ω v (.eptr id i o)
  | .ref id lo n => RefAt (ω.row id) lo n v
  | .clo f caps => ∃ vs : List Value, v = .func (.func f) #[] vs.toArray ∧ vs.length = caps.length ∧ ∀ (i : Nat) (u : L), caps[i]? = some u → ∃ x, vs[i]? = some x ∧ (Rep m x u ∨ PRep ω x u)
  | l => Rep m v l

/-- What a slot holds. -/
inductive V where
  | one (l : L)
  | agg (ls : List L)
  deriving Inhabited
inductive A where
  | v (x : V)
  | tup (xs : List V)
  deriving Inhabited

def VRep (m : Mem) (ω : Wh) (v : Value) : V → Prop
  | .one l => ERep m ω v l
  | .agg ls => ∃ cs : Array Value, v = .agg cs ∧ cs.size = ls.length ∧ ∀ (j : Nat) (l : L), ls[j]? = some l → ∃ u, cs[j]? = some u ∧ ERep m ω u l
def ARep (m : Mem) (ω : Wh) (v : Value) : A → Prop
  | .v x => VRep m ω v x
  | .tup xs => ∃ vs : Array Value, v = .tuple vs ∧ vs.size = xs.length ∧ ∀ (j : Nat) (x : V), xs[j]? = some x → ∃ u, vs[j]? = some u ∧ VRep m ω u x

/-- What an owned cell holds. -/
def XRep (m : Mem) (w : World) (ω : Wh) (G : Nat → Prop) (v : Value) : L → Prop
  | .own sz xs => CRep m w G v (.own sz xs)
  | l => ERep m ω v l

theorem PRep.oneCell {ω : Wh} {v : Value} {l : L} (h : PRep ω v l) : v.oneCell' = true := by
  cases l <;> simp only [PRep] at h
  · rw [h]; rfl
  · obtain ⟨b, _, h⟩ := h; rw [h]; rfl
theorem ERep.oneCell {m : Mem} {ω : Wh} {v : Value} {l : L} (h : ERep m ω v l) : v.oneCell' = true := by
  cases l with
  | ptr id o => exact PRep.oneCell (l := .ptr id o) h
  | eptr id i o => exact PRep.oneCell (l := .eptr id i o) h
  | ref id lo n =>
    rcases h with ⟨_, _, _, h⟩ | ⟨b, ad, _, _, h, _⟩ <;> rw [h] <;> rfl
  | clo f caps => obtain ⟨vs, h, _⟩ := h; rw [h]; rfl
  | _ => exact Rep.oneCell (m := m) h
theorem XRep.cases {m : Mem} {w : World} {ω : Wh} {G : Nat → Prop} {v : Value} {l : L} (h : XRep m w ω G v l) : (∃ sz xs, l = .own sz xs ∧ CRep m w G v l) ∨ ((∀ sz xs, l ≠ .own sz xs) ∧ ERep m ω v l) := by
  cases l with
  | own sz xs => exact .inl ⟨sz, xs, rfl, h⟩
  | _ => exact .inr ⟨fun _ _ e => (by cases e), h⟩
theorem XRep.oneCell {m : Mem} {w : World} {ω : Wh} {G : Nat → Prop} {v : Value} {l : L} (h : XRep m w ω G v l) : v.oneCell' = true := by
  rcases h.cases with ⟨_, _, _, h⟩ | ⟨_, h⟩
  · exact h.oneCell
  · exact h.oneCell
theorem Rep.erep {m : Mem} {ω : Wh} {v : Value} {l : L} (h : Rep m v l) : ERep m ω v l := by
  cases l with
  | ptr => cases h
  | eptr => cases h
  | ref => cases h
  | clo f caps =>
    cases h with
    | clo _ _ vs vals hl hm hr => exact ⟨vs, rfl, hl, fun i u hu => ⟨_, hm i u hu, .inl (hr i u hu)⟩⟩
  | _ => exact h
theorem ERep.xrep {m : Mem} {w : World} {ω : Wh} {G : Nat → Prop} {v : Value} {l : L} (h : ERep m ω v l) : XRep m w ω G v l := by
  cases l with
  | own => cases h
  | _ => exact h
/-- What is not owned. -/
def L.peek : L → L
  | .own _ _ => .any
  | l => l
theorem XRep.peek {m : Mem} {w : World} {ω : Wh} {G : Nat → Prop} {v : Value} {l : L} (h : XRep m w ω G v l) : ERep m ω v l.peek := by
  cases l with
  | own sz xs => exact Rep.any v (CRep.oneCell (l := .own sz xs) h)
  | _ => exact h

theorem ERep.mono {m m' : Mem} {ω : Wh} (hm : Mem.le m m') {v : Value} {l : L} (h : ERep m ω v l) : ERep m' ω v l := by
  cases l with
  | ptr => exact h
  | eptr => exact h
  | ref => exact h
  | clo f caps =>
    obtain ⟨vs, h1, h2, h3⟩ := h
    exact ⟨vs, h1, h2, fun i u hu => let ⟨x, h4, h5⟩ := h3 i u hu; ⟨x, h4, h5.imp (·.mono hm) id⟩⟩
  | _ => exact Rep.mono (m := m) hm h
theorem VRep.mono {m m' : Mem} {ω : Wh} {v : Value} {x : V} (hm : Mem.le m m') (h : VRep m ω v x) : VRep m' ω v x := by
  cases x with
  | one l => exact ERep.mono hm h
  | agg ls => obtain ⟨cs, h1, h2, h3⟩ := h; exact ⟨cs, h1, h2, fun j l hl => let ⟨u, h4, h5⟩ := h3 j l hl; ⟨u, h4, h5.mono hm⟩⟩
theorem ARep.mono {m m' : Mem} {ω : Wh} {v : Value} {x : A} (hm : Mem.le m m') (h : ARep m ω v x) : ARep m' ω v x := by
  cases x with
  | v x => exact VRep.mono hm h
  | tup xs => obtain ⟨vs, h1, h2, h3⟩ := h; exact ⟨vs, h1, h2, fun j x hx => let ⟨u, h4, h5⟩ := h3 j x hx; ⟨u, h4, h5.mono hm⟩⟩
theorem XRep.keep {m m' : Mem} {w w' : World} {ω : Wh} {G : Nat → Prop} (hm : Mem.le m m') {v : Value} {l : L} (h : XRep m w ω G v l) (hw : ∀ k, G k → w'.heap[k]? = w.heap[k]?) : XRep m' w' ω G v l := by
  cases l with
  | own sz xs => exact CRep.keep (l := .own sz xs) hm h hw
  | int k n => exact ERep.mono (ω := ω) (l := .int k n) hm h
  | bool b => exact ERep.mono (ω := ω) (l := .bool b) hm h
  | str b => exact ERep.mono (ω := ω) (l := .str b) hm h
  | sl sz xs => exact ERep.mono (ω := ω) (l := .sl sz xs) hm h
  | nil sz => exact ERep.mono (ω := ω) (l := .nil sz) hm h
  | clo f c => exact ERep.mono (ω := ω) (l := .clo f c) hm h
  | fz ls => exact ERep.mono (ω := ω) (l := .fz ls) hm h
  | ptr id o => exact ERep.mono (ω := ω) (l := .ptr id o) hm h
  | eptr id i o => exact ERep.mono (ω := ω) (l := .eptr id i o) hm h
  | ref id lo n => exact ERep.mono (ω := ω) (l := .ref id lo n) hm h
  | any => exact ERep.mono (ω := ω) (l := .any) hm h

/-! ### A change of cells, alike everywhere in a state -/
/-- A map on what slots and cells hold that keeps the meaning. -/
def V.map (g : L → L) : V → V
  | .one l => .one (g l)
  | .agg ls => .agg (ls.map g)
def A.map (g : L → L) : A → A
  | .v x => .v (x.map g)
  | .tup xs => .tup (xs.map (V.map g))
theorem VRep.map {m m' : Mem} {ω ω' : Wh} {g : L → L} (hg : ∀ v l, ERep m ω v l → ERep m' ω' v (g l)) {v : Value} {x : V} (h : VRep m ω v x) : VRep m' ω' v (x.map g) := by
  cases x with
  | one l => exact hg _ _ h
  | agg ls =>
    obtain ⟨cs, h1, h2, h3⟩ := h
    refine ⟨cs, h1, by simpa using h2, fun j l hl => ?_⟩
    simp only [List.getElem?_map, Option.map_eq_some_iff] at hl
    obtain ⟨l0, h4, rfl⟩ := hl
    obtain ⟨u, h5, h6⟩ := h3 j l0 h4
    exact ⟨u, h5, hg _ _ h6⟩
theorem ARep.map {m m' : Mem} {ω ω' : Wh} {g : L → L} (hg : ∀ v l, ERep m ω v l → ERep m' ω' v (g l)) {v : Value} {x : A} (h : ARep m ω v x) : ARep m' ω' v (x.map g) := by
  cases x with
  | v x => exact VRep.map hg h
  | tup xs =>
    obtain ⟨vs, h1, h2, h3⟩ := h
    refine ⟨vs, h1, by simpa using h2, fun j x hx => ?_⟩
    simp only [List.getElem?_map, Option.map_eq_some_iff] at hx
    obtain ⟨x0, h4, rfl⟩ := hx
    obtain ⟨u, h5, h6⟩ := h3 j x0 h4
    exact ⟨u, h5, h6.map hg⟩

def upd {α : Type} (f : Nat → α) (i : Nat) (x : α) : Nat → α := fun j => if j = i then x else f j

/-! ### The state of a body -/
def look {α : Type} : List (Nat × α) → Nat → Option α
  | [], _ => none
  | (t, x) :: e, i => if t = i then some x else look e i

theorem look_map {α β : Type} (f : α → β) : ∀ (e : List (Nat × α)) (i : Nat), look (e.map fun p => (p.1, f p.2)) i = (look e i).map f
  | [], _ => rfl
  | (t, x) :: e, i => by
    simp only [List.map_cons, look]
    split
    · rfl
    · exact look_map f e i
def del {α : Type} (i : Nat) : List (Nat × α) → List (Nat × α)
  | [] => []
  | (t, x) :: e => if t = i then del i e else (t, x) :: del i e
theorem look_del {α : Type} (i : Nat) : ∀ (e : List (Nat × α)) (j : Nat), look (del i e) j = if j = i then none else look e j
  | [], j => by simp [del, look]
  | (t, x) :: e, j => by
    simp only [del]
    by_cases ht : t = i
    · rw [if_pos ht, look_del i e j]
      by_cases hj : j = i
      · simp [hj]
      · rw [if_neg hj, if_neg hj, look, if_neg (by omega)]
    · rw [if_neg ht, look, look_del i e j, look]
      by_cases hj : j = i
      · rw [if_pos hj, if_pos hj, if_neg (by omega)]
      · rw [if_neg hj, if_neg hj]
def sput {α : Type} (i : Nat) (x : α) (e : List (Nat × α)) : List (Nat × α) := (i, x) :: del i e
theorem look_sput {α : Type} (i : Nat) (x : α) (e : List (Nat × α)) (j : Nat) : look (sput i x e) j = if j = i then some x else look e j := by
  simp only [sput, look]
  by_cases h : i = j
  · rw [if_pos h, if_pos h.symm]
  · rw [if_neg h, if_neg (fun e => h e.symm), look_del, if_neg (fun e => h e.symm)]

/-- An own row: its cells; some of them lie open. -/
structure RowC where
  sz : Nat
  xs : List (List L)
  ov : List (Nat × Nat × L)
def ovGet : List (Nat × Nat × L) → Nat → Nat → Option L
  | [], _, _ => none
  | (a, b, l) :: r, i, j => if a = i ∧ b = j then some l else ovGet r i j
theorem ovGet_map (g : L → L) : ∀ (o : List (Nat × Nat × L)) (i j : Nat), ovGet (o.map fun p => (p.1, p.2.1, g p.2.2)) i j = (ovGet o i j).map g
  | [], _, _ => rfl
  | (a, b, l) :: r, i, j => by
    simp only [List.map_cons, ovGet]
    split
    · rfl
    · exact ovGet_map g r i j

structure St where
  n : Nat
  env : List (Nat × A)
  box : List (Nat × List L)
  row : List (Nat × RowC)

def St.put (s : St) (d : Nat) (x : A) : St := { s with env := (d, x) :: s.env }
def St.del (s : St) (d : Nat) : St := s.put d (.tup [])
def RowC.map (g : L → L) (r : RowC) : RowC := { r with ov := r.ov.map fun p => (p.1, p.2.1, g p.2.2) }
/-- g on all that is not closed. -/
def St.map (g : L → L) (s : St) : St :=
  { s with env := s.env.map fun p => (p.1, p.2.map g), box := s.box.map fun p => (p.1, p.2.map g), row := s.row.map fun p => (p.1, p.2.map g) }
def St.live (s : St) : Bool → Nat → Prop
  | false, id => (look s.box id).isSome
  | true, id => (look s.row id).isSome

def BoxRep (m : Mem) (w : World) (ω : Wh) (id : Nat) (ls : List L) : Prop :=
  ∃ cs e, w.heap[ω.box id]? = some (.cells cs e (0, 0)) ∧ cs.size = ls.length ∧ ω.f false id (ω.box id) ∧ ∃ G : Nat → Nat → Prop, (∀ j k, G j k → ω.f false id k ∧ k ≠ ω.box id) ∧ (∀ j j' k, G j k → G j' k → j = j') ∧
    ∀ (j : Nat) (l : L), ls[j]? = some l → ∃ v, cs[j]? = some v ∧ XRep m w ω (G j) v l
/-- A cell of a row. -/
def RCell (m : Mem) (w : World) (ω : Wh) (G : Nat → Prop) (v : Value) (u : L) : Option L → Prop
  | some l => ERep m ω v l
  | none => CRep m w G v u
def RowRepG (m : Mem) (w : World) (ω : Wh) (ri : RowI) (F : Nat → Prop) (r : RowC) : Prop :=
  ri.sz = r.sz ∧ (∀ x ∈ r.xs, x.length = r.sz) ∧ match ri.blk with
    | none => r.xs = [] ∧ ri.cap = 0
    | some b => ∃ cs e, w.heap[b]? = some (.cells cs e (0, 0)) ∧ cs.size = ri.cap * r.sz ∧ r.xs.length ≤ ri.cap ∧ ri.cap ≤ maxLen ∧ F b ∧
      ∃ G : Nat → Nat → Nat → Prop, (∀ i j k, G i j k → F k ∧ k ≠ b) ∧ (∀ i j i' j' k, G i j k → G i' j' k → i = i' ∧ j = j') ∧
        ∀ i j u, cellOf r.xs i j = some u → ∃ v, cs[i * r.sz + j]? = some v ∧ RCell m w ω (G i j) v u (ovGet r.ov i j)
def RowRep (m : Mem) (w : World) (ω : Wh) (id : Nat) (r : RowC) : Prop := RowRepG m w ω (ω.row id) (ω.f true id) r

/-- w' is w but for the blocks of F, and for new ones. -/
structure Keeps (F : Nat → Prop) (w w' : World) : Prop where
  os : w'.os = w.os
  tape : w'.tape = w.tape
  output : w'.output = w.output
  size : w.heap.size ≤ w'.heap.size
  block : ∀ k, k < w.heap.size → ¬ F k → w'.heap[k]? = w.heap[k]?

/-- What the body was handed to write in: the blocks, and where the boxes and the rows (numbers 1000 to 1999) lie. -/
structure Home where
  own : Nat → Prop
  box : Nat → Option Nat
  row : Nat → Option RowI
instance : CoeFun Home (fun _ => Nat → Prop) := ⟨Home.own⟩
structure HomeOk (F0 : Home) (s : St) (ω : Wh) : Prop where
  big : ∀ id, (F0.box id).isSome ∨ (F0.row id).isSome → s.n ≤ id ∧ 1000 ≤ id ∧ id < 2000
  box : ∀ id b, F0.box id = some b → (look s.box id).isSome → ω.box id = b
  row : ∀ id b, F0.row id = some b → (look s.row id).isSome → ω.row id = b

/-- The state s describes the frame a and the world w. -/
structure CI (P : Program) (w0 : World) (m0 : Mem) (F0 : Home) (s : St) (a : Act) (w : World) (m : Mem) (ω : Wh) : Prop where
  size : a.tmps.size = s.n
  defers : a.defers = []
  keeps : Keeps F0.own w0 w
  mle : Mem.le m0 m
  mold : ∀ x : Addr, x.block < w0.heap.size → ¬ F0 x.block → m x = m0 x
  ok : ∀ x v, m x = some v → w.cell? x = some v
  env : ∀ t x, look s.env t = some x → ARep m ω (a.tmps.getD t undef) x
  box : ∀ id ls, look s.box id = some ls → BoxRep m w ω id ls
  row : ∀ id r, look s.row id = some r → RowRep m w ω id r
  fresh : ∀ κ id, s.live κ id → ∀ k, ω.f κ id k → k < w.heap.size ∧ (w0.heap.size ≤ k ∨ F0 k) ∧ ∀ x v, m x = some v → x.block ≠ k
  apart : ∀ κ id κ' id', s.live κ id → s.live κ' id' → ∀ k, ω.f κ id k → ω.f κ' id' k → κ = κ' ∧ id = id'
  home : HomeOk F0 s ω

def Conc (P : Program) (w0 : World) (m0 : Mem) (F0 : Home) (s : St) (a : Act) (w : World) : Prop := ∃ m ω, CI P w0 m0 F0 s a w m ω

end Go.Bw
