/-
  THE LAYER, 13: one operation, as a formula over the state.
-/
import Derived.Test.YtinlgpgdinnefaaB12
set_option linter.unusedSimpArgs false
set_option linter.unusedVariables false
namespace Go.Bw
open Go.RowKit

section
variable {P : Program} {w0 : World} {m0 : Mem} {s s' : St} {a : Act} {w : World} {m : Mem} {ω : Wh} {F0 : Home} {T : TypeId → Option TI}

def mO {α : Type} (x : Option α) (k : α → Prop) : Prop := match x with | some y => k y | none => False
theorem mO_some {α : Type} {k : α → Prop} (y : α) : mO (some y) k = k y := rfl
theorem mO_none {α : Type} {k : α → Prop} : mO none k = False := rfl
theorem mO_elim {α : Type} {x : Option α} {k : α → Prop} (h : mO x k) : ∃ y, x = some y ∧ k y := by
  cases x with
  | none => cases h
  | some y => exact ⟨y, rfl, h⟩

/-- A quiet call, met by a contract. -/
def CallK (P : Program) (f : FuncId) (xs : List V) (k : A → Prop) : Prop := ∃ r, Sat P f xs r ∧ k (r.map L.clos)

def oneOf : Option A → Option L | some (.v (.one l)) => some l | _ => none
def boolOf : Option A → Option Bool | some (.v (.one (.bool b))) => some b | _ => none
def intOfA : Option A → Option Int | some (.v (.one (.int _ n))) => some n | _ => none
def tupOf : Option A → Option (List V) | some (.tup xs) => some xs | _ => none
def vOf : Option A → Option V | some (.v x) => some x | _ => none
def aggOf : Option A → Option (List L) | some (.v (.agg ls)) => some ls | _ => none
theorem oneOf_some {x : Option A} {l : L} (h : oneOf x = some l) : x = some (.v (.one l)) := by
  unfold oneOf at h; split at h <;> simp_all
theorem boolOf_some {x : Option A} {b : Bool} (h : boolOf x = some b) : x = some (.v (.one (.bool b))) := by
  unfold boolOf at h; split at h <;> simp_all
theorem intOfA_some {x : Option A} {n : Int} (h : intOfA x = some n) : ∃ k, x = some (.v (.one (.int k n))) := by
  unfold intOfA at h; split at h <;> simp_all
theorem tupOf_some {x : Option A} {xs : List V} (h : tupOf x = some xs) : x = some (.tup xs) := by
  unfold tupOf at h; split at h <;> simp_all
theorem vOf_some {x : Option A} {y : V} (h : vOf x = some y) : x = some (.v y) := by
  unfold vOf at h; split at h <;> simp_all
theorem aggOf_some {x : Option A} {ls : List L} (h : aggOf x = some ls) : x = some (.v (.agg ls)) := by
  unfold aggOf at h; split at h <;> simp_all

/-- The element of a slice type. -/
def elemTI (T : TypeId → Option TI) (t : TypeId) : Option TI := (T t).bind fun i => i.elem.bind T
theorem elemTI_some (hT : TabOk P T) {t : TypeId} {j : TI} (h : elemTI T t = some j) : ∃ i e, T t = some i ∧ i.elem = some e ∧ T e = some j ∧ tiOk P t i = true ∧ tiOk P e j = true := by
  unfold elemTI at h
  cases hi : T t with
  | none => rw [hi] at h; cases h
  | some i =>
    rw [hi] at h
    simp only [Option.bind_some] at h
    cases he : i.elem with
    | none => rw [he] at h; cases h
    | some e =>
      rw [he] at h
      simp only [Option.bind_some] at h
      exact ⟨i, e, rfl, he, h, hT _ _ hi, hT _ _ h⟩
theorem convK_some {t : TypeId} {k : IntKind} (h : convK P t = some k) : P.underlying t = some (.int k) := by
  unfold convK at h
  split at h
  · injection h with h; subst h; assumption
  · cases h

/-! ### the continuations, by what the operand is -/
def loadK (s : St) (i : TI) (K : A → Prop) : L → Prop
  | .fz ls => mO (loadV i ls) fun z => K (.v z)
  | .ptr id off => mO (look s.box id) fun ls => mO (loadV i ((ls.drop off).map L.peek)) fun z => K (.v z)
  | .eptr id k off => mO (look s.row id) fun r => k < r.xs.length ∧ mO (loadV i ((overlay r.ov k 0 (r.xs.getD k [])).drop off)) fun z => K (.v z)
  | _ => False
def idxK (s : St) (j : TI) (n : Int) (K : A → Prop) : L → Prop
  | .sl sz xs => (0 ≤ n ∧ n < xs.length) ∧ j.size = sz ∧ K (.v (.one (.fz (xs.getD n.toNat []))))
  | .ref id lo q => mO (look s.row id) fun r => (0 ≤ n ∧ n < q) ∧ j.size = r.sz ∧ K (.v (.one (.eptr id (lo + n.toNat) 0)))
  | _ => False
def sliceK (T : TypeId → Option TI) (s : St) (t : TypeId) (lo hi : Option Operand) (K : A → Prop) : L → Prop
  | .str q => mO (T t) fun i => mO (boundN T s t 0 lo) fun l => mO (boundN T s t q.size hi) fun h => (0 ≤ l ∧ l ≤ h ∧ h ≤ q.size) ∧ i.isStr = true ∧ K (.v (.one (.str (q.extract l.toNat h.toNat))))
  | .sl sz xs => mO (elemTI T t) fun j => mO (boundN T s t 0 lo) fun l => mO (boundN T s t xs.length hi) fun h => (0 ≤ l ∧ l ≤ h ∧ h ≤ xs.length) ∧ j.size = sz ∧ K (.v (.one (.sl sz ((xs.take h.toNat).drop l.toNat))))
  | .ref id b q => mO (elemTI T t) fun j => mO (look s.row id) fun r => mO (boundN T s t 0 lo) fun l => mO (boundN T s t q hi) fun h => (0 ≤ l ∧ l ≤ h ∧ (h ≤ q ∨ (h ≤ r.xs.length - b ∧ b ≤ r.xs.length))) ∧ j.size = r.sz ∧ K (.v (.one (.ref id (b + l.toNat) (h.toNat - l.toNat))))
  | _ => False
def indexK (T : TypeId → Option TI) (s : St) (i : TI) (y : Operand) (K : A → Prop) : L → Prop
  | .str q => mO (intOfA (evalO T s 0 y)) fun n => (0 ≤ n ∧ n < q.size) ∧ i.isStr = true ∧ K (.v (.one (.int .u8 ((q.data.toList.getD n.toNat 0).toNat : Nat))))
  | _ => False
def binK (P : Program) (op : BinOp) (t : TypeId) (K : A → Prop) : V → V → Prop
  | .one l1, .one l2 => mO (binL P t op l1 l2) fun p => p.1 ∧ K (.v (.one p.2))
  | .agg xs, .agg ys => mO (eqK P t) fun ks => (xs.map L.kd = ks ∧ ys.map L.kd = ks) ∧ mO (eqCells xs ys) fun b => mO (eqOp op b) fun b' => K (.v (.one (.bool b')))
  | _, _ => False
def convKk (P : Program) (T : TypeId → Option TI) (t t' : TypeId) (K : A → Prop) : L → Prop
  | .int _ n => (P.underlying t).isSome = true ∧ mO (convK P t') fun k' => K (.v (.one (.int k' (k'.wrap n))))
  | .str q => mO (T t) fun i => mO (T t') fun i' => mO i'.elem fun e => (i.isStr = true ∧ convK P e = some .u8) ∧ K (.v (.one (.sl 1 (chunks 1 q.size (q.data.toList.map fun b => L.int .u8 b.toNat)))))
  | _ => False

/-- A quiet operation: what it gives. ('K': what is asked of the value.) -/
def VVal (P : Program) (T : TypeId → Option TI) (o : Oper) (s : St) (K : A → Prop) : Prop :=
  match o.op with
  | .move x => mO (evalO T s o.type x) K
  | .assign x => mO (evalO T s o.type x) K
  | .pick c x y => mO (boolOf (evalO T s 0 c)) fun b => mO (evalO T s o.type (if b then x else y)) K
  | .unOp .not _ x => mO (boolOf (evalO T s 0 x)) fun b => K (.v (.one (.bool !b)))
  | .load t x => mO (T t) fun i => mO (oneOf (evalO T s 0 x)) (loadK s i K)
  | .fieldAddr t x f => mO (T t) fun i => mO (oneOf (evalO T s 0 x)) fun y => mO (fieldOff i f) fun off => mO (moveL off y) fun z => K (.v (.one z))
  | .field t x f => mO (T t) fun i => mO i.fields fun l => mO l[f]? fun p => mO (T p.2) fun j => mO (aggOf (evalO T s 0 x)) fun ls => p.1 + j.size ≤ ls.length ∧ mO (asV j.agg ((ls.drop p.1).take j.size)) fun z => K (.v z)
  | .indexAddr t x y => mO (elemTI T t) fun j => mO (intOfA (evalO T s 0 y)) fun n => mO (oneOf (evalO T s 0 x)) (idxK s j n K)
  | .index t x y => mO (T t) fun i => mO (oneOf (evalO T s 0 x)) (indexK T s i y K)
  | .extract x k => mO (tupOf (evalO T s 0 x)) fun xs => mO xs[k]? fun y => K (.v y)
  | .binOp op t x y _ => mO (vOf (evalO T s t x)) fun v1 => mO (vOf (evalO T s t y)) fun v2 => binK P op t K v1 v2
  | .build t parts => mO (T t) fun i => mO i.fields fun l => mO i.zero fun z => mO (placesOf T l) fun pl => mO (fillL T s 0 (fun k => pl[k]?) z parts.toList) fun ls => K (.v (.agg ls))
  | .buildSlice t len parts => mO (elemTI T t) fun j => mO j.zero fun z => (z.length = j.size ∧ 0 < j.size ∧ len * j.size ≤ 16777216) ∧
      mO (fillL T s 0 (fun k => some (k * j.size, j.size)) (repL z len) parts.toList) fun ls => ls.all L.isFz = true ∧ K (.v (.one (.sl j.size (chunks j.size len ls))))
  | .makeFunc (.func f) first caps => first = #[] ∧ mO (capsOf s T 0 caps.toList) fun cs => K (.v (.one (.clo f cs)))
  | .slice t x lo hi none => mO (oneOf (evalO T s t x)) (sliceK T s t lo hi K)
  | .slice t x lo hi (some z) => mO (elemTI T t) fun _ => mO (oneOf (evalO T s t x)) fun v1 => mO (nL v1) fun n => mO (boundN T s t 0 lo) fun l => mO (boundN T s t n hi) fun h => mO (boundN T s t 0 (some z)) fun mx => (0 ≤ l ∧ l ≤ h ∧ h ≤ mx ∧ mx ≤ n) ∧ hi.isSome = true ∧ K (.v (.one .any))
  | .nilCheck x => mO (oneOf (evalO T s 0 x)) fun y => isPtrLike y = true ∧ K (.v (.one y))
  | .convert t t' x => mO (oneOf (evalO T s 0 x)) (convKk P T t t' K)
  | .call c => (match c.callee with
      | .builtin .len => (match c.args.toList, c.argTypes.toList with
        | [x], [t] => mO (T t) fun i => mO (oneOf (evalO T s t x)) fun l => mO (lenL l) fun n => lenKind i l = true ∧ K (.v (.one (.int .i64 n)))
        | _, _ => False)
      | .builtin .max => (match c.args.toList with
        | [x, y] => mO (oneOf (evalO T s 0 x)) fun l1 => mO (oneOf (evalO T s 0 y)) fun l2 => mO (maxL l1 l2) fun l => K (.v (.one l))
        | _ => False)
      | .builtin .min => (match c.args.toList with
        | [x, y] => mO (oneOf (evalO T s 0 x)) fun l1 => mO (oneOf (evalO T s 0 y)) fun l2 => mO (minL l1 l2) fun l => K (.v (.one l))
        | _ => False)
      | .value _ => mO (callOf T s c) fun p => CallK P p.1 p.2 K
      | _ => False)
  | _ => False

theorem slice_sound (hT : TabOk P T) {o : Oper} {t : TypeId} {x : Operand} {lo hi : Option Operand} {K : A → Prop} (ho : o.op = .slice t x lo hi none) (h : CI P w0 m0 F0 s a w m ω) {l : L} (hx : evalO T s t x = some (.v (.one l))) (hV : sliceK T s t lo hi K l) : ∃ x, K x ∧ GivesA P w0 m0 F0 s o x a w ω := by
  cases l with
  | str q =>
    obtain ⟨i, hi, hV⟩ := mO_elim hV
    obtain ⟨l, hl, hV⟩ := mO_elim hV
    obtain ⟨hh, hhi, hV⟩ := mO_elim hV
    obtain ⟨⟨h0, h1, h2⟩, hs, hK⟩ := hV
    exact ⟨_, hK, givesA_sliceStr ho (hT _ _ hi) hs h hx hl hhi h0 h1 h2⟩
  | sl sz xs =>
    obtain ⟨j, hj, hV⟩ := mO_elim hV
    obtain ⟨l, hl, hV⟩ := mO_elim hV
    obtain ⟨hh, hhi, hV⟩ := mO_elim hV
    obtain ⟨⟨h0, h1, h2⟩, hs, hK⟩ := hV
    obtain ⟨i, e, hi', he, hE, hti, htj⟩ := elemTI_some hT hj
    exact ⟨_, hK, givesA_slice ho hti he htj hs h hx hl hhi h0 h1 h2⟩
  | ref id b q =>
    obtain ⟨j, hj, hV⟩ := mO_elim hV
    obtain ⟨r, hr, hV⟩ := mO_elim hV
    obtain ⟨l, hl, hV⟩ := mO_elim hV
    obtain ⟨hh, hhi, hV⟩ := mO_elim hV
    obtain ⟨⟨h0, h1, h2⟩, hs, hK⟩ := hV
    obtain ⟨i, e, hi', he, hE, hti, htj⟩ := elemTI_some hT hj
    exact ⟨_, hK, givesA_sliceRef ho hti he htj h hx hr hs hl hhi h0 h1 (h2.imp (fun q => q) (fun q => ⟨by omega, q.2⟩))⟩
  | _ => cases hV

theorem VVal_sound (hT : TabOk P T) {o : Oper} {K : A → Prop} (hV : VVal P T o s K) (h : CI P w0 m0 F0 s a w m ω) : ∃ x, K x ∧ GivesA P w0 m0 F0 s o x a w ω := by
  unfold VVal at hV
  split at hV
  case h_1 x ho => obtain ⟨y, hy, hK⟩ := mO_elim hV; exact ⟨y, hK, givesA_move ho h hy⟩
  case h_2 x ho => obtain ⟨y, hy, hK⟩ := mO_elim hV; exact ⟨_, hK, givesA_assign ho h hy⟩
  case h_3 c x y ho =>
    obtain ⟨b, hb, hV⟩ := mO_elim hV
    obtain ⟨z, hz, hK⟩ := mO_elim hV
    exact ⟨z, hK, givesA_pick ho h (boolOf_some hb) hz⟩
  case h_4 t x ho => obtain ⟨b, hb, hK⟩ := mO_elim hV; exact ⟨_, hK, givesA_not ho h (boolOf_some hb)⟩
  case h_5 t x ho =>
    obtain ⟨i, hi, hV⟩ := mO_elim hV
    obtain ⟨y, hy, hV⟩ := mO_elim hV
    have hy := oneOf_some hy
    cases y with
    | fz ls =>
      obtain ⟨z, hz, hK⟩ := mO_elim hV
      exact ⟨_, hK, givesA_load_fz ho (hT _ _ hi) h hy hz⟩
    | ptr id off =>
      obtain ⟨ls, hls, hV⟩ := mO_elim hV
      obtain ⟨z, hz, hK⟩ := mO_elim hV
      exact ⟨_, hK, givesA_load_ptr ho (hT _ _ hi) h hy hls hz⟩
    | eptr id k off =>
      obtain ⟨r, hr, hk, hV⟩ := mO_elim hV
      obtain ⟨z, hz, hK⟩ := mO_elim hV
      exact ⟨_, hK, givesA_load_eptr ho (hT _ _ hi) h hy hr hk hz⟩
    | _ => cases hV
  case h_6 t x f ho =>
    obtain ⟨i, hi, hV⟩ := mO_elim hV
    obtain ⟨y, hy, hV⟩ := mO_elim hV
    obtain ⟨off, hoff, hV⟩ := mO_elim hV
    obtain ⟨z, hz, hK⟩ := mO_elim hV
    exact ⟨_, hK, givesA_fieldAddr ho (hT _ _ hi) h (oneOf_some hy) hoff hz⟩
  case h_7 t x f ho =>
    obtain ⟨i, hi, hV⟩ := mO_elim hV
    obtain ⟨l, hl, hV⟩ := mO_elim hV
    obtain ⟨⟨off, ft⟩, hp, hV⟩ := mO_elim hV
    obtain ⟨j, hj, hV⟩ := mO_elim hV
    obtain ⟨ls, hls, hfit, hV⟩ := mO_elim hV
    obtain ⟨z, hz, hK⟩ := mO_elim hV
    exact ⟨_, hK, givesA_field ho (hT _ _ hi) hl hp (hT _ _ hj) h (aggOf_some hls) hfit hz⟩
  case h_8 t x y ho =>
    obtain ⟨j, hj, hV⟩ := mO_elim hV
    obtain ⟨n, hn, hV⟩ := mO_elim hV
    obtain ⟨l, hx, hV⟩ := mO_elim hV
    obtain ⟨k, hn⟩ := intOfA_some hn
    have hx := oneOf_some hx
    obtain ⟨i, e, hi, he, hE, hti, htj⟩ := elemTI_some hT hj
    cases l with
    | sl sz xs =>
      obtain ⟨⟨h0, h1⟩, hs, hK⟩ := hV
      exact ⟨_, hK, givesA_indexAddr ho hti he htj hs h hx hn h0 h1⟩
    | ref id lo q =>
      obtain ⟨r, hr, ⟨h0, h1⟩, hs, hK⟩ := mO_elim hV
      exact ⟨_, hK, givesA_indexRef ho hti he htj h hx hr hs hn h0 h1⟩
    | _ => cases hV
  case h_9 t x y ho =>
    obtain ⟨i, hi, hV⟩ := mO_elim hV
    obtain ⟨l, hl, hV⟩ := mO_elim hV
    cases l with
    | str q =>
      obtain ⟨n, hn, hV⟩ := mO_elim hV
      obtain ⟨⟨h0, h1⟩, hs, hK⟩ := hV
      obtain ⟨k, hn⟩ := intOfA_some hn
      exact ⟨_, hK, givesA_index ho (hT _ _ hi) hs h (oneOf_some hl) hn h0 h1⟩
    | _ => cases hV
  case h_10 x k ho =>
    obtain ⟨xs, hx, hV⟩ := mO_elim hV
    obtain ⟨y, hy, hK⟩ := mO_elim hV
    exact ⟨_, hK, givesA_extract ho h (tupOf_some hx) hy⟩
  case h_11 op t x y t' ho =>
    obtain ⟨v1, h1, hV⟩ := mO_elim hV
    obtain ⟨v2, h2, hV⟩ := mO_elim hV
    unfold binK at hV
    split at hV
    · obtain ⟨⟨p, l⟩, h3, hp, hK⟩ := mO_elim hV
      exact ⟨_, hK, givesA_binOp ho h (vOf_some h1) (vOf_some h2) h3 hp⟩
    · obtain ⟨ks, hk, ⟨h3, h4⟩, hV⟩ := mO_elim hV
      obtain ⟨b, hb, hV⟩ := mO_elim hV
      obtain ⟨b', hb', hK⟩ := mO_elim hV
      exact ⟨_, hK, givesA_eqAgg ho hk h (vOf_some h1) (vOf_some h2) h3 h4 hb hb'⟩
    · cases hV
  case h_12 t parts ho =>
    obtain ⟨i, hi, hV⟩ := mO_elim hV
    obtain ⟨l, hl, hV⟩ := mO_elim hV
    obtain ⟨z, hz, hV⟩ := mO_elim hV
    obtain ⟨pl, hp, hV⟩ := mO_elim hV
    obtain ⟨ls, hls, hK⟩ := mO_elim hV
    exact ⟨_, hK, givesA_build ho hT hi hl hz hp h hls⟩
  case h_13 t len parts ho =>
    obtain ⟨j, hj, hV⟩ := mO_elim hV
    obtain ⟨z, hz, hc, hV⟩ := mO_elim hV
    obtain ⟨ls, hls, hfz, hK⟩ := mO_elim hV
    obtain ⟨i, e, hi, he, hE, hti, htj⟩ := elemTI_some hT hj
    exact ⟨_, hK, givesA_buildSlice ho hT hi he hE hz hc.1 hc.2.1 hc.2.2 h hls hfz⟩
  case h_14 f first caps ho =>
    obtain ⟨rfl, hV⟩ := hV
    obtain ⟨cs, hcs, hK⟩ := mO_elim hV
    exact ⟨_, hK, givesA_makeFunc ho h hcs⟩
  case h_15 t x lo hi ho =>
    obtain ⟨l, hl, hV⟩ := mO_elim hV
    exact slice_sound hT ho h (oneOf_some hl) hV
  case h_16 t x lo hi z ho =>
    obtain ⟨j, hj, hV⟩ := mO_elim hV
    obtain ⟨v1, hx, hV⟩ := mO_elim hV
    obtain ⟨n, hn, hV⟩ := mO_elim hV
    obtain ⟨l, hl, hV⟩ := mO_elim hV
    obtain ⟨hh, hhi, hV⟩ := mO_elim hV
    obtain ⟨mx, hmx, hV⟩ := mO_elim hV
    obtain ⟨⟨h0, h1, h2, h3⟩, hs, hK⟩ := hV
    obtain ⟨i, e, hi', he, hE, hti, htj⟩ := elemTI_some hT hj
    exact ⟨_, hK, givesA_slice3 ho hti he htj h (oneOf_some hx) hn hl hhi hs hmx h0 h1 h2 h3⟩
  case h_17 x ho =>
    obtain ⟨y, hy, hp, hK⟩ := mO_elim hV
    exact ⟨_, hK, givesA_nilCheck ho h (oneOf_some hy) hp⟩
  case h_18 t t' x ho =>
    obtain ⟨l, hl, hV⟩ := mO_elim hV
    cases l with
    | int k n =>
      obtain ⟨hs, hV⟩ := hV
      obtain ⟨k', hk, hK⟩ := mO_elim hV
      exact ⟨_, hK, givesA_convInt ho hs (convK_some hk) h (oneOf_some hl)⟩
    | str q =>
      obtain ⟨i, hi, hV⟩ := mO_elim hV
      obtain ⟨i', hi', hV⟩ := mO_elim hV
      obtain ⟨e, he, ⟨hs, hk⟩, hK⟩ := mO_elim hV
      exact ⟨_, hK, givesA_strBytes ho (hT _ _ hi) hs (hT _ _ hi') he (convK_some hk) h (oneOf_some hl)⟩
    | _ => cases hV
  case h_19 c ho =>
    split at hV
    · rename_i hcal
      split at hV
      · rename_i x t hargs htys
        obtain ⟨i, hi, hV⟩ := mO_elim hV
        obtain ⟨l, hl, hV⟩ := mO_elim hV
        obtain ⟨n, hn, hk, hK⟩ := mO_elim hV
        refine ⟨_, hK, ?_⟩
        have hc : c = { callee := .builtin .len, args := #[x], argTypes := #[t] } := by
          cases c with
          | mk cl as tys =>
            simp only at hcal hargs htys
            have e1 : as = #[x] := by apply Array.ext'; simpa using hargs
            have e2 : tys = #[t] := by apply Array.ext'; simpa using htys
            subst hcal e1 e2
            rfl
        rw [hc] at ho
        exact givesA_len ho (hT _ _ hi) h (oneOf_some hl) hn hk
      · cases hV
    · rename_i hcal
      split at hV
      · rename_i x y hargs
        obtain ⟨l1, h1, hV⟩ := mO_elim hV
        obtain ⟨l2, h2, hV⟩ := mO_elim hV
        obtain ⟨l, hl, hK⟩ := mO_elim hV
        refine ⟨_, hK, ?_⟩
        have hc : c = { callee := .builtin .max, args := #[x, y], argTypes := c.argTypes } := by
          cases c with
          | mk cl as tys =>
            simp only at hcal hargs
            have e1 : as = #[x, y] := by apply Array.ext'; simpa using hargs
            subst hcal e1
            rfl
        rw [hc] at ho
        exact givesA_max ho h (oneOf_some h1) (oneOf_some h2) hl
      · cases hV
    · rename_i hcal
      split at hV
      · rename_i x y hargs
        obtain ⟨l1, h1, hV⟩ := mO_elim hV
        obtain ⟨l2, h2, hV⟩ := mO_elim hV
        obtain ⟨l, hl, hK⟩ := mO_elim hV
        refine ⟨_, hK, ?_⟩
        have hc : c = { callee := .builtin .min, args := #[x, y], argTypes := c.argTypes } := by
          cases c with
          | mk cl as tys =>
            simp only at hcal hargs
            have e1 : as = #[x, y] := by apply Array.ext'; simpa using hargs
            subst hcal e1
            rfl
        rw [hc] at ho
        exact givesA_min ho h (oneOf_some h1) (oneOf_some h2) hl
      · cases hV
    · obtain ⟨⟨f, xs⟩, hc, r, hS, hK⟩ := mO_elim hV
      exact ⟨_, hK, gives_call ho h hc hS⟩
    · cases hV
  case h_20 => cases hV

/-! ### a call, whatever it does -/
def CallMoves (P : Program) (f : FuncId) (xs : List V) (s : St) (d : Option Tmp) (s' : St) : Prop :=
  ∀ (w0 : World) (m0 : Mem) (F0 : Home) (a : Act) (w : World) (m : Mem) (ω : Wh), CI P w0 m0 F0 s a w m ω → ∀ vs : List Value, ArgsRep m ω vs xs → CallsR P f vs.toArray w fun v w' => Conc P w0 m0 F0 s' (a.put d v) w'
def CallG (P : Program) (f : FuncId) (xs : List V) (s : St) (d : Option Tmp) (K : St → Prop) : Prop := ∃ s', CallMoves P f xs s d s' ∧ K s'
theorem CallsR.mono {f : FuncId} {args : Array Value} {R R' : Value → World → Prop} (h : CallsR P f args w R) (hR : ∀ v w', R v w' → R' v w') : CallsR P f args w R' := by
  rcases h with ⟨v, w', h1, h2⟩ | ⟨h1, h2⟩
  · exact .inl ⟨v, w', h1, hR _ _ h2⟩
  · exact .inr ⟨h1, h2.mono fun e w' ⟨v, he, hr⟩ => ⟨v, he, hR _ _ hr⟩⟩
theorem CallMoves.pure {f : FuncId} {xs : List V} {r : A} {d : Option Tmp} (hd : s.okD d) (hS : Sat P f xs r) : CallMoves P f xs s d (s.putO d (r.map L.clos)) := by
  intro w0 m0 F0 a w m ω h vs hA
  refine (hS.call m w vs ω (CI.none h.ok) hA).mono fun v w' hp => ?_
  obtain ⟨m', ω', hC, hv⟩ := hp
  refine ⟨m', ω, (h.grow ⟨hC.keeps.os, hC.keeps.tape, hC.keeps.output, hC.keeps.size, fun k hk => hC.keeps.block k hk owned_none⟩ hC.mle (fun x hx => hC.mold x hx owned_none) hC.ok).putO hd ?_⟩
  exact hv.map fun v l hl => L.clos_e hl
theorem CallMoves.lent {f : FuncId} {xs : List V} {r : A} {d : Option Tmp} (hd : s.okD d) (hS : Sat P f (xs.map fun x => x.map (frzV 4 s)) r) : CallMoves P f xs s d (s.putO d (r.map L.flat)) := by
  intro w0 m0 F0 a w m ω h vs h2
  let F : Nat → Prop := Owned s ω
  have hF : ∀ x v, m x = some v → ¬ F x.block := by
    rintro x v hx ⟨κ, id, hl, hk⟩
    exact (h.fresh κ id hl _ hk).2.2 x v hx rfl
  have hle := frzMem_le (w := w) hF
  have hA : ArgsRep (frzMem m w F) ω vs (xs.map fun x => x.map (frzV 4 s)) := by
    refine ⟨by simpa using h2.1, fun i x hi => ?_⟩
    rw [List.getElem?_map, Option.map_eq_some_iff] at hi
    obtain ⟨x0, hi, rfl⟩ := hi
    obtain ⟨v, h3, h4⟩ := h2.2 i x0 hi
    exact ⟨v, h3, h4.map fun v l hl => (frzV_sound h hle (fun κ id hl x hx => frzMem_in (m := m) ⟨κ, id, hl, hx⟩) 4 v l hl).erep⟩
  refine (hS.call _ w vs ω (CI.none (frzMem_ok h.ok)) hA).mono fun v w' hp => ?_
  obtain ⟨m', ω', hC, hv⟩ := hp
  have hlt : ∀ k, F k → k < w.heap.size := fun k ⟨κ, id, hl, hk⟩ => (h.fresh κ id hl k hk).1
  refine ⟨cutMem m' F, ω, (h.grow ⟨hC.keeps.os, hC.keeps.tape, hC.keeps.output, hC.keeps.size, fun k hk => hC.keeps.block k hk owned_none⟩ (fun x v hx => ?_) (fun x hx => ?_) (fun x v hx => ?_)).putO hd (hv.map fun v l hl => L.flat_e hl)⟩
  · rw [cutMem_out (hF x v hx)]
    exact hC.mle x v (hle x v hx)
  · by_cases hb : F x.block
    · rw [cutMem_in hb]
      cases hm : m x with
      | none => rfl
      | some v => exact absurd hb (hF x v hm)
    · rw [cutMem_out hb, hC.mold x hx owned_none, frzMem_out hb]
  · by_cases hb : F x.block
    · rw [cutMem_in hb] at hx; cases hx
    · rw [cutMem_out hb] at hx
      exact hC.ok x v hx
theorem CallG.pure {f : FuncId} {xs : List V} {r : A} {d : Option Tmp} {K : St → Prop} (hS : Sat P f xs r) (h : s.okD d ∧ K (s.putO d (r.map L.clos))) : CallG P f xs s d K := ⟨_, .pure h.1 hS, h.2⟩
theorem CallG.lent {f : FuncId} {xs ys : List V} {r : A} {d : Option Tmp} {K : St → Prop} (hS : Sat P f ys r) (hy : (xs.map fun x => x.map (frzV 4 s)) = ys) (h : s.okD d ∧ K (s.putO d (r.map L.flat))) : CallG P f xs s d K := ⟨_, .lent h.1 (hy ▸ hS), h.2⟩

/-! ### any operation -/
def pk (s : St) (d : Option Tmp) (K : St → Prop) (y : A) : Prop := match d with | some d => d < s.n ∧ K (s.put d y) | none => K s
theorem pk_elim {d : Option Tmp} {K : St → Prop} {y : A} (h : pk s d K y) : s.okD d ∧ K (s.putO d y) := by
  unfold pk at h
  split at h
  · exact h
  · exact ⟨trivial, h⟩

def assignK (s : St) (d : Option Tmp) (K : St → Prop) (e : Option A) : Prop := match d with
  | some d => (match e with
    | some (.v (.one (.nil z))) => d < s.n ∧ K (s.nilRow d z)
    | some (.v (.one (.ref id lo n))) => mO (look s.row id) fun r => d < s.n ∧ K (s.takeRow id d lo n r)
    | some y => d < s.n ∧ K (s.put d y)
    | none => False)
  | none => False
def storeK (s : St) (i : TI) (vs : List L) (K : St → Prop) : L → Prop
  | .ptr id off => mO (look s.box id) fun ls => (vs.length = i.size ∧ off + vs.length ≤ ls.length) ∧ K { s with box := sput id (setL off vs ls) s.box }
  | .eptr id k off => mO (look s.row id) fun r => (vs.length = i.size ∧ k < r.xs.length ∧ off + vs.length ≤ r.sz) ∧ K { s with row := sput id (r.store k off vs) s.row }
  | _ => False
/-- What is appended. -/
def ysOf (s : St) (j : TI) : L → Option (Nat × List (List L) × List (Nat × Nat × L) × Prop)
  | .sl sz ys => some (sz, ys, [], True)
  | .nil _ => some (j.size, [], [], True)
  | .ref id lo n => match look s.row id with
    | some r => match r.ov with
      | [] => some (r.sz, (r.xs.drop lo).take n, [], lo + n ≤ r.xs.length ∧ noOwn r.xs)
      | ov => some (r.sz, r.xs, ov, lo = 0 ∧ n = r.xs.length ∧ noOwn r.xs)
    | none => none
  | _ => none
def dstOf (s : St) (j : TI) : L → Option (Option Nat × Nat × List (List L) × Prop)
  | .nil _ => some (none, j.size, [], True)
  | .ref id lo n => match look s.row id with
    | some r => some (some id, r.sz, r.xs.take n, lo = 0 ∧ r.ov = [] ∧ n ≤ r.xs.length)
    | none => none
  | _ => none

theorem ysOf_sound (h : CI P w0 m0 F0 s a w m ω) {j : TI} {v : Value} {l : L} {sz : Nat} {ys : List (List L)} {ov : List (Nat × Nat × L)} {p : Prop} (hy : ysOf s j l = some (sz, ys, ov, p)) (hp : p) (hl : ERep m ω v l) : SliceRd m w ω v sz ys ov := by
  cases l <;> simp only [ysOf, reduceCtorEq, Option.some.injEq, Prod.mk.injEq] at hy
  · obtain ⟨rfl, rfl, rfl, _⟩ := hy
    exact sliceRd_sl h.ok hl
  · obtain ⟨rfl, rfl, rfl, _⟩ := hy
    exact sliceRd_nil hl _
  · rename_i id lo n
    split at hy
    · rename_i r hr
      split at hy
      · rename_i hov
        simp only [Option.some.injEq, Prod.mk.injEq] at hy
        obtain ⟨rfl, rfl, rfl, rfl⟩ := hy
        exact sliceRd_ref h hl hr hp.1 hp.2 (fun i j _ => by rw [hov]; rfl)
      · simp only [Option.some.injEq, Prod.mk.injEq] at hy
        obtain ⟨rfl, rfl, rfl, rfl⟩ := hy
        obtain ⟨rfl, rfl, ho⟩ := hp
        have := sliceRd_ref (ov := r.ov) h hl hr (by omega) ho (fun i j _ => by rw [Nat.zero_add])
        simpa using this
    · cases hy
theorem dstOf_sound {j : TI} {l : L} {src : Option Nat} {sz : Nat} {xs : List (List L)} {p : Prop} (hy : dstOf s j l = some (src, sz, xs, p)) (hp : p) : Dst s l sz xs src := by
  cases l <;> simp only [dstOf, reduceCtorEq, Option.some.injEq, Prod.mk.injEq] at hy
  · obtain ⟨rfl, rfl, rfl, _⟩ := hy
    exact .nil _ _
  · split at hy
    · rename_i r hr
      simp only [Option.some.injEq, Prod.mk.injEq] at hy
      obtain ⟨rfl, rfl, rfl, rfl⟩ := hy
      obtain ⟨rfl, h1, h2⟩ := hp
      exact .ref _ _ r hr h1 h2
    · cases hy

/-- Any operation. -/
def VOp (P : Program) (T : TypeId → Option TI) (o : Oper) (s : St) (K : St → Prop) : Prop :=
  match o.op with
  | .assign x => assignK s o.dst K (evalO T s o.type x)
  | .box _ x => mO o.dst fun d => mO (partCells T s 0 x) fun ls => d < s.n ∧ K (s.newBox d ls)
  | .alloc e => mO o.dst fun d => mO (T e) fun i => mO i.zero fun ls => d < s.n ∧ K (s.newBox d ls)
  | .store t x y => o.dst = none ∧ mO (T t) fun i => mO (partCells T s 0 y) fun vs => mO (oneOf (evalO T s 0 x)) (storeK s i vs K)
  | .buildSlice t len parts => mO o.dst fun d => mO (elemTI T t) fun j => mO j.zero fun z => (z.length = j.size ∧ 0 < j.size ∧ len * j.size ≤ 16777216) ∧
      mO (fillL T s 0 (fun k => some (k * j.size, j.size)) (repL z len) parts.toList) fun ls => d < s.n ∧ K ((s.newRow0 none d (rowOf j.size len ls)).put d (.v (.one (.ref d 0 len))))
  | .call c => (match c.callee with
      | .builtin .append => mO o.dst fun d => (match c.args.toList, c.argTypes.toList with
        | [x, y], [t, t'] => t = t' ∧ mO (elemTI T t) fun j => mO j.zero fun z => mO (oneOf (evalO T s t x)) fun l1 => mO (oneOf (evalO T s t y)) fun l2 => mO (dstOf s j l1) fun p => mO (ysOf s j l2) fun q =>
            (p.2.2.2 ∧ q.2.2.2) ∧ (j.size = p.2.1 ∧ j.size = q.1 ∧ z.length = j.size) ∧ ((p.2.2.1.length + q.2.1.length) * j.bytes ≤ 140737488355328 ∧ p.2.2.1.length + q.2.1.length ≤ 9223372036854775807) ∧ d < s.n ∧ K (s.appended p.1 d p.2.1 (p.2.2.1 ++ q.2.1) (ovShift p.2.2.1.length q.2.2.1))
        | _, _ => False)
      | .value _ => mO (callOf T s c) fun p => CallG P p.1 p.2 s o.dst K
      | _ => VVal P T o s (pk s o.dst K))
  | .binOp .eql t x (.const (.slice none 0 0)) _ => mO (oneOf (evalO T s t x)) fun l => isSlice l = true ∧ mO (T t) fun i => i.elem.isSome = true ∧ ∀ b, (∀ n, nL l = some n → 0 < n → b = false) → pk s o.dst K (.v (.one (.bool b)))
  | _ => VVal P T o s (pk s o.dst K)

/-- What follows an operation. -/
def Follows (P : Program) (w0 : World) (m0 : Mem) (F0 : Home) (o : Oper) (a : Act) (w : World) (K : St → Prop) : Prop :=
  ∀ next Q, (∀ s' a' w', K s' → Conc P w0 m0 F0 s' a' w' → next a' w') → o.wp P a w next Q

theorem Moves.follows {o : Oper} {s' : St} {K : St → Prop} (h : Moves P w0 m0 F0 o a w s') (hK : K s') : Follows P w0 m0 F0 o a w K :=
  fun next Q hn => h next Q fun _ w' hc => hn s' _ w' hK hc

theorem follows_of_val (hT : TabOk P T) {o : Oper} {K : St → Prop} (hV : VVal P T o s (pk s o.dst K)) (h : CI P w0 m0 F0 s a w m ω) : Follows P w0 m0 F0 o a w K := by
  obtain ⟨x, hx, hG⟩ := VVal_sound hT hV h
  have hd := pk_elim hx
  exact (hG.moves hd.1).follows hd.2

theorem VOp_sound (hT : TabOk P T) {o : Oper} {K : St → Prop} (hV : VOp P T o s K) (h : CI P w0 m0 F0 s a w m ω) : Follows P w0 m0 F0 o a w K := by
  unfold VOp at hV
  split at hV
  case h_1 x ho =>
    unfold assignK at hV
    split at hV
    · rename_i d hd
      split at hV
      · rename_i z hz
        exact (moves_nilRow ho hd hV.1 h hz).follows hV.2
      · rename_i id lo n hz
        obtain ⟨r, hr, hn, hK⟩ := mO_elim hV
        exact (moves_takeRow ho hd hn h hz hr).follows hK
      · rename_i y hy
        have := (givesA_assign ho h hy).moves (by rw [hd]; exact hV.1)
        rw [hd] at this
        exact this.follows hV.2
      · cases hV
    · cases hV
  case h_2 e x ho =>
    obtain ⟨d, hd, hV⟩ := mO_elim hV
    obtain ⟨ls, hls, hn, hK⟩ := mO_elim hV
    exact (moves_box ho hd hn h hls).follows hK
  case h_3 e ho =>
    obtain ⟨d, hd, hV⟩ := mO_elim hV
    obtain ⟨i, hi, hV⟩ := mO_elim hV
    obtain ⟨ls, hls, hn, hK⟩ := mO_elim hV
    exact (moves_alloc ho hd hn (hT _ _ hi) hls h).follows hK
  case h_4 t x y ho =>
    obtain ⟨hd, hV⟩ := hV
    obtain ⟨i, hi, hV⟩ := mO_elim hV
    obtain ⟨vs, hvs, hV⟩ := mO_elim hV
    obtain ⟨l, hl, hV⟩ := mO_elim hV
    have hl := oneOf_some hl
    cases l with
    | ptr id off =>
      obtain ⟨ls, hls, ⟨h1, h2⟩, hK⟩ := mO_elim hV
      exact (moves_store ho hd (hT _ _ hi) h hl hls hvs h1 h2).follows hK
    | eptr id k off =>
      obtain ⟨r, hr, ⟨h1, h2, h3⟩, hK⟩ := mO_elim hV
      exact (moves_storeRow ho hd (hT _ _ hi) h hl hr hvs h1 h2 h3).follows hK
    | _ => cases hV
  case h_5 t len parts ho =>
    obtain ⟨d, hd, hV⟩ := mO_elim hV
    obtain ⟨j, hj, hV⟩ := mO_elim hV
    obtain ⟨z, hz, hc, hV⟩ := mO_elim hV
    obtain ⟨ls, hls, hn, hK⟩ := mO_elim hV
    obtain ⟨i, e, hi, he, hE, hti, htj⟩ := elemTI_some hT hj
    exact (moves_buildSlice ho hd hn hT hi he hE hz hc.1 hc.2.1 hc.2.2 h hls).follows hK
  case h_6 c ho =>
    split at hV
    · rename_i hcal
      obtain ⟨d, hd, hV⟩ := mO_elim hV
      split at hV
      · rename_i x y t t' hargs htys
        obtain ⟨rfl, hV⟩ := hV
        obtain ⟨j, hj, hV⟩ := mO_elim hV
        obtain ⟨z, hz, hV⟩ := mO_elim hV
        obtain ⟨l1, hl1, hV⟩ := mO_elim hV
        obtain ⟨l2, hl2, hV⟩ := mO_elim hV
        obtain ⟨⟨src, sz, xs, p⟩, hs, hV⟩ := mO_elim hV
        obtain ⟨⟨sz', ys, ov, q⟩, hy, hV⟩ := mO_elim hV
        obtain ⟨⟨hp, hq⟩, ⟨h1, h2, h3⟩, ⟨h4, h5⟩, hn, hK⟩ := hV
        simp only at h1 h2 h3 h4 h5 hn hK hp hq
        obtain ⟨i, e, hi, he, hE, hti, htj⟩ := elemTI_some hT hj
        have hc : c = { callee := .builtin .append, args := #[x, y], argTypes := #[t, t] } := by
          cases c with
          | mk cl as tys =>
            simp only at hcal hargs htys
            have e1 : as = #[x, y] := by apply Array.ext'; simpa using hargs
            have e2 : tys = #[t, t] := by apply Array.ext'; simpa using htys
            subst hcal e1 e2
            rfl
        rw [hc] at ho
        have h2' : sz' = sz := by omega
        subst h2'
        exact (moves_append ho hd hn hti he htj hz h1 (h3.trans h1) h (oneOf_some hl1) (dstOf_sound hs hp) (ysOf_sound h hy hq (evalO_sound h (oneOf_some hl2))) h4 h5).follows hK
      · cases hV
    · obtain ⟨⟨f, xs⟩, hc, s', hM, hK⟩ := mO_elim hV
      obtain ⟨vs, h1, h2⟩ := callOf_sound ho h hc
      exact Moves.follows (gives_of_callsR h1 (hM _ _ _ a w m ω h vs h2)) hK
    · exact follows_of_val hT hV h
  case h_7 t x t' ho =>
    obtain ⟨l, hl, hs, hV⟩ := mO_elim hV
    obtain ⟨i, hi, he, hV⟩ := mO_elim hV
    obtain ⟨e, he⟩ := Option.isSome_iff_exists.1 he
    obtain ⟨b, hb, hG⟩ := gives_eqNil ho (hT _ _ hi) he h (oneOf_some hl) hs
    have hd := pk_elim (hV b hb)
    exact (hG.moves hd.1).follows hd.2
  case h_8 => exact follows_of_val hT hV h
end
end Go.Bw
