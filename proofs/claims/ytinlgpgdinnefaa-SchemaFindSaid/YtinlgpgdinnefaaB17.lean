/-
  THE LAYER, 17: what the walks' simp goes by.
-/
import Derived.Test.YtinlgpgdinnefaaB16
import Derived.IntWalk
set_option linter.unusedSimpArgs false
set_option linter.unusedVariables false
namespace Go.Bw

theorem look_nil {α : Type} (i : Nat) : look ([] : List (Nat × α)) i = none := rfl
theorem look_cons {α : Type} (t : Nat) (x : α) (e : List (Nat × α)) (i : Nat) : look ((t, x) :: e) i = if t = i then some x else look e i := rfl
theorem del_nil {α : Type} (i : Nat) : Bw.del i ([] : List (Nat × α)) = [] := rfl
theorem del_cons {α : Type} (i t : Nat) (x : α) (e : List (Nat × α)) : Bw.del i ((t, x) :: e) = if t = i then Bw.del i e else (t, x) :: Bw.del i e := rfl
theorem put_mk (n : Nat) (e : List (Nat × A)) (b : Boxes) (k : Rows) (d : Nat) (x : A) : St.put ⟨n, e, b, k⟩ d x = ⟨n, (d, x) :: e, b, k⟩ := rfl
theorem putO_some (s : St) (d : Nat) (x : A) : s.putO (some d) x = s.put d x := rfl
theorem putO_none (s : St) (x : A) : s.putO none x = s := rfl
theorem okD_some (s : St) (d : Nat) : s.okD (some d) = (d < s.n) := rfl
theorem okD_none (s : St) : s.okD none = True := rfl
theorem pk_some (s : St) (d : Nat) (K : St → Prop) (y : A) : pk s (some d) K y = (d < s.n ∧ K (s.put d y)) := rfl
theorem pk_none (s : St) (K : St → Prop) (y : A) : pk s none K y = K s := rfl
theorem noBox_mk (n : Nat) (e : List (Nat × A)) (b : Boxes) (k : Rows) (id : Nat) : St.noBox ⟨n, e, b, k⟩ id = ⟨n, e.map fun p => (p.1, p.2.map (L.noPtr id)), (Bw.del id b).map fun p => (p.1, p.2.map (L.noPtr id)), k.map fun p => (p.1, p.2.map (L.noPtr id))⟩ := rfl
theorem noRow_mk (n : Nat) (e : List (Nat × A)) (b : Boxes) (k : Rows) (id : Nat) : St.noRow ⟨n, e, b, k⟩ id = ⟨n, e.map fun p => (p.1, p.2.map (L.noRow id)), b.map fun p => (p.1, p.2.map (L.noRow id)), (Bw.del id k).map fun p => (p.1, p.2.map (L.noRow id))⟩ := rfl
theorem newBox_eq (s : St) (d : Nat) (ls : List L) : s.newBox d ls = ({ s.noBox d with box := (d, ls.map (L.noPtr d)) :: (s.noBox d).box }).put d (.v (.one (.ptr d 0))) := rfl
theorem newRow0_eq (s : St) (src : Option Nat) (d : Nat) (r : RowC) : s.newRow0 src d r = { (s.killRow src).noRow d with row := (d, (r.kill src).map (L.noRow d)) :: ((s.killRow src).noRow d).row } := rfl
theorem rowMap_mk (g : L → L) (sz : Nat) (xs : List (List L)) (ov : List (Nat × Nat × L)) : RowC.map g ⟨sz, xs, ov⟩ = ⟨sz, xs, ov.map fun p => (p.1, p.2.1, g p.2.2)⟩ := rfl
theorem topL_int (kb kr : List Nat) (s : St) (k : IntKind) (n : Int) : topL kb kr s (.int k n) = .int k n := rfl
theorem topL_bool (kb kr : List Nat) (s : St) (b : Bool) : topL kb kr s (.bool b) = .bool b := rfl
theorem topL_str (kb kr : List Nat) (s : St) (b : ByteArray) : topL kb kr s (.str b) = .str b := rfl
theorem topL_sl (kb kr : List Nat) (s : St) (sz : Nat) (xs : List (List L)) : topL kb kr s (.sl sz xs) = .sl sz xs := rfl
theorem topL_nil (kb kr : List Nat) (s : St) (sz : Nat) : topL kb kr s (.nil sz) = .nil sz := rfl
theorem topL_own (kb kr : List Nat) (s : St) (sz : Nat) (xs : List (List L)) : topL kb kr s (.own sz xs) = .own sz xs := rfl
theorem topL_fz (kb kr : List Nat) (s : St) (ls : List L) : topL kb kr s (.fz ls) = .fz ls := rfl
theorem topL_any (kb kr : List Nat) (s : St) : topL kb kr s .any = .any := rfl
theorem topL_ref (kb kr : List Nat) (s : St) (id lo n : Nat) : topL kb kr s (.ref id lo n) = if kr.elem id then .ref id lo n else frzV 4 s (.ref id lo n) := rfl
theorem topL_ptr (kb kr : List Nat) (s : St) (id o : Nat) : topL kb kr s (.ptr id o) = if kb.elem id then .ptr id o else frzV 4 s (.ptr id o) := rfl
theorem topL_eptr (kb kr : List Nat) (s : St) (id i o : Nat) : topL kb kr s (.eptr id i o) = if kr.elem id then .eptr id i o else frzV 4 s (.eptr id i o) := rfl
theorem frzV_int (n : Nat) (s : St) (k : IntKind) (q : Int) : frzV (n + 1) s (.int k q) = .int k q := rfl
theorem frzV_bool (n : Nat) (s : St) (b : Bool) : frzV (n + 1) s (.bool b) = .bool b := rfl
theorem frzV_str (n : Nat) (s : St) (b : ByteArray) : frzV (n + 1) s (.str b) = .str b := rfl
theorem frzV_sl (n : Nat) (s : St) (sz : Nat) (xs : List (List L)) : frzV (n + 1) s (.sl sz xs) = .sl sz xs := rfl
theorem frzV_nil (n : Nat) (s : St) (sz : Nat) : frzV (n + 1) s (.nil sz) = .nil sz := rfl
theorem frzV_fz (n : Nat) (s : St) (ls : List L) : frzV (n + 1) s (.fz ls) = .fz ls := rfl
theorem frzV_any (n : Nat) (s : St) : frzV (n + 1) s .any = .any := rfl
theorem frzV_own (n : Nat) (s : St) (sz : Nat) (xs : List (List L)) : frzV (n + 1) s (.own sz xs) = .sl sz (xs.map fun x => x.map (L.frzN 3)) := rfl
theorem frzV_clo (n : Nat) (s : St) (f : FuncId) (caps : List L) : frzV (n + 1) s (.clo f caps) = .clo f (caps.map (frzV n s)) := rfl
theorem frzV_ref (n : Nat) (s : St) (id lo k : Nat) : frzV (n + 1) s (.ref id lo k) = match look s.row id with
    | some r => if lo + k ≤ r.xs.length then .sl r.sz (((frzRow (frzV n s) r).drop lo).take k) else .any
    | none => .any := rfl
theorem frzV_eptr (n : Nat) (s : St) (id i o : Nat) : frzV (n + 1) s (.eptr id i o) = match look s.row id with
    | some r => if i < r.xs.length then .fz (((frzRow (frzV n s) r).getD i []).drop o) else .any
    | none => .any := rfl
theorem frzV_ptr (n : Nat) (s : St) (id o : Nat) : frzV (n + 1) s (.ptr id o) = match look s.box id with
    | some ls => .fz ((ls.map (frzV n s)).drop o)
    | none => .any := rfl
theorem frzRow_nil (fr : L → L) (sz : Nat) (xs : List (List L)) : frzRow fr ⟨sz, xs, []⟩ = xs.map fun x => x.map (L.frzN 4) := rfl
theorem frzN_int (n : Nat) (k : IntKind) (q : Int) : L.frzN (n + 1) (.int k q) = .int k q := rfl
theorem frzN_bool (n : Nat) (b : Bool) : L.frzN (n + 1) (.bool b) = .bool b := rfl
theorem frzN_str (n : Nat) (b : ByteArray) : L.frzN (n + 1) (.str b) = .str b := rfl
theorem frzN_sl (n : Nat) (sz : Nat) (xs : List (List L)) : L.frzN (n + 1) (.sl sz xs) = .sl sz xs := rfl
theorem frzN_nil (n : Nat) (sz : Nat) : L.frzN (n + 1) (.nil sz) = .nil sz := rfl
theorem frzN_any (n : Nat) : L.frzN (n + 1) .any = .any := rfl
theorem frzN_own (n : Nat) (sz : Nat) (xs : List (List L)) : L.frzN (n + 1) (.own sz xs) = .sl sz (xs.map fun x => x.map (L.frzN n)) := rfl
theorem keepL_nil {α : Type} (e : List (Nat × α)) : keepL [] e = [] := by unfold keepL; simp
theorem keepL_nil' {α : Type} (k : List Nat) : keepL k ([] : List (Nat × α)) = [] := rfl
theorem keepL_cons {α : Type} (k : List Nat) (t : Nat) (x : α) (e : List (Nat × α)) : keepL k ((t, x) :: e) = if k.elem t then (t, x) :: keepL k e else keepL k e := by
  simp only [keepL, List.filter_cons]
theorem dropL_nil {α : Type} (e : List (Nat × α)) : dropL [] e = e := by unfold dropL; simp
theorem dropL_nil' {α : Type} (k : List Nat) : dropL k ([] : List (Nat × α)) = [] := rfl
theorem dropL_cons {α : Type} (k : List Nat) (t : Nat) (x : α) (e : List (Nat × α)) : dropL k ((t, x) :: e) = if k.elem t then dropL k e else (t, x) :: dropL k e := by
  simp only [dropL, List.filter_cons]
  cases k.elem t <;> rfl
theorem overlay_nil (i k : Nat) (l : L) (r : List L) : overlay [] i k (l :: r) = l.peek :: overlay [] i (k + 1) r := rfl
theorem overlay_nil' (ov : List (Nat × Nat × L)) (i k : Nat) : overlay ov i k [] = [] := rfl
theorem clos_int (k : IntKind) (q : Int) : L.clos (.int k q) = .int k q := rfl
theorem clos_bool (b : Bool) : L.clos (.bool b) = .bool b := rfl
theorem clos_str (b : ByteArray) : L.clos (.str b) = .str b := rfl
theorem clos_sl (sz : Nat) (xs : List (List L)) : L.clos (.sl sz xs) = .sl sz xs := rfl
theorem clos_nil (sz : Nat) : L.clos (.nil sz) = .nil sz := rfl
theorem clos_any : L.clos .any = .any := rfl
theorem clos_fz (ls : List L) : L.clos (.fz ls) = .fz ls := rfl

theorem noOwn_nil : noOwn [] = True := by simp [noOwn]
theorem noOwn_cons (x : List L) (r : List (List L)) : noOwn (x :: r) = ((x.all fun l => !l.isOwn) = true ∧ noOwn r) := by
  simp [noOwn]
theorem noOwn_append (x y : List (List L)) : noOwn (x ++ y) = (noOwn x ∧ noOwn y) := by
  simp only [noOwn, List.mem_append, eq_iff_iff]
  exact ⟨fun h => ⟨fun z hz => h z (.inl hz), fun z hz => h z (.inr hz)⟩, fun h z hz => hz.elim (h.1 z) (h.2 z)⟩
theorem noOwn_map {α : Type} {e : α → List L} (h : ∀ x, (e x).all (fun l => !l.isOwn) = true) (l : List α) : noOwn (l.map e) = True := by
  simp only [noOwn, eq_iff_iff, iff_true]
  intro x hx y hy
  obtain ⟨z, _, rfl⟩ := List.mem_map.1 hx
  simpa using List.all_eq_true.1 (h z) y hy
theorem thenQ_normal {R : St → Prop} {Q : Exit → St → Prop} {s : St} (h : R s) : thenQ R Q .normal s := h
theorem thenQ_ret {R : St → Prop} {Q : Exit → St → Prop} {s : St} (h : Q .ret s) : thenQ R Q .ret s := h
theorem thenQ_exit {R : St → Prop} {Q : Exit → St → Prop} {s : St} {id : Nat} (h : Q (.exit id) s) : thenQ R Q (.exit id) s := h
theorem blockQ_normal {id : Nat} {Q : Exit → St → Prop} {s : St} (h : Q .normal s) : blockQ id Q .normal s := h
theorem blockQ_ret {id : Nat} {Q : Exit → St → Prop} {s : St} (h : Q .ret s) : blockQ id Q .ret s := h
theorem blockQ_exit {id : Nat} {Q : Exit → St → Prop} {s : St} (h : Q .normal s) : blockQ id Q (.exit id) s := by simpa [blockQ] using h
theorem blockQ_exit_ne {id id' : Nat} {Q : Exit → St → Prop} {s : St} (hne : (id' == id) = false) (h : Q (.exit id') s) : blockQ id Q (.exit id') s := by
  have : id' ≠ id := by simpa using hne
  simpa [blockQ, this] using h
/-- Where ways meet again: the state behind x is said. -/
theorem AWP.cut {P : Program} {w0 : World} {m0 : Mem} {F0 : Home} {x z : Code} {Q Q3 : Exit → St → Prop} {s : St} (s1 : St) (h1 : AWP P w0 m0 F0 x (thenQ (fun s' => St.le s1 s') Q) s) (h2 : AWP P w0 m0 F0 z Q3 s1) : AWP P w0 m0 F0 x (thenQ (AWP P w0 m0 F0 z Q3) Q) s :=
  h1.mono fun e s' he => by
    cases e with
    | normal => exact AWP.weak he h2
    | _ => exact he
/-- The same, one piece ahead. -/
theorem AWP.join {P : Program} {w0 : World} {m0 : Mem} {F0 : Home} {x y z : Code} {Q Q3 : Exit → St → Prop} {s : St} (s1 : St)
    (h1 : AWP P w0 m0 F0 x (thenQ (AWP P w0 m0 F0 y (thenQ (fun s' => St.le s1 s') Q)) (thenQ (fun s' => St.le s1 s') Q)) s) (h2 : AWP P w0 m0 F0 z Q3 s1) :
    AWP P w0 m0 F0 x (thenQ (AWP P w0 m0 F0 y (thenQ (AWP P w0 m0 F0 z Q3) Q)) (thenQ (AWP P w0 m0 F0 z Q3) Q)) s :=
  h1.mono fun e s' he => by
    cases e with
    | normal => exact AWP.cut s1 he h2
    | _ => exact he


theorem getD_map_lt {α : Type} (f : α → List L) (xs : List α) (k : Nat) (h : k < xs.length) : (xs.map f).getD k [] = f xs[k] := by
  simp [List.getD, h]
theorem wrap_nat (k : Nat) (h : k < 9223372036854775807) : IntKind.i64.wrap ((k : Int) + 1) = ((k + 1 : Nat) : Int) := by
  rw [IntWalk.i64_in _ ⟨by omega, by omega⟩]; rfl
theorem wrap_succ (k : Nat) (h : k < 9223372036854775807) : IntKind.i64.wrap ((k : Int) + 1) = ((k + 1 : Nat) : Int) := wrap_nat k h
theorem wrap_in (n : Int) (h : -9223372036854775808 ≤ n ∧ n ≤ 9223372036854775807) : IntKind.i64.wrap n = n := IntWalk.i64_in n h
theorem Sat.cast {P : Program} {f : FuncId} {xs : List V} {r r' : A} (h : Sat P f xs r) (e : r = r') : Sat P f xs r' := e ▸ h

/-- 'mO', what follows kept out of the simplifier's sight: an argument that another one's type depends on is left alone. -/
class MTag {α : Type} (k : α → Prop) : Type where
instance {α : Type} (k : α → Prop) : MTag k := ⟨⟩
def mT {α : Type} (x : Option α) (k : α → Prop) [MTag k] : Prop := mO x k
theorem mT_some {α : Type} {k : α → Prop} [MTag k] (y : α) : mT (some y) k = k y := rfl

section
variable (P : Program) (T : TypeId → Option TI) (ops : Array Oper) (l : List Oper) (s : St) (K : St → Prop) (KA : A → Prop) (d : Option Tmp) (n : Tmp) (ty t t' : TypeId) (pos : String) (af : Array Edge) (x y z c : Operand) (op : Op) (g : Option (Nat × Bool))

theorem VOps_nil : VOps P T ops [] s K = K s := rfl
theorem VOps_cons : VOps P T ops (⟨d, op, ty, pos, af, none⟩ :: l) s K = VOp P T ⟨d, op, ty, pos, af, none⟩ s (fun s' => VOps P T ops l s' K) := rfl
theorem VHead_nil : VHead P T ops [] s K = K s := rfl
theorem VHead_cons : VHead P T ops (⟨d, op, ty, pos, af, none⟩ :: l) s K = VVal P T ⟨d, op, ty, pos, af, none⟩ s (pk s d fun s' => VHead P T ops l s' K) := rfl

/-- A guarded operation: its guard's slot. -/
def gSlot (ops : Array Oper) (j : Nat) : Option Tmp := (ops[j]?).bind (·.dst)
def gOf : Option A → Option (Option Bool) | some (.v (.one (.bool b))) => some (some b) | some (.tup []) => some none | _ => none
def guardB (ops : Array Oper) (s : St) (j : Nat) : Option (Option Bool) := match gSlot ops j with | some t => gOf (look s.env t) | none => none
theorem int_bne (x y : Int) : (x != y) = !(x == y) := rfl
/-- A guarded operation by its guard. All its parts are data: the simplifier finds nothing to do in it before the guard is known. -/
def GOn (P : Program) (T : TypeId → Option TI) (ops : Array Oper) (want : Bool) (d : Option Tmp) (op : Op) (ty : TypeId) (pos : String) (af : Array Edge) (l : List Oper) (s : St) (K : St → Prop) (b : Option Bool) : Prop :=
  match (match b with | some b => b == want | none => false) with
  | true => VOps P T ops (⟨d, op, ty, pos, af, none⟩ :: l) s K
  | false => pk s d (fun s' => VOps P T ops l s' K) (.tup [])
theorem GOn_tt : GOn P T ops true d op ty pos af l s K (some true) = VOps P T ops (⟨d, op, ty, pos, af, none⟩ :: l) s K := rfl
theorem GOn_ff : GOn P T ops false d op ty pos af l s K (some false) = VOps P T ops (⟨d, op, ty, pos, af, none⟩ :: l) s K := rfl
theorem GOn_tf : GOn P T ops true d op ty pos af l s K (some false) = pk s d (fun s' => VOps P T ops l s' K) (.tup []) := rfl
theorem GOn_ft : GOn P T ops false d op ty pos af l s K (some true) = pk s d (fun s' => VOps P T ops l s' K) (.tup []) := rfl
theorem GOn_none (want : Bool) : GOn P T ops want d op ty pos af l s K none = pk s d (fun s' => VOps P T ops l s' K) (.tup []) := rfl
theorem GOn_not (want b : Bool) : GOn P T ops want d op ty pos af l s K (some (!b)) = GOn P T ops (!want) d op ty pos af l s K (some b) := by cases b <;> cases want <;> rfl
theorem GOn.split {P : Program} {T : TypeId → Option TI} {ops : Array Oper} {want : Bool} {d : Option Tmp} {op : Op} {ty : TypeId} {pos : String} {af : Array Edge} {l : List Oper} {s : St} {K : St → Prop} {b : Bool} (h1 : b = true → GOn P T ops want d op ty pos af l s K (some true)) (h2 : b = false → GOn P T ops want d op ty pos af l s K (some false)) : GOn P T ops want d op ty pos af l s K (some b) := by cases b; exact h2 rfl; exact h1 rfl
theorem VOps_guard (j : Nat) (want : Bool) : VOps P T ops (⟨d, op, ty, pos, af, some (j, want)⟩ :: l) s K =
    mT (guardB ops s j) (GOn P T ops want d op ty pos af l s K) := by
  have : guardOf ops s ⟨d, op, ty, pos, af, some (j, want)⟩ = (guardB ops s j).map (fun b => match b with | some b => b == want | none => false) := by
    simp only [guardOf, guardB, gSlot]
    cases hb : (ops[j]?).bind (·.dst) with
    | none => rfl
    | some t =>
      simp only
      cases look s.env t with
      | none => rfl
      | some a => cases a with
        | v y => cases y with
          | one l => cases l <;> rfl
          | _ => rfl
        | tup xs => cases xs <;> rfl
  show (match guardOf ops s ⟨d, op, ty, pos, af, some (j, want)⟩ with
    | some true => VOp P T ⟨d, op, ty, pos, af, some (j, want)⟩ s fun s' => VOps P T ops l s' K | some false => pk s d (fun s' => VOps P T ops l s' K) (.tup []) | none => False) = _
  rw [this]
  cases guardB ops s j with
  | none => rfl
  | some b => simp only [Option.map_some, mT_some, GOn]; cases (match b with | some b => b == want | none => false) <;> rfl
/-- A guarded operation by its guard. All its parts are data: the simplifier finds nothing to do in it before the guard is known. -/
def HOn (P : Program) (T : TypeId → Option TI) (ops : Array Oper) (want : Bool) (d : Option Tmp) (op : Op) (ty : TypeId) (pos : String) (af : Array Edge) (l : List Oper) (s : St) (K : St → Prop) (b : Option Bool) : Prop :=
  match (match b with | some b => b == want | none => false) with
  | true => VHead P T ops (⟨d, op, ty, pos, af, none⟩ :: l) s K
  | false => pk s d (fun s' => VHead P T ops l s' K) (.tup [])
theorem HOn_tt : HOn P T ops true d op ty pos af l s K (some true) = VHead P T ops (⟨d, op, ty, pos, af, none⟩ :: l) s K := rfl
theorem HOn_ff : HOn P T ops false d op ty pos af l s K (some false) = VHead P T ops (⟨d, op, ty, pos, af, none⟩ :: l) s K := rfl
theorem HOn_tf : HOn P T ops true d op ty pos af l s K (some false) = pk s d (fun s' => VHead P T ops l s' K) (.tup []) := rfl
theorem HOn_ft : HOn P T ops false d op ty pos af l s K (some true) = pk s d (fun s' => VHead P T ops l s' K) (.tup []) := rfl
theorem HOn_none (want : Bool) : HOn P T ops want d op ty pos af l s K none = pk s d (fun s' => VHead P T ops l s' K) (.tup []) := rfl
theorem HOn_not (want b : Bool) : HOn P T ops want d op ty pos af l s K (some (!b)) = HOn P T ops (!want) d op ty pos af l s K (some b) := by cases b <;> cases want <;> rfl
theorem HOn.split {P : Program} {T : TypeId → Option TI} {ops : Array Oper} {want : Bool} {d : Option Tmp} {op : Op} {ty : TypeId} {pos : String} {af : Array Edge} {l : List Oper} {s : St} {K : St → Prop} {b : Bool} (h1 : b = true → HOn P T ops want d op ty pos af l s K (some true)) (h2 : b = false → HOn P T ops want d op ty pos af l s K (some false)) : HOn P T ops want d op ty pos af l s K (some b) := by cases b; exact h2 rfl; exact h1 rfl
theorem VHead_guard (j : Nat) (want : Bool) : VHead P T ops (⟨d, op, ty, pos, af, some (j, want)⟩ :: l) s K =
    mT (guardB ops s j) (HOn P T ops want d op ty pos af l s K) := by
  have : guardOf ops s ⟨d, op, ty, pos, af, some (j, want)⟩ = (guardB ops s j).map (fun b => match b with | some b => b == want | none => false) := by
    simp only [guardOf, guardB, gSlot]
    cases hb : (ops[j]?).bind (·.dst) with
    | none => rfl
    | some t =>
      simp only
      cases look s.env t with
      | none => rfl
      | some a => cases a with
        | v y => cases y with
          | one l => cases l <;> rfl
          | _ => rfl
        | tup xs => cases xs <;> rfl
  show (match guardOf ops s ⟨d, op, ty, pos, af, some (j, want)⟩ with
    | some true => VVal P T ⟨d, op, ty, pos, af, some (j, want)⟩ s (pk s d fun s' => VHead P T ops l s' K) | some false => pk s d (fun s' => VHead P T ops l s' K) (.tup []) | none => False) = _
  rw [this]
  cases guardB ops s j with
  | none => rfl
  | some b => simp only [Option.map_some, mT_some, HOn]; cases (match b with | some b => b == want | none => false) <;> rfl

/-- A call: all data. -/
def CallJ (P : Program) (T : TypeId → Option TI) (ops : Array Oper) (d : Option Tmp) (l : List Oper) (s : St) (K : St → Prop) (p : FuncId × List V) : Prop := CallG P p.1 p.2 s d fun s' => VOps P T ops l s' K
def CallH (P : Program) (T : TypeId → Option TI) (ops : Array Oper) (d : Option Tmp) (l : List Oper) (s : St) (K : St → Prop) (p : FuncId × List V) : Prop := CallK P p.1 p.2 (pk s d fun s' => VHead P T ops l s' K)
theorem VOp_callJ (f : Operand) (args : Array Operand) (tys : Array TypeId) : VOp P T ⟨d, .call ⟨.value f, args, tys⟩, ty, pos, af, none⟩ s (fun s' => VOps P T ops l s' K) = mT (callOf T s ⟨.value f, args, tys⟩) (CallJ P T ops d l s K) := rfl
theorem VVal_callH (f : Operand) (args : Array Operand) (tys : Array TypeId) : VVal P T ⟨d, .call ⟨.value f, args, tys⟩, ty, pos, af, none⟩ s (pk s d fun s' => VHead P T ops l s' K) = mT (callOf T s ⟨.value f, args, tys⟩) (CallH P T ops d l s K) := rfl
theorem CallJ.pure {P : Program} {T : TypeId → Option TI} {ops : Array Oper} {d : Option Tmp} {l : List Oper} {s : St} {K : St → Prop} {f : FuncId} {xs : List V} {r : A} (h : Sat P f xs r) (hk : s.okD d ∧ VOps P T ops l (s.putO d (r.map L.clos)) K) : CallJ P T ops d l s K (f, xs) := CallG.pure h hk
theorem CallJ.lent {P : Program} {T : TypeId → Option TI} {ops : Array Oper} {d : Option Tmp} {l : List Oper} {s : St} {K : St → Prop} {f : FuncId} {xs ys : List V} {r : A} (h : Sat P f ys r) (hy : (xs.map fun x => x.map (frzV 4 s)) = ys) (hk : s.okD d ∧ VOps P T ops l (s.putO d (r.map L.flat)) K) : CallJ P T ops d l s K (f, xs) := CallG.lent h hy hk
theorem CallJ.is {P : Program} {T : TypeId → Option TI} {ops : Array Oper} {d : Option Tmp} {l : List Oper} {s : St} {K : St → Prop} {p : FuncId × List V} (h : CallJ P T ops d l s K p) : CallJ P T ops d l s K p := h
theorem CallH.is {P : Program} {T : TypeId → Option TI} {ops : Array Oper} {d : Option Tmp} {l : List Oper} {s : St} {K : St → Prop} {p : FuncId × List V} (h : CallH P T ops d l s K p) : CallH P T ops d l s K p := h
theorem CallH.intro {P : Program} {T : TypeId → Option TI} {ops : Array Oper} {d : Option Tmp} {l : List Oper} {s : St} {K : St → Prop} {f : FuncId} {xs : List V} {r : A} (h : Sat P f xs r) (hk : pk s d (fun s' => VHead P T ops l s' K) (r.map L.clos)) : CallH P T ops d l s K (f, xs) := ⟨r, h, hk⟩

/-! ### quiet ones -/
theorem VVal_move : VVal P T ⟨d, .move x, ty, pos, af, g⟩ s KA = mT (evalO T s ty x) KA := rfl
theorem VVal_assign : VVal P T ⟨d, .assign x, ty, pos, af, g⟩ s KA = mT (evalO T s ty x) KA := rfl
/-- One of two, by a test: data, till the test is decided. -/
def pickK (T : TypeId → Option TI) (s : St) (ty : TypeId) (x y : Operand) (KA : A → Prop) [MTag KA] (b : Bool) : Prop := mO (evalO T s ty (if b then x else y)) KA
theorem pickK_true : pickK T s ty x y KA true = mT (evalO T s ty x) KA := rfl
theorem pickK_false : pickK T s ty x y KA false = mT (evalO T s ty y) KA := rfl
theorem pickK.split {T : TypeId → Option TI} {s : St} {ty : TypeId} {x y : Operand} {KA : A → Prop} {b : Bool} (h1 : b = true → pickK T s ty x y KA true) (h2 : b = false → pickK T s ty x y KA false) : pickK T s ty x y KA b := by cases b; exact h2 rfl; exact h1 rfl
theorem VVal_pickE : VVal P T ⟨d, .pick c x y, ty, pos, af, g⟩ s KA = mT (boolOf (evalO T s 0 c)) (pickK T s ty x y KA) := rfl
theorem VVal_not : VVal P T ⟨d, .unOp .not t x, ty, pos, af, g⟩ s KA = mT (boolOf (evalO T s 0 x)) fun b => KA (.v (.one (.bool !b))) := rfl
theorem VVal_load : VVal P T ⟨d, .load t x, ty, pos, af, g⟩ s KA = mT (T t) fun i => mT (oneOf (evalO T s 0 x)) (loadK s i KA) := rfl
theorem loadK_fz (i : TI) (ls : List L) : loadK s i KA (.fz ls) = mT (loadV i ls) fun z => KA (.v z) := rfl
theorem loadK_ptr (i : TI) (id o : Nat) : loadK s i KA (.ptr id o) = mT (look s.box id) fun ls => mT (loadV i ((ls.drop o).map L.peek)) fun z => KA (.v z) := rfl
theorem loadK_eptr (i : TI) (id k o : Nat) : loadK s i KA (.eptr id k o) = mT (look s.row id) fun r => k < r.xs.length ∧ mT (loadV i ((overlay r.ov k 0 (r.xs.getD k [])).drop o)) fun z => KA (.v z) := rfl
theorem VVal_fieldAddr (f : Nat) : VVal P T ⟨d, .fieldAddr t x f, ty, pos, af, g⟩ s KA = mT (T t) fun i => mT (oneOf (evalO T s 0 x)) fun y => mT (fieldOff i f) fun off => mT (moveL off y) fun z => KA (.v (.one z)) := rfl
theorem VVal_field (f : Nat) : VVal P T ⟨d, .field t x f, ty, pos, af, g⟩ s KA = mT (T t) fun i => mT i.fields fun l => mT l[f]? fun p => mT (T p.2) fun j => mT (aggOf (evalO T s 0 x)) fun ls => p.1 + j.size ≤ ls.length ∧ mT (asV j.agg ((ls.drop p.1).take j.size)) fun z => KA (.v z) := rfl
theorem VVal_indexAddr : VVal P T ⟨d, .indexAddr t x y, ty, pos, af, g⟩ s KA = mT (elemTI T t) fun j => mT (intOfA (evalO T s 0 y)) fun n => mT (oneOf (evalO T s 0 x)) (idxK s j n KA) := rfl
theorem idxK_sl (j : TI) (n : Int) (sz : Nat) (xs : List (List L)) : idxK s j n KA (.sl sz xs) = ((0 ≤ n ∧ n < xs.length) ∧ j.size = sz ∧ KA (.v (.one (.fz (xs.getD n.toNat []))))) := rfl
theorem idxK_ref (j : TI) (n : Int) (id lo q : Nat) : idxK s j n KA (.ref id lo q) = mT (look s.row id) fun r => (0 ≤ n ∧ n < q) ∧ j.size = r.sz ∧ KA (.v (.one (.eptr id (lo + n.toNat) 0))) := rfl
theorem VVal_index : VVal P T ⟨d, .index t x y, ty, pos, af, g⟩ s KA = mT (T t) fun i => mT (oneOf (evalO T s 0 x)) (indexK T s i y KA) := rfl
theorem indexK_str (i : TI) (q : ByteArray) : indexK T s i y KA (.str q) = mT (intOfA (evalO T s 0 y)) fun n => (0 ≤ n ∧ n < q.size) ∧ i.isStr = true ∧ KA (.v (.one (.int .u8 ((q.data.toList.getD n.toNat 0).toNat : Nat)))) := rfl
theorem VVal_extract (k : Nat) : VVal P T ⟨d, .extract x k, ty, pos, af, g⟩ s KA = mT (tupOf (evalO T s 0 x)) fun xs => mT xs[k]? fun y => KA (.v y) := rfl
theorem VVal_binOp (bo : BinOp) : VVal P T ⟨d, .binOp bo t x y t', ty, pos, af, g⟩ s KA = mT (vOf (evalO T s t x)) fun v1 => mT (vOf (evalO T s t y)) (binK P bo t KA v1) := rfl
theorem binK_one (bo : BinOp) (l1 l2 : L) : binK P bo t KA (.one l1) (.one l2) = mT (binL P t bo l1 l2) fun p => p.1 ∧ KA (.v (.one p.2)) := rfl
theorem binK_agg (bo : BinOp) (xs ys : List L) : binK P bo t KA (.agg xs) (.agg ys) = mT (eqK P t) fun ks => (xs.map L.kd = ks ∧ ys.map L.kd = ks) ∧ mT (eqCells xs ys) fun b => mT (eqOp bo b) fun b' => KA (.v (.one (.bool b'))) := rfl
theorem VVal_build (parts : Array (Nat × Operand)) : VVal P T ⟨d, .build t parts, ty, pos, af, g⟩ s KA = mT (T t) fun i => mT i.fields fun l => mT i.zero fun z => mT (placesOf T l) fun pl => mT (fillL T s 0 (fun k => pl[k]?) z parts.toList) fun ls => KA (.v (.agg ls)) := rfl
theorem VVal_buildSlice (len : Nat) (parts : Array (Nat × Operand)) : VVal P T ⟨d, .buildSlice t len parts, ty, pos, af, g⟩ s KA = mT (elemTI T t) fun j => mT j.zero fun z => (z.length = j.size ∧ 0 < j.size ∧ len * j.size ≤ 16777216) ∧
      mT (fillL T s 0 (fun k => some (k * j.size, j.size)) (repL z len) parts.toList) fun ls => ls.all L.isFz = true ∧ KA (.v (.one (.sl j.size (chunks j.size len ls)))) := rfl
theorem VVal_makeFunc (f : FuncId) (caps : Array Operand) : VVal P T ⟨d, .makeFunc (.func f) #[] caps, ty, pos, af, g⟩ s KA = mT (capsOf s T 0 caps.toList) fun cs => KA (.v (.one (.clo f cs))) := by
  show (#[] = #[] ∧ _) = _
  simp only [true_and]
  rfl
theorem VVal_slice (lo hi : Option Operand) : VVal P T ⟨d, .slice t x lo hi none, ty, pos, af, g⟩ s KA = mT (oneOf (evalO T s t x)) (sliceK T s t lo hi KA) := rfl
theorem sliceK_str (lo hi : Option Operand) (q : ByteArray) : sliceK T s t lo hi KA (.str q) = mT (T t) fun i => mT (boundN T s t 0 lo) fun l => mT (boundN T s t q.size hi) fun h => (0 ≤ l ∧ l ≤ h ∧ h ≤ q.size) ∧ i.isStr = true ∧ KA (.v (.one (.str (q.extract l.toNat h.toNat)))) := rfl
theorem sliceK_sl (lo hi : Option Operand) (sz : Nat) (xs : List (List L)) : sliceK T s t lo hi KA (.sl sz xs) = mT (elemTI T t) fun j => mT (boundN T s t 0 lo) fun l => mT (boundN T s t xs.length hi) fun h => (0 ≤ l ∧ l ≤ h ∧ h ≤ xs.length) ∧ j.size = sz ∧ KA (.v (.one (.sl sz ((xs.take h.toNat).drop l.toNat)))) := rfl
theorem sliceK_ref (lo hi : Option Operand) (id b q : Nat) : sliceK T s t lo hi KA (.ref id b q) = mT (elemTI T t) fun j => mT (look s.row id) fun r => mT (boundN T s t 0 lo) fun l => mT (boundN T s t q hi) fun h => (0 ≤ l ∧ l ≤ h ∧ (h ≤ q ∨ (h ≤ r.xs.length - b ∧ b ≤ r.xs.length))) ∧ j.size = r.sz ∧ KA (.v (.one (.ref id (b + l.toNat) (h.toNat - l.toNat)))) := rfl
theorem VVal_slice3 (lo hi : Option Operand) (z : Operand) : VVal P T ⟨d, .slice t x lo hi (some z), ty, pos, af, g⟩ s KA = mT (elemTI T t) fun _ => mT (oneOf (evalO T s t x)) fun v1 => mT (nL v1) fun n => mT (boundN T s t 0 lo) fun l => mT (boundN T s t n hi) fun h => mT (boundN T s t 0 (some z)) fun mx => (0 ≤ l ∧ l ≤ h ∧ h ≤ mx ∧ mx ≤ n) ∧ hi.isSome = true ∧ KA (.v (.one .any)) := rfl
theorem VVal_nilCheck : VVal P T ⟨d, .nilCheck x, ty, pos, af, g⟩ s KA = mT (oneOf (evalO T s 0 x)) fun y => isPtrLike y = true ∧ KA (.v (.one y)) := rfl
theorem VVal_convert : VVal P T ⟨d, .convert t t' x, ty, pos, af, g⟩ s KA = mT (oneOf (evalO T s 0 x)) (convKk P T t t' KA) := rfl
theorem convKk_int (k : IntKind) (q : Int) : convKk P T t t' KA (.int k q) = ((P.underlying t).isSome = true ∧ mT (convK P t') fun k' => KA (.v (.one (.int k' (k'.wrap q))))) := rfl
theorem convKk_str (q : ByteArray) : convKk P T t t' KA (.str q) = mT (T t) fun i => mT (T t') fun i' => mT i'.elem fun e => (i.isStr = true ∧ convK P e = some .u8) ∧ KA (.v (.one (.sl 1 (chunks 1 q.size (q.data.toList.map fun b => L.int .u8 b.toNat))))) := rfl
theorem VVal_len : VVal P T ⟨d, .call ⟨.builtin .len, #[x], #[t]⟩, ty, pos, af, g⟩ s KA = mT (T t) fun i => mT (oneOf (evalO T s t x)) fun l => mT (lenL l) fun n => lenKind i l = true ∧ KA (.v (.one (.int .i64 n))) := rfl
theorem VVal_max (tys : Array TypeId) : VVal P T ⟨d, .call ⟨.builtin .max, #[x, y], tys⟩, ty, pos, af, g⟩ s KA = mT (oneOf (evalO T s 0 x)) fun l1 => mT (oneOf (evalO T s 0 y)) fun l2 => mT (maxL l1 l2) fun l => KA (.v (.one l)) := rfl
theorem VVal_min (tys : Array TypeId) : VVal P T ⟨d, .call ⟨.builtin .min, #[x, y], tys⟩, ty, pos, af, g⟩ s KA = mT (oneOf (evalO T s 0 x)) fun l1 => mT (oneOf (evalO T s 0 y)) fun l2 => mT (minL l1 l2) fun l => KA (.v (.one l)) := rfl

/-! ### any -/
theorem VOp_assign : VOp P T ⟨d, .assign x, ty, pos, af, g⟩ s K = assignK s d K (evalO T s ty x) := rfl
theorem assignK_int (k : IntKind) (q : Int) : assignK s (some n) K (some (.v (.one (.int k q)))) = (n < s.n ∧ K (s.put n (.v (.one (.int k q))))) := rfl
theorem assignK_bool (b : Bool) : assignK s (some n) K (some (.v (.one (.bool b)))) = (n < s.n ∧ K (s.put n (.v (.one (.bool b))))) := rfl
theorem assignK_str (b : ByteArray) : assignK s (some n) K (some (.v (.one (.str b)))) = (n < s.n ∧ K (s.put n (.v (.one (.str b))))) := rfl
theorem assignK_clo (f : FuncId) (cs : List L) : assignK s (some n) K (some (.v (.one (.clo f cs)))) = (n < s.n ∧ K (s.put n (.v (.one (.clo f cs))))) := rfl
theorem assignK_sl (sz : Nat) (xs : List (List L)) : assignK s (some n) K (some (.v (.one (.sl sz xs)))) = (n < s.n ∧ K (s.put n (.v (.one (.sl sz xs))))) := rfl
theorem assignK_nil (z : Nat) : assignK s (some n) K (some (.v (.one (.nil z)))) = (n < s.n ∧ K (s.nilRow n z)) := rfl
theorem assignK_ref (id lo q : Nat) : assignK s (some n) K (some (.v (.one (.ref id lo q)))) = mT (look s.row id) fun r => n < s.n ∧ K (s.takeRow id n lo q r) := rfl
theorem assignK_agg (ls : List L) : assignK s (some n) K (some (.v (.agg ls))) = (n < s.n ∧ K (s.put n (.v (.agg ls)))) := rfl
theorem assignK_fz (ls : List L) : assignK s (some n) K (some (.v (.one (.fz ls)))) = (n < s.n ∧ K (s.put n (.v (.one (.fz ls))))) := rfl
theorem assignK_ptr (i o : Nat) : assignK s (some n) K (some (.v (.one (.ptr i o)))) = (n < s.n ∧ K (s.put n (.v (.one (.ptr i o))))) := rfl
theorem assignK_eptr (i k o : Nat) : assignK s (some n) K (some (.v (.one (.eptr i k o)))) = (n < s.n ∧ K (s.put n (.v (.one (.eptr i k o))))) := rfl
theorem assignK_any : assignK s (some n) K (some (.v (.one .any))) = (n < s.n ∧ K (s.put n (.v (.one .any)))) := rfl
theorem nilRow_eq (z : Nat) : s.nilRow n z = (s.newRow0 none n ⟨z, [], []⟩).put n (.v (.one (.ref n 0 0))) := rfl
theorem takeRow_eq (id lo q : Nat) (r : RowC) : s.takeRow id n lo q r = (s.newRow0 (some id) n r).put n (.v (.one (.ref n lo q))) := rfl
theorem appended_eq (src : Option Nat) (sz : Nat) (xs : List (List L)) (ov : List (Nat × Nat × L)) : s.appended src n sz xs ov = (s.newRow0 src n ⟨sz, xs, ov⟩).put n (.v (.one (.ref n 0 xs.length))) := rfl
theorem VOp_box (e : TypeId) : VOp P T ⟨some n, .box e x, ty, pos, af, g⟩ s K = mT (partCells T s 0 x) fun ls => n < s.n ∧ K (s.newBox n ls) := rfl
theorem VOp_alloc (e : TypeId) : VOp P T ⟨some n, .alloc e, ty, pos, af, g⟩ s K = mT (T e) fun i => mT i.zero fun ls => n < s.n ∧ K (s.newBox n ls) := rfl
theorem VOp_store : VOp P T ⟨none, .store t x y, ty, pos, af, g⟩ s K = mT (T t) fun i => mT (partCells T s 0 y) fun vs => mT (oneOf (evalO T s 0 x)) (storeK s i vs K) := by
  show (none = none ∧ _) = _
  simp only [true_and]
  rfl
theorem storeK_ptr (i : TI) (vs : List L) (id o : Nat) : storeK s i vs K (.ptr id o) = mT (look s.box id) fun ls => (vs.length = i.size ∧ o + vs.length ≤ ls.length) ∧ K { s with box := sput id (setL o vs ls) s.box } := rfl
theorem storeK_eptr (i : TI) (vs : List L) (id k o : Nat) : storeK s i vs K (.eptr id k o) = mT (look s.row id) fun r => (vs.length = i.size ∧ k < r.xs.length ∧ o + vs.length ≤ r.sz) ∧ K { s with row := sput id (r.store k o vs) s.row } := rfl
theorem store_mk (sz : Nat) (xs : List (List L)) (ov : List (Nat × Nat × L)) (i o : Nat) (vs : List L) : RowC.store ⟨sz, xs, ov⟩ i o vs = ⟨sz, xs.set i (setL o (vs.map L.clos) (xs.getD i [])), ovAdd i o vs (ovDel i o vs.length ov)⟩ := rfl
theorem VOp_buildSlice (len : Nat) (parts : Array (Nat × Operand)) : VOp P T ⟨some n, .buildSlice t len parts, ty, pos, af, g⟩ s K = mT (elemTI T t) fun j => mT j.zero fun z => (z.length = j.size ∧ 0 < j.size ∧ len * j.size ≤ 16777216) ∧
      mT (fillL T s 0 (fun k => some (k * j.size, j.size)) (repL z len) parts.toList) fun ls => n < s.n ∧ K ((s.newRow0 none n (rowOf j.size len ls)).put n (.v (.one (.ref n 0 len)))) := rfl
theorem VOp_append : VOp P T ⟨some n, .call ⟨.builtin .append, #[x, y], #[t, t']⟩, ty, pos, af, g⟩ s K = (t = t' ∧ mT (elemTI T t) fun j => mT j.zero fun z => mT (oneOf (evalO T s t x)) fun l1 => mT (oneOf (evalO T s t y)) fun l2 => mT (dstOf s j l1) fun p => mT (ysOf s j l2) fun q =>
            (p.2.2.2 ∧ q.2.2.2) ∧ (j.size = p.2.1 ∧ j.size = q.1 ∧ z.length = j.size) ∧ ((p.2.2.1.length + q.2.1.length) * j.bytes ≤ 140737488355328 ∧ p.2.2.1.length + q.2.1.length ≤ 9223372036854775807) ∧ n < s.n ∧ K (s.appended p.1 n p.2.1 (p.2.2.1 ++ q.2.1) (ovShift p.2.2.1.length q.2.2.1))) := rfl
theorem VOp_eqNil : VOp P T ⟨d, .binOp .eql t x (.const (.slice none 0 0)) t', ty, pos, af, g⟩ s K = mT (oneOf (evalO T s t x)) fun l => isSlice l = true ∧ mT (T t) fun i => i.elem.isSome = true ∧ ∀ b, (∀ n, nL l = some n → 0 < n → b = false) → pk s d K (.v (.one (.bool b))) := rfl
theorem VOp_move : VOp P T ⟨d, .move x, ty, pos, af, g⟩ s K = mT (evalO T s ty x) (pk s d K) := rfl
theorem VOp_pick : VOp P T ⟨d, .pick c x y, ty, pos, af, g⟩ s K = VVal P T ⟨d, .pick c x y, ty, pos, af, g⟩ s (pk s d K) := rfl
theorem VOp_not : VOp P T ⟨d, .unOp .not t x, ty, pos, af, g⟩ s K = VVal P T ⟨d, .unOp .not t x, ty, pos, af, g⟩ s (pk s d K) := rfl
theorem VOp_load : VOp P T ⟨d, .load t x, ty, pos, af, g⟩ s K = VVal P T ⟨d, .load t x, ty, pos, af, g⟩ s (pk s d K) := rfl
theorem VOp_fieldAddr (f : Nat) : VOp P T ⟨d, .fieldAddr t x f, ty, pos, af, g⟩ s K = VVal P T ⟨d, .fieldAddr t x f, ty, pos, af, g⟩ s (pk s d K) := rfl
theorem VOp_field (f : Nat) : VOp P T ⟨d, .field t x f, ty, pos, af, g⟩ s K = VVal P T ⟨d, .field t x f, ty, pos, af, g⟩ s (pk s d K) := rfl
theorem VOp_indexAddr : VOp P T ⟨d, .indexAddr t x y, ty, pos, af, g⟩ s K = VVal P T ⟨d, .indexAddr t x y, ty, pos, af, g⟩ s (pk s d K) := rfl
theorem VOp_index : VOp P T ⟨d, .index t x y, ty, pos, af, g⟩ s K = VVal P T ⟨d, .index t x y, ty, pos, af, g⟩ s (pk s d K) := rfl
theorem VOp_extract (k : Nat) : VOp P T ⟨d, .extract x k, ty, pos, af, g⟩ s K = VVal P T ⟨d, .extract x k, ty, pos, af, g⟩ s (pk s d K) := rfl
theorem VOp_binTmp (bo : BinOp) (u : Tmp) : VOp P T ⟨d, .binOp bo t x (.tmp u) t', ty, pos, af, g⟩ s K = VVal P T ⟨d, .binOp bo t x (.tmp u) t', ty, pos, af, g⟩ s (pk s d K) := by cases bo <;> rfl
theorem VOp_binInt (bo : BinOp) (k : IntKind) (q : Int) : VOp P T ⟨d, .binOp bo t x (.const (.int k q)) t', ty, pos, af, g⟩ s K = VVal P T ⟨d, .binOp bo t x (.const (.int k q)) t', ty, pos, af, g⟩ s (pk s d K) := by cases bo <;> rfl
theorem VOp_binStr (bo : BinOp) (q : ByteArray) : VOp P T ⟨d, .binOp bo t x (.const (.string q)) t', ty, pos, af, g⟩ s K = VVal P T ⟨d, .binOp bo t x (.const (.string q)) t', ty, pos, af, g⟩ s (pk s d K) := by cases bo <;> rfl
theorem VOp_build (parts : Array (Nat × Operand)) : VOp P T ⟨d, .build t parts, ty, pos, af, g⟩ s K = VVal P T ⟨d, .build t parts, ty, pos, af, g⟩ s (pk s d K) := rfl
theorem VOp_makeFunc (f : Fn) (first caps : Array Operand) : VOp P T ⟨d, .makeFunc f first caps, ty, pos, af, g⟩ s K = VVal P T ⟨d, .makeFunc f first caps, ty, pos, af, g⟩ s (pk s d K) := rfl
theorem VOp_slice (lo hi mx : Option Operand) : VOp P T ⟨d, .slice t x lo hi mx, ty, pos, af, g⟩ s K = VVal P T ⟨d, .slice t x lo hi mx, ty, pos, af, g⟩ s (pk s d K) := rfl
theorem VOp_nilCheck : VOp P T ⟨d, .nilCheck x, ty, pos, af, g⟩ s K = VVal P T ⟨d, .nilCheck x, ty, pos, af, g⟩ s (pk s d K) := rfl
theorem VOp_convert : VOp P T ⟨d, .convert t t' x, ty, pos, af, g⟩ s K = VVal P T ⟨d, .convert t t' x, ty, pos, af, g⟩ s (pk s d K) := rfl
theorem VOp_len (args : Array Operand) (tys : Array TypeId) : VOp P T ⟨d, .call ⟨.builtin .len, args, tys⟩, ty, pos, af, g⟩ s K = VVal P T ⟨d, .call ⟨.builtin .len, args, tys⟩, ty, pos, af, g⟩ s (pk s d K) := rfl
theorem VOp_max (args : Array Operand) (tys : Array TypeId) : VOp P T ⟨d, .call ⟨.builtin .max, args, tys⟩, ty, pos, af, g⟩ s K = VVal P T ⟨d, .call ⟨.builtin .max, args, tys⟩, ty, pos, af, g⟩ s (pk s d K) := rfl
theorem VOp_min (args : Array Operand) (tys : Array TypeId) : VOp P T ⟨d, .call ⟨.builtin .min, args, tys⟩, ty, pos, af, g⟩ s K = VVal P T ⟨d, .call ⟨.builtin .min, args, tys⟩, ty, pos, af, g⟩ s (pk s d K) := rfl
end

/-! ### a test whose answer is known -/
section
variable {P : Program} {T : TypeId → Option TI} {w0 : World} {m0 : Mem} {F0 : Home} {Q : Exit → St → Prop} {s : St}
theorem AWP.condT {c : Operand} {x y : Code} (hb : boolOf (evalO T s 0 c) = some true) (h : AWP P w0 m0 F0 x Q s) : AWP P w0 m0 F0 (.cond c x y) Q s := AWP.cond hb (fun _ => h) (fun h => by cases h)
theorem AWP.condNot {c : Operand} {x y : Code} {b : Bool} (hb : boolOf (evalO T s 0 c) = some (!b)) (h1 : b = true → AWP P w0 m0 F0 y Q s) (h2 : b = false → AWP P w0 m0 F0 x Q s) : AWP P w0 m0 F0 (.cond c x y) Q s := AWP.cond hb (fun h => h2 (by simpa using h)) (fun h => h1 (by simpa using h))
theorem AWP.condF {c : Operand} {x y : Code} (hb : boolOf (evalO T s 0 c) = some false) (h : AWP P w0 m0 F0 y Q s) : AWP P w0 m0 F0 (.cond c x y) Q s := AWP.cond hb (fun h => by cases h) (fun _ => h)
theorem AWP.regionL {id : Nat} {l : List Oper} (hT : TabOk P T) (h : ∀ K : St → Prop, (∀ s', Q .normal s' → K s') → VOps P T l.toArray l s K) : AWP P w0 m0 F0 (.region id l.toArray false) Q s :=
  AWP.region hT rfl h
/-- A drawn region of quiet operations alone. -/
theorem AWP.drawAll {id : Nat} {l : List Oper} (hT : TabOk P T) (hm : P.follows .mixedOrders = true) (dep : Nat) (hchk : drawOk l.toArray l.length dep = true)
    (h : ∀ K : St → Prop, (∀ s', Q .normal s' → K s') → VHead P T l.toArray l s K) : AWP P w0 m0 F0 (.region id l.toArray true) Q s :=
  AWP.draw hT hm (l1 := l) (l2 := []) l.length dep rfl hchk (List.take_length ..) (List.drop_length ..) h
end

theorem AWP.condT' {P : Program} {T : TypeId → Option TI} {w0 : World} {m0 : Mem} {F0 : Home} {Q : Exit → St → Prop} {s : St} {c : Operand} {x y : Code} {b : Bool} (hb : boolOf (evalO T s 0 c) = some b) (ht : b = true) (h : AWP P w0 m0 F0 x Q s) : AWP P w0 m0 F0 (.cond c x y) Q s := AWP.cond hb (fun _ => h) (fun h => by rw [ht] at h; cases h)
theorem AWP.condF' {P : Program} {T : TypeId → Option TI} {w0 : World} {m0 : Mem} {F0 : Home} {Q : Exit → St → Prop} {s : St} {c : Operand} {x y : Code} {b : Bool} (hb : boolOf (evalO T s 0 c) = some b) (ht : b = false) (h : AWP P w0 m0 F0 y Q s) : AWP P w0 m0 F0 (.cond c x y) Q s := AWP.cond hb (fun h => by rw [ht] at h; cases h) (fun _ => h)
/-- A test, its answer's name found: all data. -/
def CondG (P : Program) (w0 : World) (m0 : Mem) (F0 : Home) (x y : Code) (Q : Exit → St → Prop) (s : St) (b : Bool) : Prop := (b = true → AWP P w0 m0 F0 x Q s) ∧ (b = false → AWP P w0 m0 F0 y Q s)
section
variable {P : Program} {T : TypeId → Option TI} {w0 : World} {m0 : Mem} {F0 : Home} {Q : Exit → St → Prop} {s : St} {c : Operand} {x y : Code} {b : Bool}
theorem AWP.condG (hb : boolOf (evalO T s 0 c) = some b) (h : CondG P w0 m0 F0 x y Q s b) : AWP P w0 m0 F0 (.cond c x y) Q s := AWP.cond hb h.1 h.2
theorem CondG.t (h : AWP P w0 m0 F0 x Q s) : CondG P w0 m0 F0 x y Q s true := ⟨fun _ => h, fun h => by cases h⟩
theorem CondG.f (h : AWP P w0 m0 F0 y Q s) : CondG P w0 m0 F0 x y Q s false := ⟨(fun h => by cases h), fun _ => h⟩
theorem CondG.not (h : CondG P w0 m0 F0 y x Q s b) : CondG P w0 m0 F0 x y Q s (!b) := ⟨fun e => h.2 (by simpa using e), fun e => h.1 (by simpa using e)⟩
theorem CondG.isT (hb : b = true) (h : AWP P w0 m0 F0 x Q s) : CondG P w0 m0 F0 x y Q s b := ⟨fun _ => h, fun h => by rw [hb] at h; cases h⟩
theorem CondG.isF (hb : b = false) (h : AWP P w0 m0 F0 y Q s) : CondG P w0 m0 F0 x y Q s b := ⟨(fun h => by rw [hb] at h; cases h), fun _ => h⟩
theorem CondG.split (h1 : b = true → AWP P w0 m0 F0 x Q s) (h2 : b = false → AWP P w0 m0 F0 y Q s) : CondG P w0 m0 F0 x y Q s b := ⟨h1, h2⟩
end
theorem GOn.isT {P : Program} {T : TypeId → Option TI} {ops : Array Oper} {want : Bool} {d : Option Tmp} {op : Op} {ty : TypeId} {pos : String} {af : Array Edge} {l : List Oper} {s : St} {K : St → Prop} {b : Bool} (hb : b = true) (h : GOn P T ops want d op ty pos af l s K (some true)) : GOn P T ops want d op ty pos af l s K (some b) := hb ▸ h
theorem GOn.isF {P : Program} {T : TypeId → Option TI} {ops : Array Oper} {want : Bool} {d : Option Tmp} {op : Op} {ty : TypeId} {pos : String} {af : Array Edge} {l : List Oper} {s : St} {K : St → Prop} {b : Bool} (hb : b = false) (h : GOn P T ops want d op ty pos af l s K (some false)) : GOn P T ops want d op ty pos af l s K (some b) := hb ▸ h
theorem HOn.isT {P : Program} {T : TypeId → Option TI} {ops : Array Oper} {want : Bool} {d : Option Tmp} {op : Op} {ty : TypeId} {pos : String} {af : Array Edge} {l : List Oper} {s : St} {K : St → Prop} {b : Bool} (hb : b = true) (h : HOn P T ops want d op ty pos af l s K (some true)) : HOn P T ops want d op ty pos af l s K (some b) := hb ▸ h
theorem HOn.isF {P : Program} {T : TypeId → Option TI} {ops : Array Oper} {want : Bool} {d : Option Tmp} {op : Op} {ty : TypeId} {pos : String} {af : Array Edge} {l : List Oper} {s : St} {K : St → Prop} {b : Bool} (hb : b = false) (h : HOn P T ops want d op ty pos af l s K (some false)) : HOn P T ops want d op ty pos af l s K (some b) := hb ▸ h
theorem pickK.isT {T : TypeId → Option TI} {s : St} {ty : TypeId} {x y : Operand} {KA : A → Prop} {b : Bool} (hb : b = true) (h : pickK T s ty x y KA true) : pickK T s ty x y KA b := hb ▸ h
theorem pickK.isF {T : TypeId → Option TI} {s : St} {ty : TypeId} {x y : Operand} {KA : A → Prop} {b : Bool} (hb : b = false) (h : pickK T s ty x y KA false) : pickK T s ty x y KA b := hb ▸ h

/-! ### where the walk's simp looks
  (The empty argument: the simplifier counts a step by definition as no change where a hypothesis has no binder, and then looks everywhere.) -/
section
variable {P : Program} {T : TypeId → Option TI} {ops : Array Oper} {l : List Oper} {o : Oper} {s : St} {s' : Unit → St} {K : St → Prop} {KA : A → Prop} {d : Option Tmp}
theorem VOps.congr (h : ∀ u, s = s' u) : VOps P T ops l s K = VOps P T ops l (s' ()) K := by rw [h ()]
theorem VHead.congr (h : ∀ u, s = s' u) : VHead P T ops l s K = VHead P T ops l (s' ()) K := by rw [h ()]
theorem VOp.congr (h : ∀ u, s = s' u) : VOp P T o s K = VOp P T o (s' ()) K := by rw [h ()]
theorem VVal.congr (h : ∀ u, s = s' u) : VVal P T o s KA = VVal P T o (s' ()) KA := by rw [h ()]
theorem pk.congr {x : A} {x' : Unit → A} (h : ∀ u, s = s' u) (hx : ∀ u, x = x' u) : pk s d K x = pk (s' ()) d K (x' ()) := by rw [h (), hx ()]
theorem assignK.congr {e : Option A} {e' : Unit → Option A} (h : ∀ u, s = s' u) (he : ∀ u, e = e' u) : assignK s d K e = assignK (s' ()) d K (e' ()) := by rw [h (), he ()]
theorem storeK.congr {i : TI} {vs : List L} {p : L} {i' : Unit → TI} {vs' : Unit → List L} {p' : Unit → L} (h : ∀ u, s = s' u) (hi : ∀ u, i = i' u) (hv : ∀ u, vs = vs' u) (hp : ∀ u, p = p' u) : storeK s i vs K p = storeK (s' ()) (i' ()) (vs' ()) K (p' ()) := by rw [h (), hi (), hv (), hp ()]
theorem loadK.congr {i : TI} {v : L} {i' : Unit → TI} {v' : Unit → L} (h : ∀ u, s = s' u) (hi : ∀ u, i = i' u) (hp : ∀ u, v = v' u) : loadK s i KA v = loadK (s' ()) (i' ()) KA (v' ()) := by rw [h (), hi (), hp ()]
theorem idxK.congr {j : TI} {n : Int} {v : L} {j' : Unit → TI} {n' : Unit → Int} {v' : Unit → L} (h : ∀ u, s = s' u) (hi : ∀ u, j = j' u) (hn : ∀ u, n = n' u) (hp : ∀ u, v = v' u) : idxK s j n KA v = idxK (s' ()) (j' ()) (n' ()) KA (v' ()) := by rw [h (), hi (), hn (), hp ()]
theorem sliceK.congr {t : TypeId} {lo hi : Option Operand} {v : L} {v' : Unit → L} (h : ∀ u, s = s' u) (hp : ∀ u, v = v' u) : sliceK T s t lo hi KA v = sliceK T (s' ()) t lo hi KA (v' ()) := by rw [h (), hp ()]
theorem indexK.congr {i : TI} {y : Operand} {v : L} {i' : Unit → TI} {v' : Unit → L} (h : ∀ u, s = s' u) (hi : ∀ u, i = i' u) (hp : ∀ u, v = v' u) : indexK T s i y KA v = indexK T (s' ()) (i' ()) y KA (v' ()) := by rw [h (), hi (), hp ()]
theorem binK.congr {op : BinOp} {t : TypeId} {v w : V} {v' w' : Unit → V} (h : ∀ u, v = v' u) (hp : ∀ u, w = w' u) : binK P op t KA v w = binK P op t KA (v' ()) (w' ()) := by rw [h (), hp ()]
theorem convKk.congr {t t' : TypeId} {v : L} {v' : Unit → L} (h : ∀ u, v = v' u) : convKk P T t t' KA v = convKk P T t t' KA (v' ()) := by rw [h ()]
end
end Go.Bw
