/-
  THE LAYER, 7: new frozen rows; closures; strings; numbers; '==' between structs.
-/
import Derived.Test.YtinlgpgdinnefaaB6
import Derived.Laws.StructEq
import Derived.WalkSpells
set_option linter.unusedSimpArgs false
set_option linter.unusedVariables false
namespace Go.Bw
open Go.RowKit

section
variable {P : Program} {w0 : World} {m0 : Mem} {s : St} {a : Act} {w : World} {m : Mem} {ω : Wh} {F0 : Home} {T : TypeId → Option TI}

/-- Nothing in it points to what is owned. -/
def L.isFz : L → Bool
  | .ptr _ _ => false
  | .eptr _ _ _ => false
  | .ref _ _ _ => false
  | .clo _ caps => caps.all fun l => match l with | .ptr _ _ => false | .eptr _ _ _ => false | _ => true
  | _ => true
theorem ERep.rep {v : Value} {l : L} (h : ERep m ω v l) (hl : l.isFz = true) : Rep m v l := by
  cases l with
  | ptr => cases hl
  | eptr => cases hl
  | ref => cases hl
  | clo f caps =>
    obtain ⟨vs, rfl, h2, h3⟩ := h
    simp only [L.isFz, List.all_eq_true] at hl
    refine .clo f caps vs (fun i => (vs[i]?).getD default) h2 (fun i u hu => ?_) (fun i u hu => ?_)
    · obtain ⟨x, h4, _⟩ := h3 i u hu
      rw [h4]; rfl
    · obtain ⟨x, h4, h5⟩ := h3 i u hu
      rw [h4]
      rcases h5 with h5 | h5
      · exact h5
      · have := hl u (List.mem_of_getElem? hu)
        cases u with
        | ptr => cases this
        | eptr => cases this
        | _ => cases h5
  | _ => exact h

/-! ### a new row -/
def rowMem (m : Mem) (b : Nat) (cs : Array Value) : Mem := fun x => if x.block = b then (if x.spot = none then cs[x.off]? else none) else m x

theorem CI.newRow (h : CI P w0 m0 F0 s a w m ω) {w' : World} (cs : Array Value) (e : TypeId) (fr : Nat × Nat) (hw : Below w.heap.size w w') (hh : w'.heap[w.heap.size]? = some (.cells cs e fr)) :
    CI P w0 m0 F0 s a w' (rowMem m w.heap.size cs) ω ∧ Mem.le m (rowMem m w.heap.size cs) := by
  have hle : Mem.le m (rowMem m w.heap.size cs) := fun x v hx => by
    have := World.block_lt_of_cell? w x (h.ok x v hx)
    simp only [rowMem, if_neg (Nat.ne_of_lt this)]
    exact hx
  refine ⟨h.grow hw hle (fun x hx => by simp only [rowMem, if_neg (Nat.ne_of_lt hx)]) (fun x v hx => ?_), hle⟩
  simp only [rowMem] at hx
  by_cases hb : x.block = w.heap.size
  · rw [if_pos hb] at hx
    split at hx
    · rename_i hsp
      have : x = ⟨w.heap.size, x.off, none⟩ := by cases x; simp_all
      rw [this, cell_of_row w' _ _ cs e fr hh]
      exact hx
    · cases hx
  · rw [if_neg hb] at hx
    rw [hw.cell (World.block_lt_of_cell? w x (h.ok x v hx))]
    exact h.ok x v hx

theorem rowMem_at (m : Mem) (b : Nat) (cs : Array Value) (j : Nat) : rowMem m b cs ((⟨b, 0, none⟩ : Addr).add j) = cs[j]? := by
  rw [Addr.add_lit]
  simp [rowMem]

def chunks (sz : Nat) : Nat → List L → List (List L)
  | 0, _ => []
  | n + 1, ls => ls.take sz :: chunks sz n (ls.drop sz)
theorem chunks_length (sz : Nat) : ∀ (n : Nat) (ls : List L), (chunks sz n ls).length = n
  | 0, _ => rfl
  | n + 1, ls => by simp [chunks, chunks_length sz n]
theorem chunks_size (sz : Nat) : ∀ (n : Nat) (ls : List L), ls.length = n * sz → ∀ x ∈ chunks sz n ls, x.length = sz
  | 0, _, _, x, hx => by simp [chunks] at hx
  | n + 1, ls, h, x, hx => by
    rw [Nat.add_mul] at h
    simp only [chunks, List.mem_cons] at hx
    rcases hx with rfl | hx
    · simp; omega
    · exact chunks_size sz n (ls.drop sz) (by simp; omega) x hx
theorem chunks_cell (sz : Nat) : ∀ (n : Nat) (ls : List L) (i j : Nat) (u : L), cellOf (chunks sz n ls) i j = some u → ls[i * sz + j]? = some u ∧ j < sz
  | 0, _, i, j, u, h => by simp [chunks, cellOf] at h
  | n + 1, ls, 0, j, u, h => by
    simp only [chunks, cellOf, List.getElem?_cons_zero, Option.bind_some] at h
    rw [List.getElem?_take] at h
    split at h
    · exact ⟨by simpa using h, by assumption⟩
    · cases h
  | n + 1, ls, i + 1, j, u, h => by
    have h' : cellOf (chunks sz n (ls.drop sz)) i j = some u := by simpa [chunks, cellOf] using h
    obtain ⟨h1, h2⟩ := chunks_cell sz n (ls.drop sz) i j u h'
    rw [List.getElem?_drop] at h1
    refine ⟨?_, h2⟩
    rw [Nat.add_mul]
    rw [← h1]
    congr 1
    omega

/-- A row of cells, read as a slice over it. -/
theorem rep_row {m : Mem} {b : Nat} {cs : Array Value} {sz n cap : Nat} {ls : List L} (hl : ls.length = n * sz) (hcap : n ≤ cap) (hr : ∀ (j : Nat) (l : L), ls[j]? = some l → ∃ v, cs[j]? = some v ∧ Rep m v l) (hle : Mem.le m (rowMem m b cs)) :
    Rep (rowMem m b cs) (.slice (some ⟨b, 0, none⟩) n cap) (.sl sz (chunks sz n ls)) := by
  refine .sl ⟨b, 0, none⟩ n cap sz _ (fun i j => (cs[i * sz + j]?).getD default) (chunks_length sz n ls).symm hcap (chunks_size sz n ls hl) (fun i j u hu => ?_) (fun i j u hu => ?_)
  · obtain ⟨h1, _⟩ := chunks_cell sz n ls i j u hu
    obtain ⟨v, h2, _⟩ := hr _ _ h1
    rw [rowMem_at, h2]
    rfl
  · obtain ⟨h1, _⟩ := chunks_cell sz n ls i j u hu
    obtain ⟨v, h2, h3⟩ := hr _ _ h1
    rw [h2]
    exact h3.mono hle

def repL (z : List L) : Nat → List L
  | 0 => []
  | n + 1 => z ++ repL z n
theorem repL_length (z : List L) : ∀ n, (repL z n).length = n * z.length
  | 0 => by simp [repL]
  | n + 1 => by simp [repL, repL_length z n, Nat.add_mul]; omega
theorem repL_get (z : List L) : ∀ (n j : Nat), j < n * z.length → (repL z n)[j]? = z[j % z.length]?
  | 0, j, h => by simp at h
  | n + 1, j, h => by
    rw [Nat.add_mul] at h
    simp only [repL]
    by_cases hj : j < z.length
    · rw [List.getElem?_append_left hj, Nat.mod_eq_of_lt hj]
    · rw [List.getElem?_append_right (by omega), repL_get z n _ (by omega)]
      congr 1
      exact (Nat.mod_eq_sub_mod (by omega)).symm

theorem givesA_buildSlice {o : Oper} {t e : TypeId} {i j : TI} {len : Nat} {parts : Array (Nat × Operand)} {z ls : List L} {ty : TypeId} (ho : o.op = .buildSlice t len parts) (hTab : TabOk P T) (hi : T t = some i) (he : i.elem = some e) (hj : T e = some j)
    (hz : j.zero = some z) (hzl : z.length = j.size) (hsz : 0 < j.size) (hbig : len * j.size ≤ 16777216) (h : CI P w0 m0 F0 s a w m ω)
    (hf : fillL T s ty (fun k => some (k * j.size, j.size)) (repL z len) parts.toList = some ls) (hfz : ls.all L.isFz = true) : GivesA P w0 m0 F0 s o (.v (.one (.sl j.size (chunks j.size len ls)))) a w ω := by
  have F := tiFacts (hTab _ _ hj)
  have hu := (tiFacts (hTab _ _ hi)).elem e he
  obtain ⟨inf, g1, g2, _⟩ := F.info
  obtain ⟨inf', zv, g3, g4, g5, _⟩ := F.zero z hz
  rw [g1] at g3
  injection g3 with g3
  subst g3
  obtain ⟨g7, g8⟩ := matchAll_rep (m := m) zv.cells.toList z g5
  have hzs : zv.cells.size = j.size := by simpa [hzl] using g7
  let init : Array Value := (Array.range (len * j.size)).map (zv.cells[· % zv.cells.size]!)
  have hinit : init.size = (repL z len).length := by simp [init, repL_length, hzl]
  have hir : ∀ (k : Nat) (l : L), (repL z len)[k]? = some l → ∃ v, init[k]? = some v ∧ ERep m ω v l := by
    intro k l hk
    have hlt : k < len * j.size := by
      have := (List.getElem?_eq_some_iff.1 hk).1
      rwa [repL_length, hzl] at this
    rw [repL_get z len k (by rw [hzl]; exact hlt)] at hk
    obtain ⟨v, h1, h2⟩ := g8 _ l hk
    refine ⟨v, ?_, h2.erep⟩
    simp only [init, Array.getElem?_map, Array.getElem?_range, if_pos hlt, Option.map_some]
    rw [hzs, ← hzl]
    have : k % z.length < zv.cells.size := by rw [hzs, ← hzl]; exact Nat.mod_lt _ (by omega)
    rw [getElem!_pos zv.cells (k % z.length) this]
    have h1' : zv.cells[k % z.length]? = some v := by simpa using h1
    rw [Array.getElem?_eq_getElem this] at h1'
    exact h1'
  obtain ⟨cs, h1, h2, h3, h4⟩ := fill_sound h parts.toList init (repL z len) ls hinit hir hf
  obtain ⟨hci, hle⟩ := h.newRow (w' := w.alloc (.cells cs e (0, 0))) cs e (0, 0) (Below.alloc (Below.refl _ _) (Nat.le_refl _) _) (heap_alloc_new w _)
  refine gives_of_run (v := .slice (some ⟨w.heap.size, 0, none⟩) len len) (w' := w.alloc (.cells cs e (0, 0))) ?_ ⟨rowMem m w.heap.size cs, hci, ?_⟩
  · have hmap : (parts.map fun x => (x.1, a.eval x.2)).toList = parts.toList.map fun p => (p.1, a.eval p.2) := by simp
    have h1' : Instr.fill (fun i => some (i * inf.size, inf.size)) ((Array.range (len * inf.size)).map (zv.cells[· % zv.cells.size]!)) (parts.toList.map fun p => (p.1, a.eval p.2)) = some cs := by rw [g2]; exact h1
    unfold execOp
    by_cases h0 : len * inf.size = 0
    · have hr0 : Array.range (len * inf.size) = #[] := by rw [h0]; rfl
      rw [hr0] at h1'
      simp only [List.map_toArray, List.map_nil] at h1'
      have hr1 : ∀ f : Nat → Value, (Array.range 0).map f = #[] := fun f => by simp
      simp only [ho, Instr.buildSlice, Sem.run_bind, run_underlying hu, Result.andThen_ok, run_sizeOf g1, hmap]
      rw [if_neg (by omega), if_pos h0]
      simp only [Sem.run_pure, Sem.run_bind, Result.andThen_ok, h0, hr1, h1', newRow, newObj]
      rfl
    · simp only [ho, Instr.buildSlice, Sem.run_bind, run_underlying hu, Result.andThen_ok, run_sizeOf g1, hmap]
      rw [if_neg (by rw [g2]; omega), if_neg h0]
      simp only [zeroValue, typeInfo, Sem.run_bind, Sem.run, g1, g4, Result.andThen_ok, Sem.run_pure, h1', newRow, newObj, program]
      rfl
  · exact rep_row (by rw [h3, repL_length, hzl]) (Nat.le_refl _) (fun j l hj => let ⟨v, h5, h6⟩ := h4 j l hj; ⟨v, h5, h6.rep (List.all_eq_true.1 hfz l (List.mem_of_getElem? hj))⟩) hle

/-! ### closures -/
def capL : L → Bool
  | .fz _ => true
  | .ptr _ _ => true
  | .eptr _ _ _ => true
  | _ => false
def capsOf (s : St) (T : TypeId → Option TI) (ty : TypeId) : List Operand → Option (List L)
  | [] => some []
  | x :: r => match evalO T s ty x, capsOf s T ty r with | some (.v (.one l)), some q => if capL l then some (l :: q) else none | _, _ => none

theorem capsOf_sound (h : CI P w0 m0 F0 s a w m ω) {ty : TypeId} : ∀ (l : List Operand) (caps : List L), capsOf s T ty l = some caps →
    l.length = caps.length ∧ ∀ (i : Nat) (u : L), caps[i]? = some u → ∃ x, (l.map a.eval)[i]? = some x ∧ (Rep m x u ∨ PRep ω x u)
  | [], caps, hc => by simp only [capsOf, Option.some.injEq] at hc; subst hc; exact ⟨rfl, fun i u h => by simp at h⟩
  | x :: r, caps, hc => by
    simp only [capsOf] at hc
    split at hc
    · rename_i l q hx hq
      split at hc
      · rename_i hl
        simp only [Option.some.injEq] at hc
        subst hc
        obtain ⟨h1, h2⟩ := capsOf_sound h r q hq
        refine ⟨by simp [h1], fun i u hu => ?_⟩
        cases i with
        | zero =>
          simp only [List.getElem?_cons_zero, Option.some.injEq] at hu
          subst hu
          have hv : ERep m ω (a.eval x) l := evalO_sound h hx
          refine ⟨a.eval x, rfl, ?_⟩
          cases l with
          | fz => exact .inl hv
          | ptr => exact .inr hv
          | eptr => exact .inr hv
          | _ => cases hl
        | succ i => exact h2 i u (by simpa using hu)
      · cases hc
    · cases hc

theorem givesA_makeFunc {o : Oper} {f : FuncId} {caps : Array Operand} {cs : List L} {ty : TypeId} (ho : o.op = .makeFunc (.func f) #[] caps) (h : CI P w0 m0 F0 s a w m ω) (hc : capsOf s T ty caps.toList = some cs) :
    GivesA P w0 m0 F0 s o (.v (.one (.clo f cs))) a w ω := by
  obtain ⟨h1, h2⟩ := capsOf_sound h caps.toList cs hc
  refine givesA_of_value h (v := .func (.func f) #[] (caps.toList.map a.eval).toArray) ?_ ⟨caps.toList.map a.eval, rfl, by simpa using h1, h2⟩
  have : caps.map a.eval = (caps.toList.map a.eval).toArray := by
    apply Array.ext'
    simp
  unfold execOp
  simp only [ho, Instr.makeFunc, this, Array.map_empty, Sem.run_bind, Sem.run_pure, Result.andThen_ok]

/-! ### strings, numbers -/
theorem givesA_index {o : Oper} {t : TypeId} {i : TI} {x y : Operand} {ty ty' : TypeId} {q : ByteArray} {k : IntKind} {n : Int} (ho : o.op = .index t x y) (hT : tiOk P t i = true) (hs : i.isStr = true) (h : CI P w0 m0 F0 s a w m ω)
    (hx : evalO T s ty x = some (.v (.one (.str q)))) (hy : evalO T s ty' y = some (.v (.one (.int k n)))) (h0 : 0 ≤ n) (h1 : n < q.size) : GivesA P w0 m0 F0 s o (.v (.one (.int .u8 ((q.data.toList.getD n.toNat 0).toNat : Nat)))) a w ω := by
  have hu := (tiFacts hT).str hs
  have hax := str_of h hx
  have hay := int_of h hy
  have hlt : n.toNat < q.size := by omega
  refine givesA_of_value h (v := .int .u8 ((q.data.toList.getD n.toNat 0).toNat : Nat)) ?_ (Rep.int _ _)
  have hq : q[n.toNat]? = some (q.data.toList.getD n.toNat 0) := by
    have h3 : q[n.toNat]? = some q[n.toNat] := getElem?_pos q n.toNat hlt
    rw [h3]
    congr 1
    have hd : n.toNat < q.data.toList.length := by simpa using hlt
    simp [List.getD, List.getElem?_eq_getElem hd]
    rfl
  unfold execOp
  simp only [ho, hax, hay, Instr.index, asIntOf, Sem.run_bind, Sem.run_pure, Result.andThen_ok, run_underlying hu, h0, if_true, hq]

theorem givesA_convInt {o : Oper} {t t' : TypeId} {x : Operand} {ty : TypeId} {k k' : IntKind} {n : Int} (ho : o.op = .convert t t' x) (hs : (P.underlying t).isSome = true) (hd : P.underlying t' = some (.int k')) (h : CI P w0 m0 F0 s a w m ω)
    (hx : evalO T s ty x = some (.v (.one (.int k n)))) : GivesA P w0 m0 F0 s o (.v (.one (.int k' (k'.wrap n)))) a w ω := by
  have hax := int_of h hx
  refine givesA_of_value h (v := .int k' (k'.wrap n)) ?_ (Rep.int _ _)
  obtain ⟨d, hd0⟩ := Option.isSome_iff_exists.1 hs
  unfold execOp
  simp only [ho, hax, convert, Sem.run_bind, run_underlying hd0, run_underlying hd, Result.andThen_ok, Conv.intToInt, Sem.run_pure]

theorem givesA_strBytes {o : Oper} {t t' e : TypeId} {i i' : TI} {x : Operand} {ty : TypeId} {q : ByteArray} (ho : o.op = .convert t t' x) (hT : tiOk P t i = true) (hs : i.isStr = true) (hT' : tiOk P t' i' = true) (he : i'.elem = some e) (hE : P.underlying e = some (.int .u8))
    (h : CI P w0 m0 F0 s a w m ω) (hx : evalO T s ty x = some (.v (.one (.str q)))) : GivesA P w0 m0 F0 s o (.v (.one (.sl 1 (chunks 1 q.size (q.data.toList.map fun b => L.int .u8 b.toNat))))) a w ω := by
  have hu := (tiFacts hT).str hs
  have hu' := (tiFacts hT').elem e he
  have hax := str_of h hx
  let cap := grownCap w q.size 0 e
  let cs : Array Value := q.data.map (fun b => Value.int .u8 b.toNat) ++ Array.replicate (cap - q.size) (.int .u8 0)
  let w1 := w.drew.alloc (.cells cs e (0, 0))
  let w' := w1.freeze ⟨w.heap.size, cs.size, none⟩ 1
  have hh1 : w1.heap[w.heap.size]? = some (.cells cs e (0, 0)) := heap_alloc_new w.drew _
  have hb : Below w.heap.size w w' := by
    refine ⟨rfl, rfl, rfl, ?_, fun k hk => ?_⟩
    · show _ ≤ (World.freeze w1 _ 1).heap.size
      simp [World.freeze, w1, World.alloc]
    · show (World.freeze w1 _ 1).heap[k]? = _
      simp only [World.freeze, Nat.one_ne_zero, if_false, Array.getElem?_modify]
      rw [if_neg (by omega)]
      exact Below.heap_alloc w.drew _ k hk
  have hfr : ∃ fr, w'.heap[w.heap.size]? = some (.cells cs e fr) := by
    refine ⟨(cs.size, cs.size + 1), ?_⟩
    show (World.freeze w1 _ 1).heap[w.heap.size]? = _
    simp only [World.freeze, Nat.one_ne_zero, if_false, Array.getElem?_modify, if_true, hh1, Option.map_some]
    rfl
  obtain ⟨fr, hfr⟩ := hfr
  obtain ⟨hci, hle⟩ := h.newRow cs e fr hb hfr
  have hr : ∀ (j : Nat) (l : L), (q.data.toList.map fun b => L.int .u8 (b.toNat : Int))[j]? = some l → ∃ v, cs[j]? = some v ∧ Rep m v l := by
    intro j l hj
    simp only [List.getElem?_map, Option.map_eq_some_iff] at hj
    obtain ⟨b, hb, rfl⟩ := hj
    refine ⟨.int .u8 b.toNat, ?_, .int _ _⟩
    have hlt : j < q.data.size := by simpa using (List.getElem?_eq_some_iff.1 hb).1
    simp only [cs]
    rw [Array.getElem?_append_left (by simpa using hlt)]
    simp only [Array.getElem?_map]
    have : q.data[j]? = some b := by simpa using hb
    rw [this]; rfl
  have hcap : q.size ≤ cap := grownCap_ge w q.size 0 e
  refine gives_of_run (v := .slice (some ⟨w.heap.size, 0, none⟩) q.size cap) (w' := w') ?_ ⟨_, hci, rep_row (by simp) hcap hr hle⟩
  have hsh : w1.shape? w.heap.size = some (e, cs.size) := by simp [World.shape?, hh1]
  unfold execOp
  simp only [ho, hax, convert, Sem.run_bind, run_underlying hu, run_underlying hu', run_underlying hE, Result.andThen_ok, Conv.stringToBytes, choose, Sem.run, Question.forced, Bool.false_eq_true, if_false, newRow, newObj, Sem.run_pure, markStringish, shape, freeze]
  have e2 : (Question.appendCap q.size 0 e).cut (w.tape w.drawn (Question.appendCap q.size 0 e)) = cap := rfl
  simp only [e2]
  have hsh2 : World.shape? { heap := w.heap.push (.cells (q.data.map (fun b => Value.int .u8 b.toNat) ++ Array.replicate (cap - q.size) (.int .u8 0)) e), tape := w.tape, drawn := w.drawn + 1, os := w.os, output := w.output } w.heap.size = some (e, cs.size) := hsh
  simp only [hsh2, Sem.run, Result.andThen_ok]
  rfl
def convK (P : Program) (t : TypeId) : Option IntKind := match P.underlying t with | some (.int k) => some k | _ => none

def maxL : L → L → Option L | .int k x, .int _ y => some (.int k (if y > x then y else x)) | _, _ => none
def minL : L → L → Option L | .int k x, .int _ y => some (.int k (if y < x then y else x)) | _, _ => none
theorem givesA_max {o : Oper} {tys : Array TypeId} {x y : Operand} {l1 l2 l : L} (ho : o.op = .call { callee := .builtin .max, args := #[x, y], argTypes := tys }) (h : CI P w0 m0 F0 s a w m ω)
    (hx : evalO T s 0 x = some (.v (.one l1))) (hy : evalO T s 0 y = some (.v (.one l2))) (hl : maxL l1 l2 = some l) : GivesA P w0 m0 F0 s o (.v (.one l)) a w ω := by
  obtain ⟨k, q, k', r, rfl, rfl, hl2⟩ : ∃ k q k' r, l1 = .int k q ∧ l2 = .int k' r ∧ some (.int k (if r > q then r else q)) = some l := by
    unfold maxL at hl
    split at hl
    · exact ⟨_, _, _, _, rfl, rfl, hl⟩
    · cases hl
  have hac := int_of h hx
  have had := int_of h hy
  simp only [Option.some.injEq] at hl2
  subst hl2
  refine givesA_of_value h (v := .int k (if r > q then r else q)) ?_ (Rep.int _ _)
  obtain ⟨q', hq⟩ := run_call_builtin (P := P) (a := a) (w := w) ho
  rw [hq]
  simp only [List.map_toArray, List.map_cons, List.map_nil, hac, had, builtin]
  simp [Builtin.max_, Builtin.max2]
theorem givesA_min {o : Oper} {tys : Array TypeId} {x y : Operand} {l1 l2 l : L} (ho : o.op = .call { callee := .builtin .min, args := #[x, y], argTypes := tys }) (h : CI P w0 m0 F0 s a w m ω)
    (hx : evalO T s 0 x = some (.v (.one l1))) (hy : evalO T s 0 y = some (.v (.one l2))) (hl : minL l1 l2 = some l) : GivesA P w0 m0 F0 s o (.v (.one l)) a w ω := by
  obtain ⟨k, q, k', r, rfl, rfl, hl2⟩ : ∃ k q k' r, l1 = .int k q ∧ l2 = .int k' r ∧ some (.int k (if r < q then r else q)) = some l := by
    unfold minL at hl
    split at hl
    · exact ⟨_, _, _, _, rfl, rfl, hl⟩
    · cases hl
  have hac := int_of h hx
  have had := int_of h hy
  simp only [Option.some.injEq] at hl2
  subst hl2
  refine givesA_of_value h (v := .int k (if r < q then r else q)) ?_ (Rep.int _ _)
  obtain ⟨q', hq⟩ := run_call_builtin (P := P) (a := a) (w := w) ho
  rw [hq]
  simp only [List.map_toArray, List.map_cons, List.map_nil, hac, had, builtin]
  simp [Builtin.min_, Builtin.min2]


/-! ### a slice held against nil -/
def isSlice : L → Bool | .sl _ _ => true | .nil _ => true | .ref _ _ _ => true | _ => false
theorem gives_eqNil {o : Oper} {t t' e : TypeId} {i : TI} {x : Operand} {l : L} (ho : o.op = .binOp .eql t x (.const (.slice none 0 0)) t') (hT : tiOk P t i = true) (he : i.elem = some e) (h : CI P w0 m0 F0 s a w m ω)
    (hx : evalO T s t x = some (.v (.one l))) (hl : isSlice l = true) : ∃ b, (∀ n, nL l = some n → 0 < n → b = false) ∧ GivesA P w0 m0 F0 s o (.v (.one (.bool b))) a w ω := by
  have hu := (tiFacts hT).elem e he
  have h1 := evalO_sound h hx
  have hs : ∃ A n c, a.eval x = .slice A n c ∧ (∀ k, nL l = some k → 0 < k → A.isNone = false) := by
    generalize a.eval x = u at h1
    cases l <;> simp only [isSlice, Bool.false_eq_true] at hl
    · have h1 : Rep m u (.sl _ _) := h1
      cases h1 with
      | slNil => exact ⟨_, _, _, rfl, fun k hk h0 => by simp [nL] at hk; omega⟩
      | sl => exact ⟨_, _, _, rfl, fun _ _ _ => rfl⟩
    · have h1 : Rep m u (.nil _) := h1
      cases h1
      exact ⟨_, _, _, rfl, fun k hk h0 => by simp [nL] at hk; omega⟩
    · rcases h1 with ⟨_, _, rfl, rfl⟩ | ⟨b, ad, _, _, rfl, _⟩
      · exact ⟨_, _, _, rfl, fun k hk h0 => by simp [nL] at hk; omega⟩
      · exact ⟨_, _, _, rfl, fun _ _ _ => rfl⟩
  obtain ⟨A, n, c, hs, hn⟩ := hs
  refine ⟨A.isNone, hn, givesA_of_value h (v := .bool A.isNone) ?_ (Rep.bool _)⟩
  have hr := Lib.run_eql_slice_nil (P := P) w t e A n c 0 0 hu
  unfold execOp
  simp only [ho, hs, eqGuard_at_slice, Sem.run_bind, Sem.run_pure, Result.andThen_ok]
  show ((binOp .eql t (.slice A n c) (.slice none 0 0)).run P w).andThen _ = _
  rw [hr]
  rfl

/-! ### '==' between structs -/
def eqCell : L → L → Option Bool
  | .int k x, .int k' y => if k = k' then some (x == y) else none
  | .bool x, .bool y => some (x == y)
  | .str x, .str y => some (x.toList == y.toList)
  | _, _ => none
def eqCells : List L → List L → Option Bool
  | [], [] => some true
  | x :: xs, y :: ys => (eqCell x y).bind fun b => (eqCells xs ys).map fun c => b && c
  | _, _ => none

theorem eqCells_append : ∀ (xs ys xs' ys' : List L) (b : Bool), xs.length = ys.length → eqCells (xs ++ xs') (ys ++ ys') = some b → ∃ c d, eqCells xs ys = some c ∧ eqCells xs' ys' = some d ∧ b = (c && d)
  | [], [], xs', ys', b, _, h => ⟨true, b, rfl, h, by simp⟩
  | x :: xs, y :: ys, xs', ys', b, hl, h => by
    simp only [List.cons_append, eqCells, Option.bind_eq_some_iff, Option.map_eq_some_iff] at h
    obtain ⟨e, h1, f, h2, rfl⟩ := h
    obtain ⟨c, d, h3, h4, rfl⟩ := eqCells_append xs ys xs' ys' f (by simpa using hl) h2
    exact ⟨e && c, d, by simp [eqCells, h1, h3], h4, by simp [Bool.and_assoc]⟩
  | [], _ :: _, _, _, _, hl, _ => by simp at hl
  | _ :: _, [], _, _, _, hl, _ => by simp at hl

def L.kd : L → Nat
  | .int _ _ => 0
  | .bool _ => 1
  | .str _ => 2
  | _ => 3
/-- The fields' kinds, laid one behind the other. -/
def eqFs (P : Program) (rec_ : TypeId → Option (List Nat)) : List Field → Nat → Option (List Nat)
  | [], _ => some []
  | f :: fs, n => if f.name = "_" ∨ f.offset ≠ n then none else
    match rec_ f.type, P.info? f.type with
    | some k, some i => if i.size = k.length ∧ 0 < k.length then (eqFs P rec_ fs (n + k.length)).map (k ++ ·) else none
    | _, _ => none
/-- The kinds of the plain cells that make a value of the type. -/
def eqOk (P : Program) : Nat → TypeId → Option (List Nat)
  | 0, _ => none
  | d + 1, t => match P.underlying t with
    | some .bool => some [1]
    | some (.int _) => some [0]
    | some .string => some [2]
    | some (.struct fs) => if P.stoodInHeld t then none else eqFs P (eqOk P d) fs.toList 0
    | _ => none
def eqK (P : Program) (t : TypeId) : Option (List Nat) := match P.underlying t with
  | some (.struct _) => if P.eqGuardType P.depth t then none else eqOk P 5 t
  | _ => none

def CellsRep (m : Mem) (cs : List Value) (xs : List L) : Prop := cs.length = xs.length ∧ ∀ (j : Nat) (l : L), xs[j]? = some l → ∃ v, cs[j]? = some v ∧ Rep m v l
theorem CellsRep.sub {cs : List Value} {xs : List L} (h : CellsRep m cs xs) (n k : Nat) : CellsRep m ((cs.drop n).take k) ((xs.drop n).take k) := by
  refine ⟨by simp [h.1], fun j l hj => ?_⟩
  rw [List.getElem?_take] at hj
  split at hj
  · rename_i hlt
    rw [List.getElem?_drop] at hj
    obtain ⟨v, h1, h2⟩ := h.2 _ l hj
    exact ⟨v, by rw [List.getElem?_take, if_pos hlt, List.getElem?_drop]; exact h1, h2⟩
  · cases hj

/-- The value of a type that these cells make. -/
def mkVal (P : Program) (t : TypeId) (cs : List Value) : Value := match P.underlying t with
  | some (.struct _) | some (.array _ _) => .agg cs.toArray
  | _ => cs.headD undef

theorem run_part_mk {t : TypeId} {i : TypeInfo} {d : TypeDesc} (hi : P.info? t = some i) (hd : P.underlying t = some d) (cs : List Value) (off : Nat) (hfit : off + i.size ≤ cs.length) (h1 : isAggD d = true ∨ i.size = 1) : (part t cs.toArray off).run P w = .ok (mkVal P t ((cs.drop off).take i.size)) w := by
  unfold part mkVal
  simp only [Sem.run_bind, run_isAgg hd, Result.andThen_ok, hd]
  by_cases hag : isAggD d = true
  · rw [hag]
    simp only [if_true, Sem.run_bind, run_sizeOf hi, Result.andThen_ok, Sem.run_pure]
    have : (cs.toArray.extract off (off + i.size)) = ((cs.drop off).take i.size).toArray := by
      apply Array.ext'
      simp [List.take_drop, Nat.add_comm]
    rw [this]
    cases d <;> first | rfl | cases hag
  · have hs : i.size = 1 := h1.resolve_left hag
    have hlt : off < cs.length := by omega
    have e1 : (cs.drop off).take i.size = [cs[off]] := by
      rw [hs, List.drop_eq_getElem_cons hlt]
      rfl
    have e2 : cs.toArray[off]? = some cs[off] := by simp [List.getElem?_eq_getElem hlt]
    rw [e1]
    simp only [hag, Bool.false_eq_true, if_false, e2, Sem.run_pure]
    cases d <;> first | rfl | (exact absurd rfl hag)

theorem eqCells_len : ∀ (xs ys : List L) (b : Bool), eqCells xs ys = some b → xs.length = ys.length
  | [], [], _, _ => rfl
  | x :: xs, y :: ys, b, h => by
    simp only [eqCells, Option.bind_eq_some_iff, Option.map_eq_some_iff] at h
    obtain ⟨_, _, c, h2, _⟩ := h
    simp [eqCells_len xs ys c h2]
  | [], _ :: _, _, h => by simp [eqCells] at h
  | _ :: _, [], _, h => by simp [eqCells] at h

theorem run_eqFs {e : Nat} {rec_ : TypeId → Option (List Nat)} (ih : ∀ t ks, rec_ t = some ks → ∀ (cs cs' : List Value) (xs ys : List L) (b : Bool), CellsRep m cs xs → CellsRep m cs' ys → xs.map L.kd = ks → ys.map L.kd = ks → eqCells xs ys = some b →
      (Op.equalIn e t (mkVal P t cs) (mkVal P t cs')).run P w = .ok b w ∧ (∃ d, P.underlying t = some d ∧ (isAggD d = true ∨ ks.length = 1))) (cs cs' : List Value) (xs ys : List L) (h1 : CellsRep m cs xs) (h2 : CellsRep m cs' ys) :
    ∀ (fs : List Field) (n : Nat) (ks : List Nat) (b : Bool), eqFs P rec_ fs n = some ks → (xs.drop n).map L.kd = ks → (ys.drop n).map L.kd = ks → eqCells (xs.drop n) (ys.drop n) = some b → (Op.eqFields e cs.toArray cs'.toArray fs).run P w = .ok b w
  | [], n, ks, b, hf, hx, hy, hb => by
    simp only [eqFs, Option.some.injEq] at hf
    subst hf
    have e1 : xs.drop n = [] := List.map_eq_nil_iff.1 hx
    have e2 : ys.drop n = [] := List.map_eq_nil_iff.1 hy
    rw [e1, e2] at hb
    simp only [eqCells, Option.some.injEq] at hb
    subst hb
    simp [Op.eqFields]
  | f :: fs, n, ks, b, hf, hx, hy, hb => by
    simp only [eqFs] at hf
    split at hf
    · cases hf
    · rename_i hc
      have hname : f.name ≠ "_" := fun h => hc (.inl h)
      have hoff : f.offset = n := Classical.byContradiction fun h => hc (.inr h)
      split at hf
      · rename_i k i hk hi
        split at hf
        · rename_i hsz
          obtain ⟨hsz, hpos⟩ := hsz
          obtain ⟨ks', hr, rfl⟩ := Option.map_eq_some_iff.1 hf
          have hlx : (xs.drop n).length = k.length + ks'.length := by have := congrArg List.length hx; simpa using this
          have hly : (ys.drop n).length = k.length + ks'.length := by have := congrArg List.length hy; simpa using this
          have hx1 : ((xs.drop n).take k.length).map L.kd = k := by rw [List.map_take, hx]; simp
          have hy1 : ((ys.drop n).take k.length).map L.kd = k := by rw [List.map_take, hy]; simp
          have hx2 : (xs.drop (n + k.length)).map L.kd = ks' := by rw [← List.drop_drop, List.map_drop, hx]; simp
          have hy2 : (ys.drop (n + k.length)).map L.kd = ks' := by rw [← List.drop_drop, List.map_drop, hy]; simp
          have hb' : eqCells ((xs.drop n).take k.length ++ xs.drop (n + k.length)) ((ys.drop n).take k.length ++ ys.drop (n + k.length)) = some b := by
            rw [← List.drop_drop, ← List.drop_drop, List.take_append_drop, List.take_append_drop]
            exact hb
          obtain ⟨c, d, h3, h4, rfl⟩ := eqCells_append _ _ _ _ b (by simp; simp at hlx hly; omega) hb'
          obtain ⟨h5, dd, h6, h7⟩ := ih _ _ hk _ _ _ _ c (h1.sub n k.length) (h2.sub n k.length) hx1 hy1 h3
          have hfit : n + i.size ≤ cs.length := by rw [h1.1, hsz]; simp at hlx; omega
          have hfit' : n + i.size ≤ cs'.length := by rw [h2.1, hsz]; simp at hly; omega
          have h7' : isAggD dd = true ∨ i.size = 1 := by rw [hsz]; exact h7
          simp only [Op.eqFields, hoff]
          rw [if_pos hname]
          simp only [Sem.run_bind, run_part_mk (w := w) hi h6 cs n hfit h7', run_part_mk (w := w) hi h6 cs' n hfit' h7', Result.andThen_ok]
          rw [← hsz] at h5
          rw [h5]
          simp only [Result.andThen_ok]
          cases c with
          | false => simp
          | true =>
            simp only [Bool.not_true, Bool.false_eq_true, if_false, Bool.true_and]
            exact run_eqFs ih cs cs' xs ys h1 h2 fs _ _ d hr hx2 hy2 h4
        · cases hf
      · cases hf

theorem run_eqTy : ∀ (d : Nat) (t : TypeId) (ks : List Nat), eqOk P d t = some ks → ∀ (e : Nat) (cs cs' : List Value) (xs ys : List L) (b : Bool), CellsRep m cs xs → CellsRep m cs' ys → xs.map L.kd = ks → ys.map L.kd = ks → eqCells xs ys = some b →
    (Op.equalIn (e + d) t (mkVal P t cs) (mkVal P t cs')).run P w = .ok b w ∧ ∃ dd, P.underlying t = some dd ∧ (isAggD dd = true ∨ ks.length = 1)
  | 0, t, ks, h => by simp [eqOk] at h
  | d + 1, t, ks, h => by
    intro e cs cs' xs ys b h1 h2 hx hy hb
    have one : ∀ (k : Nat), ks = [k] → ∃ x y u v, xs = [x] ∧ ys = [y] ∧ cs = [u] ∧ cs' = [v] ∧ L.kd x = k ∧ L.kd y = k ∧ Rep m u x ∧ Rep m v y ∧ eqCell x y = some b := by
      intro k hk
      subst hk
      have hlx : xs.length = 1 := by have := congrArg List.length hx; simpa using this
      have hly : ys.length = 1 := by have := congrArg List.length hy; simpa using this
      obtain ⟨x, rfl⟩ := List.length_eq_one_iff.1 hlx
      obtain ⟨y, rfl⟩ := List.length_eq_one_iff.1 hly
      obtain ⟨u0, rfl⟩ := List.length_eq_one_iff.1 (h1.1.trans hlx)
      obtain ⟨v0, rfl⟩ := List.length_eq_one_iff.1 (h2.1.trans hly)
      obtain ⟨u, hu, hu'⟩ := h1.2 0 x rfl
      obtain ⟨v, hv, hv'⟩ := h2.2 0 y rfl
      simp only [List.getElem?_cons_zero, Option.some.injEq] at hu hv
      subst hu hv
      refine ⟨x, y, _, _, rfl, rfl, rfl, rfl, by simpa using hx, by simpa using hy, hu', hv', ?_⟩
      simp only [eqCells, Option.bind_eq_some_iff, Option.map_some, Option.some.injEq, Bool.and_true] at hb
      obtain ⟨q, h3, rfl⟩ := hb
      exact h3
    simp only [eqOk] at h
    split at h
    · rename_i hd
      simp only [Option.some.injEq] at h
      obtain ⟨x, y, u, v, rfl, rfl, rfl, rfl, kx, ky, hu, hv, hb⟩ := one 1 h.symm
      refine ⟨?_, _, hd, .inr (by rw [← h]; rfl)⟩
      have e1 : mkVal P t [u] = u := by unfold mkVal; rw [hd]; rfl
      have e2 : mkVal P t [v] = v := by unfold mkVal; rw [hd]; rfl
      rw [e1, e2]
      cases x <;> simp [L.kd] at kx
      cases y <;> simp [L.kd] at ky
      cases hu; cases hv
      simp only [eqCell, Option.some.injEq] at hb
      subst hb
      exact run_equalIn_bool' w (e + d) t _ _ hd
    · rename_i q hd
      simp only [Option.some.injEq] at h
      obtain ⟨x, y, u, v, rfl, rfl, rfl, rfl, kx, ky, hu, hv, hb2⟩ := one 0 h.symm
      refine ⟨?_, _, hd, .inr (by rw [← h]; rfl)⟩
      have e1 : mkVal P t [u] = u := by unfold mkVal; rw [hd]; rfl
      have e2 : mkVal P t [v] = v := by unfold mkVal; rw [hd]; rfl
      rw [e1, e2]
      cases x <;> simp [L.kd] at kx
      cases y <;> simp [L.kd] at ky
      cases hu; cases hv
      rename_i k1 n1 k2 n2
      by_cases hkk : k1 = k2
      · subst hkk
        simp only [eqCell, if_true, Option.some.injEq] at hb2
        subst hb2
        exact run_equalIn_int w (e + d) t _ _ _ _ hd
      · simp [eqCell, hkk] at hb2
    · rename_i hd
      simp only [Option.some.injEq] at h
      obtain ⟨x, y, u, v, rfl, rfl, rfl, rfl, kx, ky, hu, hv, hb⟩ := one 2 h.symm
      refine ⟨?_, _, hd, .inr (by rw [← h]; rfl)⟩
      have e1 : mkVal P t [u] = u := by unfold mkVal; rw [hd]; rfl
      have e2 : mkVal P t [v] = v := by unfold mkVal; rw [hd]; rfl
      rw [e1, e2]
      cases x <;> simp [L.kd] at kx
      cases y <;> simp [L.kd] at ky
      cases hu; cases hv
      simp only [eqCell, Option.some.injEq] at hb
      subst hb
      exact run_equalIn_string w (e + d) t _ _ hd
    · rename_i fs hd
      split at h
      · cases h
      · rename_i hst
        refine ⟨?_, _, hd, .inl rfl⟩
        have e1 : ∀ c, mkVal P t c = .agg c.toArray := fun c => by unfold mkVal; rw [hd]
        have hfo : P.fieldsOf t = fs := by unfold Program.fieldsOf; rw [hd]
        have := run_equalIn_struct (P := P) w (e + d) t cs.toArray cs'.toArray (by rw [hfo]; exact hd) (by simpa using hst)
        rw [e1, e1]
        show (Op.equalIn (e + d + 1) t _ _).run P w = _
        rw [this, hfo]
        exact run_eqFs (fun t ks hk cs cs' xs ys b a1 a2 a3 a4 a5 => run_eqTy d t ks hk e cs cs' xs ys b a1 a2 a3 a4 a5) cs cs' xs ys h1 h2 fs.toList 0 ks b h (by simpa using hx) (by simpa using hy) (by simpa using hb)
    · cases h

def eqOp (op : BinOp) (b : Bool) : Option Bool := match op with | .eql => some b | .neq => some !b | _ => none


theorem eqCell_fz {x y : L} {b : Bool} (h : eqCell x y = some b) : x.isFz = true ∧ y.isFz = true := by
  unfold eqCell at h
  split at h
  · exact ⟨rfl, rfl⟩
  · exact ⟨rfl, rfl⟩
  · exact ⟨rfl, rfl⟩
  · cases h
theorem eqCells_fz : ∀ (xs ys : List L) (b : Bool), eqCells xs ys = some b → (∀ x ∈ xs, x.isFz = true) ∧ ∀ y ∈ ys, y.isFz = true
  | [], [], _, _ => ⟨fun x hx => (by cases hx), fun x hx => (by cases hx)⟩
  | x :: xs, y :: ys, b, h => by
    simp only [eqCells, Option.bind_eq_some_iff, Option.map_eq_some_iff] at h
    obtain ⟨e, h1, c, h2, _⟩ := h
    obtain ⟨h3, h4⟩ := eqCells_fz xs ys c h2
    obtain ⟨h5, h6⟩ := eqCell_fz h1
    exact ⟨fun z hz => (List.mem_cons.1 hz).elim (fun e => e ▸ h5) (h3 z), fun z hz => (List.mem_cons.1 hz).elim (fun e => e ▸ h6) (h4 z)⟩
  | [], _ :: _, _, h => by simp [eqCells] at h
  | _ :: _, [], _, h => by simp [eqCells] at h

theorem givesA_eqAgg {o : Oper} {op : BinOp} {t t' : TypeId} {x y : Operand} {xs ys : List L} {ks : List Nat} {b b' : Bool} (ho : o.op = .binOp op t x y t') (hk : eqK P t = some ks) (h : CI P w0 m0 F0 s a w m ω)
    (hx : evalO T s t x = some (.v (.agg xs))) (hy : evalO T s t y = some (.v (.agg ys))) (hkx : xs.map L.kd = ks) (hky : ys.map L.kd = ks) (hb : eqCells xs ys = some b) (hop : eqOp op b = some b') : GivesA P w0 m0 F0 s o (.v (.one (.bool b'))) a w ω := by
  unfold eqK at hk
  split at hk
  · rename_i fs hd
    split at hk
    · cases hk
    · rename_i hg
      obtain ⟨cs, h1, h2, h3⟩ := evalO_sound h hx
      obtain ⟨cs', h1', h2', h3'⟩ := evalO_sound h hy
      obtain ⟨h4, _⟩ := run_eqTy (w := w) 5 t ks hk 9995 cs.toList cs'.toList xs ys b ⟨by simpa using h2, fun j l hj => let ⟨v, h5, h6⟩ := h3 j l hj; ⟨v, by simpa using h5, h6.rep ((eqCells_fz xs ys b hb).1 l (List.mem_of_getElem? hj))⟩⟩ ⟨by simpa using h2', fun j l hj => let ⟨v, h5, h6⟩ := h3' j l hj; ⟨v, by simpa using h5, h6.rep ((eqCells_fz xs ys b hb).2 l (List.mem_of_getElem? hj))⟩⟩ hkx hky hb
      have e1 : ∀ c : Array Value, mkVal P t c.toList = .agg c := fun c => by unfold mkVal; rw [hd]
      rw [e1, e1] at h4
      refine givesA_of_value h (v := .bool b') ?_ (Rep.bool _)
      have hgr := run_eqGuard_agg (P := P) w op t x y cs cs' (by simpa using hg)
      unfold execOp
      simp only [ho, h1, h1', Sem.run_bind, hgr, Result.andThen_ok]
      cases op <;> simp only [eqOp, Option.some.injEq, reduceCtorEq] at hop
      · subst hop
        rw [run_eql_struct, h4]
        rfl
      · subst hop
        rw [run_neq_struct, h4]
        rfl
  · cases hk
end
end Go.Bw
