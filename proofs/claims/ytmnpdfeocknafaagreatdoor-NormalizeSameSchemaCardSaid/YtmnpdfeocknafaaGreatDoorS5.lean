/-
  (*strings.Builder).WriteString AND String, WITH ALL THAT STAYS AS IT WAS: after the kit's own proofs (Derived/Shelf/Strings/Builder1.lean), whose contracts say less of the other blocks.
-/
import Derived.Shelf.Strings.BuilderK
import Derived.OwnWalk
import Derived.WalkKit
import Derived.Lib.Hide
import Derived.Shelf.RegionOpenPlain
set_option linter.unusedSimpArgs false
set_option linter.unusedVariables false
set_option linter.unusedVariables false
namespace Go.Proofs
open Go.Shelf Go.RowKit Go.Lib
variable {P : Program} {ρ : Ren}

/-- v is a slice of bytes over a row of its own (or nil), which holds bs. -/
def BytesAt (w : World) (e : TypeId) (v : Value) (n : Nat) (bs : List Value) : Prop :=
  bs.length = n ∧ ((v = .slice none 0 0 ∧ n = 0) ∨ ∃ g cap cur, v = .slice (some ⟨g, 0, none⟩) n cap ∧ w.heap[g]? = some (.cells cur e (0, 0)) ∧ n ≤ cap ∧ cap ≤ maxLen ∧ cur.size = cap ∧ cur.toList.take n = bs)
/-- All but the blocks of F is as it was. -/
structure KeptBut (F : Nat → Prop) (w w' : World) : Prop where
  os : w'.os = w.os
  tape : w'.tape = w.tape
  output : w'.output = w.output
  size : w.heap.size ≤ w'.heap.size
  block : ∀ k, k < w.heap.size → ¬ F k → w'.heap[k]? = w.heap[k]?
/-- Where the bytes lie behind a write. -/
def Moved (w w' : World) (v v' : Value) : Prop := v'.ownBlock = v.ownBlock ∨ ∃ k, v'.ownBlock = some k ∧ w.heap.size ≤ k ∧ k < w'.heap.size
theorem append_room (w : World) (t u ty e e' : TypeId) (i : TypeInfo) (ht : P.underlying t = some (.slice e)) (hu : P.underlying u = some .string) (hi : P.info? e = some i) (hs1 : i.size = 1)
    (g sLen sCap : Nat) (cur : Array Value) (hg : w.heap[g]? = some (.cells cur e' (0, 0))) (s : ByteArray)
    (hroom : sLen + s.size ≤ sCap) (hfit : sLen + s.size ≤ cur.size) :
    (Builtin.append_ #[t, u] ty #[.slice (some ⟨g, 0, none⟩) sLen sCap, .string s]).run P w =
      .ok (.slice (some ⟨g, 0, none⟩) (sLen + s.size) sCap) (w.setRow g (cur.toList.take sLen ++ strCells s ++ cur.toList.drop (sLen + s.size)).toArray) := by
  have hf := run_firstCells_string (P := P) w 1 s
  have hst := run_storeCells_at P g sLen e' (strCells s) 0 cur w hg (by simpa [strCells_length] using hfit) (strCells_oneCell s)
  simp only [Nat.add_zero, strCells_length] at hst
  simp [Builtin.append_, run_underlying ht, run_underlying hu, sizeOf, typeInfo, hi, hs1, Builtin.lenOf, hroom, hf, Addr.add_lit, hst]
theorem append_bytes (w : World) (t u ty e : TypeId) (i : TypeInfo) (ht : P.underlying t = some (.slice e)) (hu : P.underlying u = some .string) (hi : P.info? e = some i) (hz : i.zero = some (.int .u8 0))
    (hsize : i.size = 1) (hby : i.bytes = 1) (v : Value) (n : Nat) (xs : List Value) (hv : BytesAt w e v n xs) (s : ByteArray) (hbytes : n + s.size ≤ 140737488355328) :
    ∃ v' w', (Builtin.append_ #[t, u] ty #[v, .string s]).run P w = .ok v' w' ∧ BytesAt w' e v' (n + s.size) (xs ++ strCells s) ∧ w.grownBy w' v.ownBlock ∧ Moved w w' v v' ∧ ∃ ao n' cap, v' = .slice ao n' cap := by
  have h63 : n + s.size ≤ maxLen := by unfold maxLen; omega
  obtain ⟨hxl, hv⟩ := hv
  have hlen : (xs ++ strCells s).length = n + s.size := by rw [List.length_append, hxl, strCells_length]
  have grown : ∀ (old : Nat), old < n + s.size → ∀ (row : Option Nat),
      BytesAt (w.drew.alloc (.cells (xs.toArray ++ (strCells s).toArray ++ Builtin.zeroCells (Value.int .u8 0).cells (grownCap w (n + s.size) old e - (n + s.size))) e)) e
        (.slice (some ⟨w.heap.size, 0, none⟩) (n + s.size) (grownCap w (n + s.size) old e)) (n + s.size) (xs ++ strCells s) ∧
      w.grownBy (w.drew.alloc (.cells (xs.toArray ++ (strCells s).toArray ++ Builtin.zeroCells (Value.int .u8 0).cells (grownCap w (n + s.size) old e - (n + s.size))) e)) row := by
    intro old ho row
    have hge := grownCap_ge w (n + s.size) old e
    have hcm : grownCap w (n + s.size) old e ≤ maxLen := grownCap_le_maxLen w (n + s.size) old e h63
    refine ⟨⟨hlen, .inr ⟨w.heap.size, _, _, rfl, heap_alloc_new w.drew _, hge, hcm, ?_, ?_⟩⟩, ⟨rfl, rfl, rfl, by simp, fun k hk _ => Go.Lib.alloc_old w.drew _ k hk⟩⟩
    · have hz1 : (Value.int IntKind.u8 0).cells.size = 1 := rfl
      simp only [Array.size_append, List.size_toArray, size_zeroCells, hz1, hxl, strCells_length]
      omega
    · simp only [Array.toList_append, List.append_assoc]
      rw [← List.append_assoc, ← hlen]
      exact List.take_left
  have newer : ∀ (o : Obj), w.heap.size < (w.drew.alloc o).heap.size := fun o => by show _ < (w.heap.push o).size; simp
  rcases hv with ⟨rfl, rfl⟩ | ⟨g, cap, cur, rfl, hg, hnc, hcm, hcs, htake⟩
  · have hx : xs = [] := List.eq_nil_of_length_eq_zero hxl
    subst hx
    by_cases hm : s.size = 0
    · have hn : strCells s = [] := List.eq_nil_of_length_eq_zero (by rw [strCells_length]; exact hm)
      refine ⟨.slice none 0 0, w, ?_, ⟨by simp [hm, hn], .inl ⟨rfl, by omega⟩⟩, ⟨rfl, rfl, rfl, Nat.le_refl _, fun _ _ _ => rfl⟩, .inl rfl, _, _, _, rfl⟩
      have hf := run_firstCells_string (P := P) w 1 s
      rw [hm] at hf
      simp [Builtin.append_, run_underlying ht, run_underlying hu, sizeOf, typeInfo, hi, hsize, Builtin.lenOf, hm, hf]
    · have hr := run_append_nil_string (P := P) w t u ty e i (.int .u8 0) ht hu hi hz s (by omega) (by omega) (by rw [hby]; omega)
      have hgr := grown 0 (by omega) (Value.ownBlock (.slice none 0 0))
      simp only [Nat.zero_add, List.nil_append, Array.empty_append] at hgr ⊢
      have e1 : (s.data.map fun b => Value.int .u8 b.toNat) = (strCells s).toArray := by
        apply Array.ext'
        simp [strCells]
      rw [e1] at hr
      exact ⟨_, _, hr, hgr.1, hgr.2, .inr ⟨w.heap.size, rfl, Nat.le_refl _, newer _⟩, _, _, _, rfl⟩
  · by_cases hroom : n + s.size ≤ cap
    · have hr := append_room (P := P) w t u ty e e i ht hu hi hsize g n cap cur hg s hroom (by omega)
      refine ⟨_, _, hr, ⟨hlen, .inr ⟨g, cap, _, rfl, setRow_heap w g cur _ e _ hg, hroom, hcm, ?_, ?_⟩⟩, ⟨rfl, rfl, rfl, by simp, fun k _ hk => setRow_other w g k _ (fun e => hk (by simp [Value.ownBlock, e]))⟩, .inl rfl, _, _, _, rfl⟩
      · simp only [List.size_toArray, List.length_append, List.length_take, List.length_drop, Array.length_toList, strCells_length]
        omega
      · rw [htake, ← hlen]
        exact List.take_left
    · have holds : ∀ j u, xs[j]? = some u → w.cell? ((⟨g, 0, none⟩ : Addr).add j) = some u := fun j u hj => by
        rw [Addr.add_lit, Nat.zero_add, cell_of_heap hg]
        have hj2 : (cur.toList.take n)[j]? = some u := by rw [htake]; exact hj
        rw [List.getElem?_take] at hj2
        split at hj2
        · simpa using hj2
        · cases hj2
      have hr := run_append_grow_string (P := P) w t u ty e i (.int .u8 0) ht hu hi hz ⟨g, 0, none⟩ n cap xs (by rw [hsize, hxl]; omega) holds s (by omega) (by unfold maxLen at h63; omega) (by rw [hby]; exact growslice_fits (by omega) (by omega))
      have hgr := grown cap (by omega) (Value.ownBlock (.slice (some ⟨g, 0, none⟩) n cap))
      exact ⟨_, _, hr, hgr.1, hgr.2, .inr ⟨w.heap.size, rfl, Nat.le_refl _, newer _⟩, _, _, _, rfl⟩
theorem wpList_append_bytes {w : World} {ops : Array Oper} {rest : List Oper} {o : Oper} {a : Act} {Q : Exit → Act → World → Prop} (hgd : o.guard = none) (sl x : Operand) (t u : TypeId)
    (ho : o.op = .call { callee := .builtin .append, args := #[sl, x], argTypes := #[t, u] })
    (e : TypeId) (i : TypeInfo) (ht : P.underlying t = some (.slice e)) (hu : P.underlying u = some .string) (hi : P.info? e = some i) (hz : i.zero = some (.int .u8 0))
    (hsize : i.size = 1) (hby : i.bytes = 1)
    (v : Value) (n : Nat) (xs : List Value) (hs : a.eval sl = v) (hv : BytesAt w e v n xs) (s : ByteArray) (hx : a.eval x = .string s) (hbytes : n + s.size ≤ 140737488355328)
    (h : ∀ v' w', BytesAt w' e v' (n + s.size) (xs ++ strCells s) → w.grownBy w' v.ownBlock → Moved w w' v v' → wpList P ops Q rest (a.put o.dst v') w') : wpList P ops Q (o :: rest) a w := by
  refine wpList_plain hgd fun K hK => ?_
  obtain ⟨v', w', hr, h2, h3, h4, h5⟩ := append_bytes (P := P) w t u o.type e i ht hu hi hz hsize hby v n xs hv s hbytes
  unfold Oper.wp execOp
  simp only [ho, resolve, invoke, builtin, Sem.run_bind, Sem.run_pure, Result.andThen_ok, List.map_toArray, List.map_cons, List.map_nil, hs, hx, hr]
  exact hK _ _ (h v' w' h2 h3 h4)

theorem BytesAt.keep {w w' : World} {e : TypeId} {v : Value} {n : Nat} {bs : List Value} (h : BytesAt w e v n bs) (hk : ∀ k, v.ownBlock = some k → w'.heap[k]? = w.heap[k]?) : BytesAt w' e v n bs := by
  refine ⟨h.1, h.2.imp (fun h => h) fun ⟨g, cap, cur, h1, h2, h3⟩ => ⟨g, cap, cur, h1, ?_, h3⟩⟩
  rw [hk g (by rw [h1]; rfl)]
  exact h2
theorem BytesAt.lt {w : World} {e : TypeId} {v : Value} {n : Nat} {bs : List Value} (h : BytesAt w e v n bs) {k : Nat} (hk : v.ownBlock = some k) : k < w.heap.size := by
  rcases h.2 with ⟨rfl, _⟩ | ⟨g, cap, cur, rfl, h2, _⟩
  · cases hk
  · simp only [Value.ownBlock, Option.some.injEq] at hk
    subst hk
    rcases Nat.lt_or_ge g w.heap.size with h' | h'
    · exact h'
    · simp [Array.getElem?_eq_none h'] at h2
/-- The end of WriteString: the bytes are appended, and the buffer is stored. -/
theorem ws_end {w w1 w2 : World} {e T : TypeId} {b : Nat} {p v v' : Value} {n m : Nat} {bs bs' : List Value} (hk : KeptBut (fun k => k = b) w w1) (hbw : b < w.heap.size) (hv1 : BytesAt w1 e v n bs) (hne : v.ownBlock ≠ some b)
    (hb2 : w2.heap[b]? = some (.cells #[p, v] T (0, 0))) (hv' : BytesAt w2 e v' m bs') (hg : w1.grownBy w2 v.ownBlock) (hm : Moved w1 w2 v v') (hsz : w1.heap.size = w.heap.size) :
    (w2.setCell ⟨b, 1, none⟩ v').heap[b]? = some (.cells #[p, v'] T (0, 0)) ∧ BytesAt (w2.setCell ⟨b, 1, none⟩ v') e v' m bs' ∧ v'.ownBlock ≠ some b ∧ Moved w (w2.setCell ⟨b, 1, none⟩ v') v v' ∧
      KeptBut (fun k => k = b ∨ v.ownBlock = some k) w (w2.setCell ⟨b, 1, none⟩ v') := by
  have hne' : v'.ownBlock ≠ some b := by
    intro e'
    rcases hm with h | ⟨k, h1, h2, h3⟩
    · exact hne (h ▸ e')
    · rw [h1] at e'
      injection e' with e'
      omega
  have hsize : (w2.setCell ⟨b, 1, none⟩ v').heap.size = w2.heap.size := by simp [World.setCell]
  have hot : ∀ k, k ≠ b → (w2.setCell ⟨b, 1, none⟩ v').heap[k]? = w2.heap[k]? := fun k h => Below.heap_setCell _ _ _ _ h
  refine ⟨?_, hv'.keep fun k h => hot k fun e' => hne' (e' ▸ h), hne', ?_, ⟨hg.os.trans hk.os, hg.tape.trans hk.tape, hg.output.trans hk.output, ?_, fun k h1 h2 => ?_⟩⟩
  · simp [World.setCell, Array.getElem?_modify, hb2]
  · rcases hm with h | ⟨k, h1, h2, h3⟩
    · exact .inl h
    · exact .inr ⟨k, h1, by omega, by rw [hsize]; exact h3⟩
  · have := hg.size
    rw [hsize]
    omega
  · rw [hot k fun e' => h2 (.inl e'), hg.block k (by omega) fun e' => h2 (.inr e'.symm), hk.block k h1 fun e' => h2 (.inl e')]

set_option maxHeartbeats 2000000 in
set_option maxRecDepth 100000 in
theorem Any.ws_used (L : Lays.n166 P ρ) (X : Builder.Extra P ρ) (b : Nat) (T : TypeId) (v : Value) (n : Nat) (bs : List Value) (s : ByteArray) (w : World) (hb : w.heap[b]? = some (.cells #[.pointer (some ⟨b, 0, none⟩), v] T (0, 0))) (hv : BytesAt w (ρ.t 5) v n bs) (hne : v.ownBlock ≠ some b) (hlen : n + s.size ≤ 140737488355328) :
    Calls P (ρ.f 166) #[.pointer (some ⟨b, 0, none⟩), .string s] w fun e w' => e = .returned (.tuple #[.int .i64 s.size, .nilIface]) ∧ ∃ v', w'.heap[b]? = some (.cells #[.pointer (some ⟨b, 0, none⟩), v'] T (0, 0)) ∧ BytesAt w' (ρ.t 5) v' (n + s.size) (bs ++ strCells s) ∧ v'.ownBlock ≠ some b ∧ Moved w w' v v' ∧ KeptBut (fun k => k = b ∨ v.ownBlock = some k) w w' := by
  obtain ⟨i0, hi, hz0, hz1, hz2⟩ := info_parts X.infoByte
  have mixed := L.mixed
  have t72 := L.t72; have a72 := L.a72; have z72 := L.z72; have v72 := L.v72; have u72 := run_underlying L.t72
  have t70 := L.t70; have a70 := L.a70; have z70 := L.z70; have v70 := L.v70; have u70 := run_underlying L.t70
  have t37 := L.t37; have a37 := L.a37; have z37 := L.z37; have v37 := L.v37; have u37 := run_underlying L.t37
  have t3 := L.t3; have a3 := L.a3; have z3 := L.z3; have v3 := L.v3; have u3 := run_underlying L.t3
  have t9 := L.t9; have a9 := L.a9; have z9 := L.z9; have v9 := L.v9; have u9 := run_underlying L.t9
  have t4 := L.t4; have a4 := L.a4; have z4 := L.z4; have v4 := L.v4; have u4 := run_underlying L.t4
  have t164 := L.t164; have a164 := L.a164; have z164 := L.z164; have v164 := L.v164; have u164 := run_underlying L.t164
  have t5 := X.t5; have a5 := X.a5; have z5 := X.z5; have v5 := X.v5; have u5 := run_underlying X.t5
  have e240 : ∀ args w, (callFunc (ρ.f 240) args).run P w = .ok (.enter (ρ.f 240) args) w := enters_of L.f240 (by kernel_rfl) rfl
  have hbw : b < w.heap.size := by
    rcases Nat.lt_or_ge b w.heap.size with h' | h'
    · exact h'
    · simp [Array.getElem?_eq_none h'] at hb
  have c00 : w.cell? ⟨b, 0, none⟩ = some (.pointer (some ⟨b, 0, none⟩)) := by rw [Lib.cell_of_heap hb]; rfl
  skip
  go_enter L.f166, Body.n166_ntmps ρ
  go_wp2_with (go_at_fn (ρ.f 240); refine (Any.Builder_copyCheck_used { L with } X.toX72 b _ c00).mono ?_)
  rintro e w1 ⟨rfl, hw1⟩
  have hbk : w1.heap[b]? = some (.cells #[.pointer (some ⟨b, 0, none⟩), v] T (0, 0)) := by
    rw [hw1]; exact hb
  have hkk : KeptBut (fun k => k = b) w w1 := by
    rw [hw1]; exact ⟨rfl, rfl, rfl, Nat.le_refl _, fun _ _ _ => rfl⟩
  have hsz : w1.heap.size = w.heap.size := by rw [hw1]
  have hv1 : BytesAt w1 (ρ.t 5) v n bs := hv.keep fun k h => hkk.block k (hv.lt h) fun e' => hne (e' ▸ h)
  clear hw1 c00
  have c0 : w1.cell? ⟨b, 0, none⟩ = some (.pointer (some ⟨b, 0, none⟩)) := by rw [Lib.cell_of_heap hbk]; rfl
  have c1 : w1.cell? ⟨b, 1, none⟩ = some v := by rw [Lib.cell_of_heap hbk]; rfl
  go_wp2_with (at_builtin; refine wpList_append_bytes rfl _ _ (ρ.t 37) (ρ.t 9) rfl (ρ.t 5) i0 L.t37 L.t9 hi hz0 hz1 hz2 _ n bs rfl hv1 s rfl hlen ?_)
  intro v' w2 hv' hgrow hmv
  have hsl : ∃ ao n' cap, v' = .slice ao n' cap := by
    rcases hv'.2 with ⟨hv, _⟩ | ⟨g, cap, cur, hv, _⟩
    · exact ⟨_, _, _, hv⟩
    · exact ⟨_, _, _, hv⟩
  have hb2 : w2.heap[b]? = some (.cells #[.pointer (some ⟨b, 0, none⟩), v] T (0, 0)) := by
    rw [hgrow.block b (by omega) (fun e => hne e.symm)]
    exact hbk
  have d0 : w2.cell? ⟨b, 0, none⟩ = some (.pointer (some ⟨b, 0, none⟩)) := by rw [Lib.cell_of_heap hb2]; rfl
  have d1 : w2.cell? ⟨b, 1, none⟩ = some v := by rw [Lib.cell_of_heap hb2]; rfl
  have f1 : w2.frozen? ⟨b, 1, none⟩ = false := Lib.frozen_of_heap hb2 1
  have HE := Lib.hid (ws_end hkk hbw hv1 hne hb2 hv' hgrow hmv hsz)
  clear hv' hgrow hmv
  obtain ⟨ao, n', cap, rfl⟩ := hsl
  go_wp2
  go_ret2
  exact ⟨rfl, _, HE.out⟩

set_option maxHeartbeats 2000000 in
set_option maxRecDepth 100000 in
theorem Any.ws_fresh (L : Lays.n166 P ρ) (X : Builder.Extra P ρ) (b : Nat) (v : Value) (n : Nat) (bs : List Value) (s : ByteArray) (w : World) (hb : w.heap[b]? = some (.cells #[.pointer none, v] (ρ.t 72) (0, 0))) (hv : BytesAt w (ρ.t 5) v n bs) (hne : v.ownBlock ≠ some b) (hlen : n + s.size ≤ 140737488355328) :
    Calls P (ρ.f 166) #[.pointer (some ⟨b, 0, none⟩), .string s] w fun e w' => e = .returned (.tuple #[.int .i64 s.size, .nilIface]) ∧ ∃ v', w'.heap[b]? = some (.cells #[.pointer (some ⟨b, 0, none⟩), v'] (ρ.t 72) (0, 0)) ∧ BytesAt w' (ρ.t 5) v' (n + s.size) (bs ++ strCells s) ∧ v'.ownBlock ≠ some b ∧ Moved w w' v v' ∧ KeptBut (fun k => k = b ∨ v.ownBlock = some k) w w' := by
  obtain ⟨i0, hi, hz0, hz1, hz2⟩ := info_parts X.infoByte
  have mixed := L.mixed
  have t72 := L.t72; have a72 := L.a72; have z72 := L.z72; have v72 := L.v72; have u72 := run_underlying L.t72
  have t70 := L.t70; have a70 := L.a70; have z70 := L.z70; have v70 := L.v70; have u70 := run_underlying L.t70
  have t37 := L.t37; have a37 := L.a37; have z37 := L.z37; have v37 := L.v37; have u37 := run_underlying L.t37
  have t3 := L.t3; have a3 := L.a3; have z3 := L.z3; have v3 := L.v3; have u3 := run_underlying L.t3
  have t9 := L.t9; have a9 := L.a9; have z9 := L.z9; have v9 := L.v9; have u9 := run_underlying L.t9
  have t4 := L.t4; have a4 := L.a4; have z4 := L.z4; have v4 := L.v4; have u4 := run_underlying L.t4
  have t164 := L.t164; have a164 := L.a164; have z164 := L.z164; have v164 := L.v164; have u164 := run_underlying L.t164
  have t5 := X.t5; have a5 := X.a5; have z5 := X.z5; have v5 := X.v5; have u5 := run_underlying X.t5
  have e240 : ∀ args w, (callFunc (ρ.f 240) args).run P w = .ok (.enter (ρ.f 240) args) w := enters_of L.f240 (by kernel_rfl) rfl
  have hbw : b < w.heap.size := by
    rcases Nat.lt_or_ge b w.heap.size with h' | h'
    · exact h'
    · simp [Array.getElem?_eq_none h'] at hb
  have c00 : w.cell? ⟨b, 0, none⟩ = some (.pointer none) := by rw [Lib.cell_of_heap hb]; rfl
  have hsh : w.shape? b = some ((ρ.t 72), 2) := by simp [World.shape?, hb]
  have hfz : w.frozen? ⟨b, 0, none⟩ = false := Lib.frozen_of_heap hb 0
  go_enter L.f166, Body.n166_ntmps ρ
  go_wp2_with (go_at_fn (ρ.f 240); refine (Any.Builder_copyCheck_fresh { L with } X.toX72 b _ c00 hsh hfz).mono ?_)
  rintro e w1 ⟨rfl, hw1⟩
  have hbk : w1.heap[b]? = some (.cells #[.pointer (some ⟨b, 0, none⟩), v] (ρ.t 72) (0, 0)) := by
    rw [hw1]; simp [World.setCell, Array.getElem?_modify, hb]
  have hkk : KeptBut (fun k => k = b) w w1 := by
    rw [hw1]; exact ⟨rfl, rfl, rfl, by simp [World.setCell], fun k _ hk => Below.heap_setCell _ _ _ _ hk⟩
  have hsz : w1.heap.size = w.heap.size := by rw [hw1]; simp [World.setCell]
  have hv1 : BytesAt w1 (ρ.t 5) v n bs := hv.keep fun k h => hkk.block k (hv.lt h) fun e' => hne (e' ▸ h)
  clear hw1 c00 hsh hfz
  have c0 : w1.cell? ⟨b, 0, none⟩ = some (.pointer (some ⟨b, 0, none⟩)) := by rw [Lib.cell_of_heap hbk]; rfl
  have c1 : w1.cell? ⟨b, 1, none⟩ = some v := by rw [Lib.cell_of_heap hbk]; rfl
  go_wp2_with (at_builtin; refine wpList_append_bytes rfl _ _ (ρ.t 37) (ρ.t 9) rfl (ρ.t 5) i0 L.t37 L.t9 hi hz0 hz1 hz2 _ n bs rfl hv1 s rfl hlen ?_)
  intro v' w2 hv' hgrow hmv
  have hsl : ∃ ao n' cap, v' = .slice ao n' cap := by
    rcases hv'.2 with ⟨hv, _⟩ | ⟨g, cap, cur, hv, _⟩
    · exact ⟨_, _, _, hv⟩
    · exact ⟨_, _, _, hv⟩
  have hb2 : w2.heap[b]? = some (.cells #[.pointer (some ⟨b, 0, none⟩), v] (ρ.t 72) (0, 0)) := by
    rw [hgrow.block b (by omega) (fun e => hne e.symm)]
    exact hbk
  have d0 : w2.cell? ⟨b, 0, none⟩ = some (.pointer (some ⟨b, 0, none⟩)) := by rw [Lib.cell_of_heap hb2]; rfl
  have d1 : w2.cell? ⟨b, 1, none⟩ = some v := by rw [Lib.cell_of_heap hb2]; rfl
  have f1 : w2.frozen? ⟨b, 1, none⟩ = false := Lib.frozen_of_heap hb2 1
  have HE := Lib.hid (ws_end hkk hbw hv1 hne hb2 hv' hgrow hmv hsz)
  clear hv' hgrow hmv
  obtain ⟨ao, n', cap, rfl⟩ := hsl
  go_wp2
  go_ret2
  exact ⟨rfl, _, HE.out⟩

set_option maxHeartbeats 1000000 in
set_option maxRecDepth 100000 in
theorem Any.str_all (L : Lays.n169 P ρ) (X : Builder.Extra P ρ) (b : Nat) (T : TypeId) (p v : Value) (l : List UInt8) (w : World) (hbk : w.heap[b]? = some (.cells #[p, v] T (0, 0))) (hv : BytesAt w (ρ.t 5) v l.length (Lib.byteCells l)) (h0 : l ≠ []) :
    Calls P (ρ.f 169) #[.pointer (some ⟨b, 0, none⟩)] w fun e w' => e = .returned (.string ⟨l.toArray⟩) ∧ ∃ g, v.ownBlock = some g ∧ w.grownBy w' (some g) := by
  have hl0 : l.length ≠ 0 := by simpa using h0
  obtain ⟨g, cap, cur, rfl, hg, hnc, hcm, hcs, htake⟩ : ∃ g cap cur, v = .slice (some ⟨g, 0, none⟩) l.length cap ∧ w.heap[g]? = some (.cells cur (ρ.t 5) (0, 0)) ∧ l.length ≤ cap ∧ cap ≤ maxLen ∧ cur.size = cap ∧ cur.toList.take l.length = Lib.byteCells l := by
    rcases hv.2 with ⟨_, hz⟩ | ⟨g, cap, cur, hv, r⟩
    · exact absurd hz hl0
    · exact ⟨g, cap, cur, hv, r⟩
  have c1 : w.drew.cell? ⟨b, 1, none⟩ = some (.slice (some ⟨g, 0, none⟩) l.length cap) := by
    have : w.drew.heap[b]? = some (.cells #[p, .slice (some ⟨g, 0, none⟩) l.length cap] T (0, 0)) := hbk
    rw [Lib.cell_of_heap this]; rfl
  have hSD : (Builtin.unsafeSliceData_ #[(ρ.t 37)] (ρ.t 127) #[.slice (some ⟨g, 0, none⟩) l.length cap]).run P w.drew = .ok (.pointer (some ⟨g, 0, none⟩)) w.drew :=
    Lib.run_unsafeSliceData_row _ _ _ _ _ _ (by omega)
  have hUS : (Builtin.unsafeString_ #[(ρ.t 127), (ρ.t 3)] (ρ.t 9) #[.pointer (some ⟨g, 0, none⟩), .int .i64 l.length]).run P w.drew = .ok (.string ⟨l.toArray⟩) (w.drew.freeze ⟨g, 0, none⟩ l.length) := by
    refine Lib.run_unsafeString_row w.drew (ρ.t 127) (ρ.t 3) (ρ.t 9) (ρ.t 5) L.t127 X.cellsByte g cur.size (by have hg' : w.drew.heap[g]? = some (.cells cur (ρ.t 5) (0, 0)) := hg; simp [World.shape?, hg']) l h0 (by omega) (by unfold maxLen at hcm; omega) ?_
    intro j x hx
    have hg' : w.drew.heap[g]? = some (.cells cur (ρ.t 5) (0, 0)) := hg
    rw [Addr.add_lit, Nat.zero_add, Lib.cell_of_heap hg']
    have h1 : (Lib.byteCells l)[j]? = some (.int .u8 x.toNat) := by simp [Lib.byteCells, hx]
    rw [← htake, List.getElem?_take] at h1
    split at h1
    · simpa using h1
    · cases h1
  have mixed := L.mixed
  have t72 := L.t72; have a72 := L.a72; have z72 := L.z72; have v72 := L.v72; have u72 := run_underlying L.t72
  have t70 := L.t70; have a70 := L.a70; have z70 := L.z70; have v70 := L.v70; have u70 := run_underlying L.t70
  have t37 := L.t37; have a37 := L.a37; have z37 := L.z37; have v37 := L.v37; have u37 := run_underlying L.t37
  have t127 := L.t127; have a127 := L.a127; have z127 := L.z127; have v127 := L.v127; have u127 := run_underlying L.t127
  have t3 := L.t3; have a3 := L.a3; have z3 := L.z3; have v3 := L.v3; have u3 := run_underlying L.t3
  have t9 := L.t9; have a9 := L.a9; have z9 := L.z9; have v9 := L.v9; have u9 := run_underlying L.t9
  have t5 := X.t5; have a5 := X.a5; have z5 := X.z5; have v5 := X.v5; have u5 := run_underlying X.t5
  have hgr : w.grownBy (w.drew.freeze ⟨g, 0, none⟩ l.length) (some g) := by
    unfold World.freeze
    rw [if_neg hl0]
    refine ⟨rfl, rfl, rfl, ?_, fun k _ hk => ?_⟩
    · show w.heap.size ≤ (w.drew.heap.modify g _).size
      rw [Array.size_modify]
      exact Nat.le_refl _
    · show (w.drew.heap.modify g _)[k]? = w.drew.heap[k]?
      rw [Array.getElem?_modify, if_neg fun e => hk (by rw [e])]
  have HG := Lib.hid hgr
  clear hgr
  go_enter L.f169, Body.n169_ntmps ρ
  go_wp2
  go_region_o
  all_goals (go_wp2; go_ret; exact ⟨rfl, g, rfl, HG.out⟩)
end Go.Proofs
