/-
  THE LAYER: what the walks of the functions go by.
-/
import Derived.Shelf.Strconv.AtoiAll
import Derived.Shelf.LaysC
import Derived.Test.YtinlgpgdinnefaaDoorProg
import Derived.Test.YtinlgpgdinnefaaDoorKZ
import Derived.Lib.AppendIntMem
import Derived.WalkKit
import Derived.BigCall
import Derived.Laws.ResultCell
set_option linter.unusedSimpArgs false
set_option linter.unusedVariables false

namespace Go.Proofs
open Go.Shelf
def Tryd.laysC172_ren : Go.Shelf.Ren := ⟨fun | 172 => 99 | 244 => 117 | 245 => 118 | 247 => 128 | 279 => 129 | 280 => 130 | 281 => 131 | 282 => 132 | 287 => 139 | 316 => 140 | 171 => 49 | 205 => 141 | 321 => 145 | 322 => 146 | 243 => 88 | 246 => 110 | 283 => 122 | 284 => 123 | 285 => 124 | 286 => 125 | 129 => 135 | 317 => 134 | 318 => 136 | 319 => 137 | 320 => 138 | 337 => 143 | 338 => 144 | n => n, fun | 9 => 9 | 3 => 3 | 75 => 96 | 76 => 97 | 4 => 4 | 5 => 5 | 167 => 170 | 37 => 92 | 0 => 0 | 85 => 171 | 2 => 2 | 168 => 173 | 53 => 163 | 175 => 184 | 46 => 176 | 210 => 187 | 127 => 135 | 145 => 193 | 143 => 191 | 21 => 21 | 171 => 162 | 173 => 166 | 212 => 179 | 51 => 180 | 20 => 20 | 213 => 181 | 232 => 194 | 233 => 195 | 80 => 100 | n => n, fun | 15 => 2 | 16 => 3 | 17 => 1 | 18 => 4 | 19 => 5 | n => n⟩
theorem Tryd.laysC172 : Go.Proofs.LaysC.n172 Tryd.prog Tryd.laysC172_ren := {
  mixed := by kernel_rfl
  f129 := Tryd.func135.trans (congrArg some (by kernel_rfl))
  f171 := Tryd.func49.trans (congrArg some (by kernel_rfl))
  f172 := Tryd.func99.trans (congrArg some (by kernel_rfl))
  f205 := Tryd.func141.trans (congrArg some (by kernel_rfl))
  f243 := Tryd.func88.trans (congrArg some (by kernel_rfl))
  f244 := Tryd.func117.trans (congrArg some (by kernel_rfl))
  f245 := Tryd.func118.trans (congrArg some (by kernel_rfl))
  f246 := Tryd.func110.trans (congrArg some (by kernel_rfl))
  f247 := Tryd.func128.trans (congrArg some (by kernel_rfl))
  f279 := Tryd.func129.trans (congrArg some (by kernel_rfl))
  f280 := Tryd.func130.trans (congrArg some (by kernel_rfl))
  f281 := Tryd.func131.trans (congrArg some (by kernel_rfl))
  f282 := Tryd.func132.trans (congrArg some (by kernel_rfl))
  f283 := Tryd.func122.trans (congrArg some (by kernel_rfl))
  f284 := Tryd.func123.trans (congrArg some (by kernel_rfl))
  f285 := Tryd.func124.trans (congrArg some (by kernel_rfl))
  f286 := Tryd.func125.trans (congrArg some (by kernel_rfl))
  f287 := Tryd.func139.trans (congrArg some (by kernel_rfl))
  f316 := Tryd.func140.trans (congrArg some (by kernel_rfl))
  f317 := Tryd.func134.trans (congrArg some (by kernel_rfl))
  f318 := Tryd.func136.trans (congrArg some (by kernel_rfl))
  f319 := Tryd.func137.trans (congrArg some (by kernel_rfl))
  f320 := Tryd.func138.trans (congrArg some (by kernel_rfl))
  f321 := Tryd.func145.trans (congrArg some (by kernel_rfl))
  f322 := Tryd.func146.trans (congrArg some (by kernel_rfl))
  f337 := Tryd.func143.trans (congrArg some (by kernel_rfl))
  f338 := Tryd.func144.trans (congrArg some (by kernel_rfl))
  t0 := Tryd.underlying0
  a0 := Tryd.isAgg0
  z0 := Tryd.sizeOf0
  v0 := Tryd.zeroValue0
  t2 := Tryd.underlying2
  a2 := Tryd.isAgg2
  z2 := Tryd.sizeOf2
  v2 := Tryd.zeroValue2
  t3 := Tryd.underlying3
  a3 := Tryd.isAgg3
  z3 := Tryd.sizeOf3
  v3 := Tryd.zeroValue3
  t4 := Tryd.underlying4
  a4 := Tryd.isAgg4
  z4 := Tryd.sizeOf4
  v4 := Tryd.zeroValue4
  t5 := Tryd.underlying5
  a5 := Tryd.isAgg5
  z5 := Tryd.sizeOf5
  v5 := Tryd.zeroValue5
  t9 := Tryd.underlying9
  a9 := Tryd.isAgg9
  z9 := Tryd.sizeOf9
  v9 := Tryd.zeroValue9
  t20 := Tryd.underlying20
  a20 := Tryd.isAgg20
  z20 := Tryd.sizeOf20
  v20 := Tryd.zeroValue20
  t21 := Tryd.underlying21
  a21 := Tryd.isAgg21
  z21 := Tryd.sizeOf21
  v21 := Tryd.zeroValue21
  t37 := Tryd.underlying92
  a37 := Tryd.isAgg92
  z37 := Tryd.sizeOf92
  v37 := Tryd.zeroValue92
  t46 := Tryd.underlying176
  a46 := Tryd.isAgg176
  z46 := Tryd.sizeOf176
  v46 := Tryd.zeroValue176
  t51 := Tryd.underlying180
  a51 := Tryd.isAgg180
  z51 := Tryd.sizeOf180
  v51 := Tryd.zeroValue180
  t53 := Tryd.underlying163
  a53 := Tryd.isAgg163
  z53 := Tryd.sizeOf163
  v53 := Tryd.zeroValue163
  t75 := Tryd.underlying96
  a75 := Tryd.isAgg96
  z75 := Tryd.sizeOf96
  v75 := Tryd.zeroValue96
  t76 := Tryd.underlying97
  a76 := Tryd.isAgg97
  z76 := Tryd.sizeOf97
  v76 := Tryd.zeroValue97
  t85 := Tryd.underlying171
  a85 := Tryd.isAgg171
  z85 := Tryd.sizeOf171
  v85 := Tryd.zeroValue171
  t127 := Tryd.underlying135
  a127 := Tryd.isAgg135
  z127 := Tryd.sizeOf135
  v127 := Tryd.zeroValue135
  t143 := Tryd.underlying191
  a143 := Tryd.isAgg191
  z143 := Tryd.sizeOf191
  v143 := Tryd.zeroValue191
  t145 := Tryd.underlying193
  a145 := Tryd.isAgg193
  z145 := Tryd.sizeOf193
  v145 := Tryd.zeroValue193
  t167 := Tryd.underlying170
  a167 := Tryd.isAgg170
  z167 := Tryd.sizeOf170
  v167 := Tryd.zeroValue170
  t168 := Tryd.underlying173
  a168 := Tryd.isAgg173
  z168 := Tryd.sizeOf173
  v168 := Tryd.zeroValue173
  t171 := Tryd.underlying162
  a171 := Tryd.isAgg162
  z171 := Tryd.sizeOf162
  v171 := Tryd.zeroValue162
  t173 := Tryd.underlying166
  a173 := Tryd.isAgg166
  z173 := Tryd.sizeOf166
  v173 := Tryd.zeroValue166
  t175 := Tryd.underlying184
  a175 := Tryd.isAgg184
  z175 := Tryd.sizeOf184
  v175 := Tryd.zeroValue184
  t210 := Tryd.underlying187
  a210 := Tryd.isAgg187
  z210 := Tryd.sizeOf187
  v210 := Tryd.zeroValue187
  t212 := Tryd.underlying179
  a212 := Tryd.isAgg179
  z212 := Tryd.sizeOf179
  v212 := Tryd.zeroValue179
  t213 := Tryd.underlying181
  a213 := Tryd.isAgg181
  z213 := Tryd.sizeOf181
  t232 := Tryd.underlying194
  a232 := Tryd.isAgg194
  z232 := Tryd.sizeOf194
  v232 := Tryd.zeroValue194
  t233 := Tryd.underlying195
  a233 := Tryd.isAgg195
  z233 := Tryd.sizeOf195
  v233 := Tryd.zeroValue195
  g15 := by kernel_rfl
  g16 := by kernel_rfl
  g17 := by kernel_rfl
  g18 := by kernel_rfl
  g19 := by kernel_rfl
  t80 := Tryd.underlying100
  a80 := Tryd.isAgg100
  z80 := Tryd.sizeOf100
  v80 := Tryd.zeroValue100
  i0 := by kernel_rfl
  i2 := by kernel_rfl
  i3 := by kernel_rfl
  i4 := by kernel_rfl
  i5 := by kernel_rfl
  i9 := by kernel_rfl
  i20 := by kernel_rfl
  i21 := by kernel_rfl
  i37 := by kernel_rfl
  i46 := by kernel_rfl
  i51 := by kernel_rfl
  i53 := by kernel_rfl
  i75 := by kernel_rfl
  i76 := by kernel_rfl
  i80 := by kernel_rfl
  i85 := by kernel_rfl
  i127 := by kernel_rfl
  i143 := by kernel_rfl
  i145 := by kernel_rfl
  i167 := by kernel_rfl
  i168 := by kernel_rfl
  i171 := by kernel_rfl
  i173 := by kernel_rfl
  i175 := by kernel_rfl
  i210 := by kernel_rfl
  i212 := by kernel_rfl
  i232 := by kernel_rfl
  i233 := by kernel_rfl
  m15 := by kernel_rfl
  m16 := by kernel_rfl
  m17 := by kernel_rfl
  m18 := by kernel_rfl
  m19 := by kernel_rfl
  c0 := by kernel_rfl
  c2 := by kernel_rfl
  c3 := by kernel_rfl
  c4 := by kernel_rfl
  c5 := by kernel_rfl
  c9 := by kernel_rfl
  c20 := by kernel_rfl
  c21 := by kernel_rfl
  c37 := by kernel_rfl
  c46 := by kernel_rfl
  c51 := by kernel_rfl
  c53 := by kernel_rfl
  c75 := by kernel_rfl
  c76 := by kernel_rfl
  c80 := by kernel_rfl
  c85 := by kernel_rfl
  c127 := by kernel_rfl
  c143 := by kernel_rfl
  c145 := by kernel_rfl
  c167 := by kernel_rfl
  c168 := by kernel_rfl
  c171 := by kernel_rfl
  c173 := by kernel_rfl
  c175 := by kernel_rfl
  c210 := by kernel_rfl
  c212 := by kernel_rfl
  c213 := by kernel_rfl
  c232 := by kernel_rfl
  c233 := by kernel_rfl }
open Go.RowKit in
theorem Tryd.strconv_Atoi_ok (s : ByteArray) (hmax : s.size ≤ 9223372036854775806) (v : Int) (h : Lib.atoiAll s.data.toList = .ok v) (w : World) :
    Calls Tryd.prog 99 #[.string s] w fun e w' => e = .returned (.tuple #[.int .i64 v, .nilIface]) ∧ (w' = w ∨ ∃ t, w' = Lib.bytesWorld w 5 t) := Any.strconv_Atoi_ok Tryd.laysC172 s hmax v h w
open Go.RowKit in
theorem Tryd.strconv_Atoi_bad (s : ByteArray) (hlim : s.size ≤ 281474976710656) (h : Lib.atoiAll s.data.toList = Lib.atoiAll []) (ev : Value) (w : World) (hv : w.cell? ⟨2, 0, none⟩ = some ev) (hev : ev = .nilIface ∨ ∃ te pe, ev = .iface te pe) :
    Calls Tryd.prog 99 #[.string s] w fun e w' => ∃ N, e = .returned (.tuple #[.int .i64 (0), .iface 173 (.pointer (some ⟨N, 0, none⟩))]) ∧ w.heap.size ≤ N ∧ w'.heap[N]? = some (.cells #[.string ⟨#[65, 116, 111, 105]⟩, .string s, ev] 187 (0, 0)) ∧ Below w.heap.size w w' := Any.strconv_Atoi_syntax Tryd.laysC172 s hlim h ev w hv hev
open Go.RowKit in
theorem Tryd.strconv_Atoi_range (s : ByteArray) (hlim : s.size ≤ 281474976710656) (h : Lib.atoiAll s.data.toList = .range) (ev : Value) (w : World) (hv : w.cell? ⟨3, 0, none⟩ = some ev) (hev : ev = .nilIface ∨ ∃ te pe, ev = .iface te pe) :
    Calls Tryd.prog 99 #[.string s] w fun e w' => ∃ N, e = .returned (.tuple #[.int .i64 (Lib.atoiSat s.data.toList), .iface 173 (.pointer (some ⟨N, 0, none⟩))]) ∧ w.heap.size ≤ N ∧ w'.heap[N]? = some (.cells #[.string ⟨#[65, 116, 111, 105]⟩, .string s, ev] 187 (0, 0)) ∧ Below w.heap.size w w' := Any.strconv_Atoi_range Tryd.laysC172 s hlim h ev w hv hev
end Go.Proofs

namespace Go.Proofs
open Go.Shelf Go.RowKit

abbrev zVal : Obj := .cells #[.int .i64 0, .int .i64 0, .string { data := #[] }] 50 (0, 0)
theorem zVal_at {w W1 : World} (hb : Below (w.alloc zVal).heap.size (w.alloc zVal) W1) : W1.heap[w.heap.size]? = some zVal := by
  have e : (w.alloc zVal).heap = w.heap.push zVal := rfl
  rw [hb.block _ (by rw [e]; simp), e]
  simp
theorem zVal_cells {w W1 : World} (h : W1.heap[w.heap.size]? = some zVal) :
    W1.cell? ⟨w.heap.size, 0, none⟩ = some (.int .i64 0) ∧ W1.cell? ⟨w.heap.size, 1, none⟩ = some (.int .i64 0) ∧ W1.cell? ⟨w.heap.size, 2, none⟩ = some (.string { data := #[] }) ∧
    W1.frozen? ⟨w.heap.size, 0, none⟩ = false ∧ W1.frozen? ⟨w.heap.size, 1, none⟩ = false ∧ W1.frozen? ⟨w.heap.size, 2, none⟩ = false :=
  ⟨by rw [Lib.cell_of_heap h]; rfl, by rw [Lib.cell_of_heap h]; rfl, by rw [Lib.cell_of_heap h]; rfl, Lib.frozen_of_heap h 0, Lib.frozen_of_heap h 1, Lib.frozen_of_heap h 2⟩
theorem zVal_below {w W1 : World} (hb : Below (w.alloc zVal).heap.size (w.alloc zVal) W1) (a b c : Value) : Below w.heap.size w (((W1.setCell ⟨w.heap.size, 0, none⟩ a).setCell ⟨w.heap.size, 1, none⟩ b).setCell ⟨w.heap.size, 2, none⟩ c) := by
  have h0 : Below w.heap.size w (w.alloc zVal) := (Below.refl _ w).alloc (Nat.le_refl _) _
  have h1 : Below w.heap.size w W1 := h0.trans (hb.mono h0.size)
  exact ((h1.setCell (p := ⟨w.heap.size, 0, none⟩) (Nat.le_refl _) a).setCell (p := ⟨w.heap.size, 1, none⟩) (Nat.le_refl _) b).setCell (p := ⟨w.heap.size, 2, none⟩) (Nat.le_refl _) c
theorem cell_alloc_past' {w : World} {o : Obj} {x : Addr} {v : Value} (h : w.cell? x = some v) : (w.alloc o).cell? x = some v := by
  obtain ⟨b, o', f⟩ := x
  rw [World.cell?_alloc_lt w o _ (World.block_lt_of_cell? w _ h)]
  exact h
def itoaT (n : Int) : ByteArray := ⟨(Lib.itoa n).toArray⟩
theorem bytes_ne {a b : ByteArray} (h : a ≠ b) : ¬ (a.data.toList = b.data.toList) := fun e => h (by cases a; cases b; simp only at e; rw [Array.toList_inj.1 e])
set_option maxRecDepth 100000 in
theorem Tryd.parseInt_bad (s : ByteArray) (hl : s.size ≤ 24) (h : Lib.atoiAll s.data.toList = Lib.atoiAll []) (w : World) (tp : TypeId) (p : Value) (hv : w.cell? ⟨2, 0, none⟩ = some (.iface tp p)) :
    Calls Tryd.prog 65 #[.string s] w fun e w' => e = .returned (.tuple #[.agg #[.int .i64 0, .int .i64 0, .string { data := #[] }], .bool false]) ∧ Below w.heap.size w w' := by
  go_enter Tryd.func65, Tryd.ntmps65
  go_wp2_with (go_at_call 99; refine (Tryd.strconv_Atoi_bad s (by omega) h (.iface tp p) _ ?_ (.inr ⟨tp, p, rfl⟩)).mono ?_)
  · exact cell_alloc_past' hv
  rintro e W1 ⟨N, rfl, -, -, hb⟩
  obtain ⟨c0, c1, c2, f0, f1, f2⟩ := zVal_cells (zVal_at hb)
  have HB := Lib.hid hb
  clear hb
  go_wp2
  refine bodyPost_ret (v := .tuple #[.agg #[.int .i64 0, .int .i64 0, .string { data := #[] }], .bool false]) ?_ rfl ⟨rfl, zVal_below HB.out _ _ _⟩
  rw [results_cell_tmp rfl]
  go_simp
set_option maxRecDepth 100000 in
theorem Tryd.parseInt_range (s : ByteArray) (hl : s.size ≤ 24) (h : Lib.atoiAll s.data.toList = .range) (w : World) (tp : TypeId) (p : Value) (hv : w.cell? ⟨3, 0, none⟩ = some (.iface tp p)) :
    Calls Tryd.prog 65 #[.string s] w fun e w' => e = .returned (.tuple #[.agg #[.int .i64 0, .int .i64 0, .string { data := #[] }], .bool false]) ∧ Below w.heap.size w w' := by
  go_enter Tryd.func65, Tryd.ntmps65
  go_wp2_with (go_at_call 99; refine (Tryd.strconv_Atoi_range s (by omega) h (.iface tp p) _ ?_ (.inr ⟨tp, p, rfl⟩)).mono ?_)
  · exact cell_alloc_past' hv
  rintro e W1 ⟨N, rfl, -, -, hb⟩
  obtain ⟨c0, c1, c2, f0, f1, f2⟩ := zVal_cells (zVal_at hb)
  have HB := Lib.hid hb
  clear hb
  go_wp2
  refine bodyPost_ret (v := .tuple #[.agg #[.int .i64 0, .int .i64 0, .string { data := #[] }], .bool false]) ?_ rfl ⟨rfl, zVal_below HB.out _ _ _⟩
  rw [results_cell_tmp rfl]
  go_simp
theorem Tryd.Atoi_ok' (s : ByteArray) (hl : s.size ≤ 24) (n : Int) (h : Lib.atoiAll s.data.toList = .ok n) (w : World) :
    Calls Tryd.prog 99 #[.string s] w fun e w' => e = .returned (.tuple #[.int .i64 n, .nilIface]) ∧ Below w.heap.size w w' :=
  (Tryd.strconv_Atoi_ok s (by omega) n h w).mono fun e w' ⟨he, hw⟩ => ⟨he, hw.elim (fun e => e ▸ Below.refl _ _) fun ⟨t, e⟩ => e ▸ Lib.bytesWorld_below _ _ _⟩
theorem Tryd.Itoa' (n : Int) (h0 : -9223372036854775808 ≤ n) (h1 : n ≤ 9223372036854775807) (w : World) (hp : Lib.TabIs Tryd.prog w "internal/strconv.uint64pow10" .u64 Lib.pow10Tab) :
    Calls Tryd.prog 49 #[.int .i64 n] w fun e w' => e = .returned (.string (itoaT n)) ∧ Below w.heap.size w w' :=
  (Tryd.strconv_Itoa n h0 h1 w hp).mono fun e w' ⟨he, k, os, hk⟩ => ⟨he, hk ▸ Lib.below_grow _ w (Nat.le_refl _) k os⟩
theorem tab_kept {w w' : World} (hb : Below w.heap.size w w') (hp : Lib.TabIs Tryd.prog w "internal/strconv.uint64pow10" .u64 Lib.pow10Tab) : Lib.TabIs Tryd.prog w' "internal/strconv.uint64pow10" .u64 Lib.pow10Tab := by
  unfold Lib.TabIs World.var? at hp ⊢
  have hg : Tryd.prog.globalNamed "internal/strconv.uint64pow10" = some 1 := by kernel_rfl
  rw [hg] at hp ⊢
  simp only [Option.bind_some] at hp ⊢
  have hlt : 1 < w.heap.size := by
    rcases Nat.lt_or_ge 1 w.heap.size with h | h
    · exact h
    · rw [Array.getElem?_eq_none h] at hp; cases hp
  rw [hb.block 1 hlt]
  exact hp
set_option maxRecDepth 100000 in
theorem Tryd.parseInt_text (s : ByteArray) (hl : s.size ≤ 24) (n : Int) (h : Lib.atoiAll s.data.toList = .ok n) (ht : ¬ (itoaT n).toList = s.toList) (w : World) (hp : Lib.TabIs Tryd.prog w "internal/strconv.uint64pow10" .u64 Lib.pow10Tab) :
    Calls Tryd.prog 65 #[.string s] w fun e w' => e = .returned (.tuple #[.agg #[.int .i64 0, .int .i64 0, .string { data := #[] }], .bool false]) ∧ Below w.heap.size w w' := by
  have hn := Lib.atoiAll_bounds h
  have HP := Lib.hid hp
  clear hp
  go_enter Tryd.func65, Tryd.ntmps65
  go_wp2_with (go_at_call 99; refine (Tryd.Atoi_ok' s hl n h _).mono ?_; rintro e W1 ⟨rfl, hb⟩; refine Hid.out ?_)
  have h0 : Below w.heap.size w (w.alloc zVal) := (Below.refl _ w).alloc (Nat.le_refl _) _
  have hb1 : Below w.heap.size w W1 := h0.trans (hb.mono h0.size)
  have HT := Lib.hid (tab_kept hb1 HP.out)
  have HB := Lib.hid hb
  clear hb hb1 h0
  refine Lib.hid ?_
  go_wp2_with (go_at_call 49; refine (Tryd.Itoa' n hn.1 hn.2 _ HT.out).mono ?_; rintro e W2 ⟨rfl, hb⟩; refine Hid.out ?_)
  have HB2 := Lib.hid (HB.out.trans (hb.mono HB.out.size))
  clear HB hb HT
  obtain ⟨c0, c1, c2, f0, f1, f2⟩ := zVal_cells (zVal_at HB2.out)
  have HB := HB2
  refine Lib.hid ?_
  go_wp2
  refine bodyPost_ret (v := .tuple #[.agg #[.int .i64 0, .int .i64 0, .string { data := #[] }], .bool false]) ?_ rfl ⟨rfl, zVal_below HB.out _ _ _⟩
  rw [results_cell_tmp rfl]
  go_simp
set_option maxRecDepth 100000 in
theorem Tryd.parseInt_low (s : ByteArray) (hl : s.size ≤ 24) (n : Int) (h : Lib.atoiAll s.data.toList = .ok n) (ht : (itoaT n).toList = s.toList) (h1 : n < -1000000000000) (w : World) (hp : Lib.TabIs Tryd.prog w "internal/strconv.uint64pow10" .u64 Lib.pow10Tab) :
    Calls Tryd.prog 65 #[.string s] w fun e w' => e = .returned (.tuple #[.agg #[.int .i64 0, .int .i64 0, .string { data := #[] }], .bool false]) ∧ Below w.heap.size w w' := by
  have hn := Lib.atoiAll_bounds h
  have HP := Lib.hid hp
  clear hp
  go_enter Tryd.func65, Tryd.ntmps65
  go_wp2_with (go_at_call 99; refine (Tryd.Atoi_ok' s hl n h _).mono ?_; rintro e W1 ⟨rfl, hb⟩; refine Hid.out ?_)
  have h0 : Below w.heap.size w (w.alloc zVal) := (Below.refl _ w).alloc (Nat.le_refl _) _
  have hb1 : Below w.heap.size w W1 := h0.trans (hb.mono h0.size)
  have HT := Lib.hid (tab_kept hb1 HP.out)
  have HB := Lib.hid hb
  clear hb hb1 h0
  refine Lib.hid ?_
  go_wp2_with (go_at_call 49; refine (Tryd.Itoa' n hn.1 hn.2 _ HT.out).mono ?_; rintro e W2 ⟨rfl, hb⟩; refine Hid.out ?_)
  have HB2 := Lib.hid (HB.out.trans (hb.mono HB.out.size))
  clear HB hb HT
  obtain ⟨c0, c1, c2, f0, f1, f2⟩ := zVal_cells (zVal_at HB2.out)
  have HB := HB2
  refine Lib.hid ?_
  go_wp2
  refine bodyPost_ret (v := .tuple #[.agg #[.int .i64 0, .int .i64 0, .string { data := #[] }], .bool false]) ?_ rfl ⟨rfl, zVal_below HB.out _ _ _⟩
  rw [results_cell_tmp rfl]
  go_simp
set_option maxRecDepth 100000 in
theorem Tryd.parseInt_high (s : ByteArray) (hl : s.size ≤ 24) (n : Int) (h : Lib.atoiAll s.data.toList = .ok n) (ht : (itoaT n).toList = s.toList) (h1 : ¬ n < -1000000000000) (h2 : 1000000000000 < n) (w : World) (hp : Lib.TabIs Tryd.prog w "internal/strconv.uint64pow10" .u64 Lib.pow10Tab) :
    Calls Tryd.prog 65 #[.string s] w fun e w' => e = .returned (.tuple #[.agg #[.int .i64 0, .int .i64 0, .string { data := #[] }], .bool false]) ∧ Below w.heap.size w w' := by
  have hn := Lib.atoiAll_bounds h
  have HP := Lib.hid hp
  clear hp
  go_enter Tryd.func65, Tryd.ntmps65
  go_wp2_with (go_at_call 99; refine (Tryd.Atoi_ok' s hl n h _).mono ?_; rintro e W1 ⟨rfl, hb⟩; refine Hid.out ?_)
  have h0 : Below w.heap.size w (w.alloc zVal) := (Below.refl _ w).alloc (Nat.le_refl _) _
  have hb1 : Below w.heap.size w W1 := h0.trans (hb.mono h0.size)
  have HT := Lib.hid (tab_kept hb1 HP.out)
  have HB := Lib.hid hb
  clear hb hb1 h0
  refine Lib.hid ?_
  go_wp2_with (go_at_call 49; refine (Tryd.Itoa' n hn.1 hn.2 _ HT.out).mono ?_; rintro e W2 ⟨rfl, hb⟩; refine Hid.out ?_)
  have HB2 := Lib.hid (HB.out.trans (hb.mono HB.out.size))
  clear HB hb HT
  obtain ⟨c0, c1, c2, f0, f1, f2⟩ := zVal_cells (zVal_at HB2.out)
  have HB := HB2
  refine Lib.hid ?_
  go_wp2
  refine bodyPost_ret (v := .tuple #[.agg #[.int .i64 0, .int .i64 0, .string { data := #[] }], .bool false]) ?_ rfl ⟨rfl, zVal_below HB.out _ _ _⟩
  rw [results_cell_tmp rfl]
  go_simp
set_option maxRecDepth 100000 in
theorem Tryd.parseInt_good (s : ByteArray) (hl : s.size ≤ 24) (n : Int) (h : Lib.atoiAll s.data.toList = .ok n) (ht : (itoaT n).toList = s.toList) (h1 : ¬ n < -1000000000000) (h2 : ¬ 1000000000000 < n) (w : World) (hp : Lib.TabIs Tryd.prog w "internal/strconv.uint64pow10" .u64 Lib.pow10Tab) :
    Calls Tryd.prog 65 #[.string s] w fun e w' => e = .returned (.tuple #[.agg #[.int .i64 1, .int .i64 n, .string { data := #[] }], .bool true]) ∧ Below w.heap.size w w' := by
  have hn := Lib.atoiAll_bounds h
  have HP := Lib.hid hp
  clear hp
  go_enter Tryd.func65, Tryd.ntmps65
  go_wp2_with (go_at_call 99; refine (Tryd.Atoi_ok' s hl n h _).mono ?_; rintro e W1 ⟨rfl, hb⟩; refine Hid.out ?_)
  have h0 : Below w.heap.size w (w.alloc zVal) := (Below.refl _ w).alloc (Nat.le_refl _) _
  have hb1 : Below w.heap.size w W1 := h0.trans (hb.mono h0.size)
  have HT := Lib.hid (tab_kept hb1 HP.out)
  have HB := Lib.hid hb
  clear hb hb1 h0
  refine Lib.hid ?_
  go_wp2_with (go_at_call 49; refine (Tryd.Itoa' n hn.1 hn.2 _ HT.out).mono ?_; rintro e W2 ⟨rfl, hb⟩; refine Hid.out ?_)
  have HB2 := Lib.hid (HB.out.trans (hb.mono HB.out.size))
  clear HB hb HT
  obtain ⟨c0, c1, c2, f0, f1, f2⟩ := zVal_cells (zVal_at HB2.out)
  have HB := HB2
  refine Lib.hid ?_
  go_wp2
  refine bodyPost_ret (v := .tuple #[.agg #[.int .i64 1, .int .i64 n, .string { data := #[] }], .bool true]) ?_ rfl ⟨rfl, zVal_below HB.out _ _ _⟩
  rw [results_cell_tmp rfl]
  go_simp
end Go.Proofs
