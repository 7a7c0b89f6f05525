/-
  WHAT IS PROVED HERE, of this translation: swp_eq, swp_perm, swpR_perm, down_perm, insR_perm, insS_perm, upR_perm, dnR_perm, rotW_perm, symF_perm, blkW_perm, mrgW_perm, stW_perm, stableF_perm, bsW_mem, kid_of, freeFacts, pickO_free, AWP.drawY0, segt_leaf, segt_none, segt_cons, AWP.drawY, VCt.step, VCt.fork, VCt.none, VCt.some, VCt.intro, VCt.fin, VOpsX.step, .., und_uint, half_nat', bits_u64, bsW_t, bsW_f, bsW_e, symMergeA, symMergeB, thenQ_mono, AWP.meet, symMergeC, symMerge_satM, blkW_t, blkW_f, mrgW_t, mrgW_m, mrgW_f, stW_t, stW_f, stable_satM, sortStable_satM, changesWork_sat, target_sat, tgt_length, indexFuncChg_sat, idx_any, containsChg_sat, compact1_sat, compact2_sat.
  A theorem that ends in sat says what the function it names returns, whatever the state it is called in; the bounds on its arguments stand ahead of it.
-/
import Derived.Lib.AppendZerosOnto
import Derived.Test.YtjjnchbfjbjemaaGreatDoorN21f
set_option linter.unusedSimpArgs false
set_option linter.unusedVariables false

namespace Go.Bw
section
variable (c : Chg → Chg → Int)
def swp (ds : List Chg) (i j : Nat) : List Chg :=
  match ds[i]?, ds[j]? with
  | some x, some y => (ds.set i y).set j x
  | _, _ => ds
def swpR : Nat → List Chg → Nat → Nat → List Chg
  | 0, ds, _, _ => ds
  | n + 1, ds, a, b => swpR n (swp ds a b) (a + 1) (b + 1)
def lessAt (ds : List Chg) (i j : Nat) : Bool :=
  match ds[i]?, ds[j]? with
  | some x, some y => decide (c x y < 0)
  | _, _ => false
def down (a : Nat) : Nat → List Chg → List Chg
  | 0, ds => ds
  | j + 1, ds => if a < j + 1 ∧ lessAt c ds (j + 1) j = true then down a j (swp ds (j + 1) j) else ds
def insR (a : Nat) : Nat → Nat → List Chg → List Chg
  | 0, _, ds => ds
  | n + 1, i, ds => insR a n (i + 1) (down c a i ds)
def insS (a b : Nat) (ds : List Chg) : List Chg := insR c a (b - (a + 1)) (a + 1) ds
def bsW (p : Nat → Bool) (i j : Nat) : Nat :=
  if i < j then (if p ((i + j) / 2) then bsW p ((i + j) / 2 + 1) j else bsW p i ((i + j) / 2)) else i
termination_by j - i
def upR : Nat → Nat → List Chg → List Chg
  | 0, _, ds => ds
  | n + 1, k, ds => upR n (k + 1) (swp ds k (k + 1))
def dnR : Nat → Nat → List Chg → List Chg
  | 0, _, ds => ds
  | n + 1, k, ds => dnR n (k - 1) (swp ds k (k - 1))
def rotW (m i j : Nat) (ds : List Chg) : List Chg :=
  if i = j then swpR i ds (m - i) m
  else if h : 0 < i ∧ 0 < j then (if j < i then rotW m (i - j) j (swpR j ds (m - i) m) else rotW m i (j - i) (swpR i ds (m - i) (m + j - i)))
  else ds
termination_by i + j
decreasing_by all_goals omega
def symF : Nat → List Chg → Nat → Nat → Nat → List Chg
  | 0, ds, _, _, _ => ds
  | n + 1, ds, a, m, b =>
    if m - a = 1 then upR (bsW (fun h => lessAt c ds h a) m b - 1 - a) a ds
    else if b - m = 1 then dnR (m - bsW (fun h => !lessAt c ds m h) a m) m ds
    else
      let mid := (a + b) / 2
      let s := bsW (fun x => !lessAt c ds (mid + m - 1 - x) x) (if mid < m then mid + m - b else a) (if mid < m then mid else m)
      let e := mid + m - s
      let d1 := if s < m ∧ m < e then rotW m (m - s) (e - m) ds else ds
      let d2 := if a < s ∧ s < mid then symF n d1 a s mid else d1
      if mid < e ∧ e < b then symF n d2 mid e b else d2
def blkW (N a : Nat) (ds : List Chg) : List Chg :=
  if a + 20 ≤ N then blkW N (a + 20) (insS c a (a + 20) ds) else insS c a N ds
termination_by N - a
def mrgW (N k a : Nat) (ds : List Chg) : List Chg :=
  if h : 0 < k ∧ a + 2 * k ≤ N then mrgW N k (a + 2 * k) (symF c N ds a (a + k) (a + 2 * k)) else if a + k < N then symF c N ds a (a + k) N else ds
termination_by N - a
decreasing_by omega
def stW (N k : Nat) (ds : List Chg) : List Chg :=
  if h : 0 < k ∧ k < N then stW N (2 * k) (mrgW c N k 0 ds) else ds
termination_by N - k
decreasing_by omega
def stableF (ds : List Chg) : List Chg := stW c ds.length 20 (blkW c ds.length 0 ds)

theorem swp_eq {ds : List Chg} {i j : Nat} (hi : i < ds.length) (hj : j < ds.length) : swp ds i j = (ds.set i ds[j]).set j ds[i] := by
  simp only [swp, List.getElem?_eq_getElem hi, List.getElem?_eq_getElem hj]
theorem swp_perm (ds : List Chg) (i j : Nat) : (swp ds i j).Perm ds := by
  unfold swp
  split
  · next x y h1 h2 =>
    obtain ⟨hi, rfl⟩ := List.getElem?_eq_some_iff.1 h1
    obtain ⟨hj, rfl⟩ := List.getElem?_eq_some_iff.1 h2
    exact List.set_set_perm hi hj
  · exact .refl _
theorem swpR_perm : ∀ (n : Nat) (ds : List Chg) (a b : Nat), (swpR n ds a b).Perm ds
  | 0, _, _, _ => .refl _
  | n + 1, ds, a, b => (swpR_perm n _ _ _).trans (swp_perm ds a b)
theorem down_perm (a : Nat) : ∀ (j : Nat) (ds : List Chg), (down c a j ds).Perm ds
  | 0, _ => .refl _
  | j + 1, ds => by
    rw [down]
    split
    · exact (down_perm a j _).trans (swp_perm ds _ _)
    · exact .refl _
theorem insR_perm (a : Nat) : ∀ (n i : Nat) (ds : List Chg), (insR c a n i ds).Perm ds
  | 0, _, _ => .refl _
  | n + 1, i, ds => (insR_perm a n _ _).trans (down_perm c a i ds)
theorem insS_perm (a b : Nat) (ds : List Chg) : (insS c a b ds).Perm ds := insR_perm c a _ _ ds
theorem upR_perm : ∀ (n k : Nat) (ds : List Chg), (upR n k ds).Perm ds
  | 0, _, _ => .refl _
  | n + 1, k, ds => (upR_perm n _ _).trans (swp_perm ds _ _)
theorem dnR_perm : ∀ (n k : Nat) (ds : List Chg), (dnR n k ds).Perm ds
  | 0, _, _ => .refl _
  | n + 1, k, ds => (dnR_perm n _ _).trans (swp_perm ds _ _)
theorem rotW_perm (m i j : Nat) (ds : List Chg) : (rotW m i j ds).Perm ds := by
  fun_induction rotW m i j ds with
  | case1 => exact swpR_perm _ _ _ _
  | case2 i j ds h1 h2 h3 ih => exact ih.trans (swpR_perm _ _ _ _)
  | case3 i j ds h1 h2 h3 ih => exact ih.trans (swpR_perm _ _ _ _)
  | case4 => exact .refl _
theorem symF_perm : ∀ (n : Nat) (ds : List Chg) (a m b : Nat), (symF c n ds a m b).Perm ds
  | 0, _, _, _, _ => .refl _
  | n + 1, ds, a, m, b => by
    have ih := symF_perm n
    have ite_perm : ∀ {p : Prop} [Decidable p] {x y z : List Chg}, x.Perm z → y.Perm z → (if p then x else y).Perm z := fun hx hy => by split <;> assumption
    rw [symF]
    refine ite_perm (upR_perm _ _ _) (ite_perm (dnR_perm _ _ _) ?_)
    have h1 : ∀ (s e : Nat), (if s < m ∧ m < e then rotW m (m - s) (e - m) ds else ds).Perm ds := fun s e => ite_perm (rotW_perm _ _ _ _) (.refl _)
    exact ite_perm ((ih _ _ _ _).trans (ite_perm ((ih _ _ _ _).trans (h1 _ _)) (h1 _ _))) (ite_perm ((ih _ _ _ _).trans (h1 _ _)) (h1 _ _))
theorem blkW_perm (N a : Nat) (ds : List Chg) : (blkW c N a ds).Perm ds := by
  fun_induction blkW c N a ds with
  | case1 a ds h ih => exact ih.trans (insS_perm _ _ _ _)
  | case2 => exact insS_perm _ _ _ _
theorem mrgW_perm (N k a : Nat) (ds : List Chg) : (mrgW c N k a ds).Perm ds := by
  fun_induction mrgW c N k a ds with
  | case1 a ds h ih => exact ih.trans (symF_perm _ _ _ _ _ _)
  | case2 => exact symF_perm _ _ _ _ _ _
  | case3 => exact .refl _
theorem stW_perm (N k : Nat) (ds : List Chg) : (stW c N k ds).Perm ds := by
  fun_induction stW c N k ds with
  | case1 k ds h ih => exact ih.trans (mrgW_perm _ _ _ _ _)
  | case2 => exact .refl _
theorem stableF_perm (ds : List Chg) : (stableF c ds).Perm ds := (stW_perm _ _ _ _).trans (blkW_perm _ _ _ _)
theorem bsW_mem (p : Nat → Bool) (i j : Nat) (h : i ≤ j) : i ≤ bsW p i j ∧ bsW p i j ≤ j := by
  fun_induction bsW p i j with
  | case1 i j h1 h2 ih => have := ih (by omega); omega
  | case2 i j h1 h2 ih => have := ih (by omega); omega
  | case3 => omega
end
end Go.Bw

namespace Go.Bw
open Go.RowKit
variable {P : Program} {T : TypeId → Option TI} {w0 : World} {m0 : Mem} {F0 : Home} {s : St} {ω : Wh}

inductive CT where
  | leaf
  | fail
  | none
  | cons (p : Link) (kid rest : CT)
def VCt (P : Program) (T : TypeId → Option TI) (ops : Array Oper) : CT → St → (St → Prop) → Prop
  | .leaf, t, K => K t
  | .fail, _, _ => False
  | .none, _, _ => True
  | .cons p kid rest, t, K => VOps P T ops [p.op] t (fun t' => VHead P T ops p.free t' (fun t'' => Stable P T ops p.rest t'' ∧ VCt P T ops kid t'' K)) ∧ VCt P T ops rest t K
def kidsOf (ops : Array Oper) (ce : List Nat) (dep : Nat) (l1 : List Nat) (kid : Nat → CT) : List Nat → CT
  | [] => .none
  | k :: r => if l1.elem k || !unl ops ce dep l1 k then kidsOf ops ce dep l1 kid r else match ops[k]? with
    | some o => .cons ⟨o, quietNew ops ce dep l1 k, quietOld ops ce dep l1 k⟩ (kid k) (kidsOf ops ce dep l1 kid r)
    | none => .fail
def chainTree (ops : Array Oper) (ce : List Nat) (dep : Nat) : Nat → List Nat → CT
  | 0, l1 => if ce.all (fun j => l1.elem j) then .leaf else .fail
  | n + 1, l1 => if ce.all (fun j => l1.elem j) then .leaf else kidsOf ops ce dep l1 (fun k => chainTree ops ce dep n (l1 ++ [k])) ce
theorem kid_of {ops : Array Oper} {ce : List Nat} {dep : Nat} {l1 : List Nat} {kid : Nat → CT} {t : St} {K : St → Prop} {k : Nat} {o : Oper} (ho : ops[k]? = some o) (h1 : k ∉ l1) (h2 : unl ops ce dep l1 k = true) : ∀ (l : List Nat), k ∈ l → VCt P T ops (kidsOf ops ce dep l1 kid l) t K →
    VOps P T ops [o] t (fun t' => VHead P T ops (quietNew ops ce dep l1 k) t' (fun t'' => Stable P T ops (quietOld ops ce dep l1 k) t'' ∧ VCt P T ops (kid k) t'' K))
  | q :: r, hk, h => by
    unfold kidsOf at h
    by_cases hq : q = k
    · subst hq
      rw [if_neg (by simp [h1, h2])] at h
      rw [ho] at h
      exact h.1
    · have hk : k ∈ r := by
        rcases List.mem_cons.1 hk with e | e
        · exact absurd e.symm hq
        · exact e
      split at h
      · exact kid_of ho h1 h2 r hk h
      · split at h
        · exact kid_of ho h1 h2 r hk h.2
        · exact h.elim
def freeOk (ops : Array Oper) (ce : List Nat) : Bool :=
  (List.range ops.size).all fun i => (ce.elem i || ((ops[i]?).map plainOp).getD true) && ((ops[i]?).map noSelect).getD true &&
    (List.range ops.size).all fun j => (decide (j < i) || ce.elem j || match dstAt ops j with | none => true | some t => !(looksAt ops i).elem t)
structure FreeFacts (ops : Array Oper) (ce : List Nat) : Prop where
  plain : ∀ (i : Nat) (o : Oper), ops[i]? = some o → i ∉ ce → plainOp o = true
  sel : ∀ (i : Nat) (o : Oper), ops[i]? = some o → ∀ cs b, o.op ≠ .select cs b
  later : ∀ i j t, i < ops.size → j < ops.size → i ≤ j → j ∉ ce → dstAt ops j = some t → t ∉ looksAt ops i
theorem freeFacts {ops : Array Oper} {ce : List Nat} (h : freeOk ops ce = true) : FreeFacts ops ce := by
  unfold freeOk at h
  simp only [List.all_eq_true, List.mem_range, Bool.and_eq_true] at h
  refine ⟨fun i o ho hi => ?_, fun i o ho cs b hb => ?_, fun i j t hi hj hij hjc ht hl => ?_⟩
  · have hin : i < ops.size := (Array.getElem?_eq_some_iff.1 ho).1
    have h1 := (h i hin).1.1
    rw [ho] at h1
    simp only [Option.map_some, Option.getD_some, Bool.or_eq_true] at h1
    rcases h1 with h1 | h1
    · exact absurd (by simpa using h1) hi
    · exact h1
  · have hin : i < ops.size := (Array.getElem?_eq_some_iff.1 ho).1
    have h1 := (h i hin).1.2
    rw [ho] at h1
    simp only [Option.map_some, Option.getD_some, noSelect, hb] at h1
    cases h1
  · have h1 := (h i hi).2 j hj
    rw [ht] at h1
    simp only [Bool.or_eq_true, decide_eq_true_eq] at h1
    rcases h1 with (h1 | h1) | h1
    · omega
    · exact hjc (by simpa using h1)
    · have : (looksAt ops i).elem t = true := by simpa using hl
      rw [this] at h1
      cases h1

theorem pickO_free {ops : Array Oper} {ce : List Nat} {dep : Nat} (F : DrawFacts ops ops.size dep) (G : FreeFacts ops ce) (p : Nat → Bool) (hp : ∀ i, p i = true → ce.elem i = false) : (pickO ops p).Pairwise (laterOk ops) ∧ ∀ o ∈ pickO ops p, ∀ t ∈ o.looksAt ops, o.dst ≠ some t := by
  constructor
  · unfold pickO
    refine List.Pairwise.filterMap _ (fun i j hij o ho o' ho' => ?_) List.pairwise_lt_range
    split at ho
    case isFalse => cases ho
    split at ho'
    case isFalse => cases ho'
    rename_i hpi hpj
    have hjc : j ∉ ce := by simpa using hp j hpj
    have hi : i < ops.size := (Array.getElem?_eq_some_iff.1 ho).1
    have hj : j < ops.size := (Array.getElem?_eq_some_iff.1 ho').1
    refine ⟨fun t ht e => ?_, fun d hd e => ?_⟩
    · exact G.later i j t hi hj (by omega) hjc (by simp [dstAt, ho', e]) (by simpa [looksAt, ho] using ht)
    · exact F.apart i j hi hj (by omega) d (by simp [dstAt, ho, hd]) (by simp [dstAt, ho', e])
  · intro o ho t ht e
    obtain ⟨i, hpi, ho⟩ := mem_pickO.1 ho
    have hi : i < ops.size := (Array.getElem?_eq_some_iff.1 ho).1
    have hic : i ∉ ce := by simpa using hp i hpi
    exact G.later i i t hi hi (Nat.le_refl _) hic (by simp [dstAt, ho, e]) (by simpa [looksAt, ho] using ht)
theorem AWP.drawY0 (hT : TabOk P T) (hm : P.follows .mixedOrders = true) {Q : Exit → St → Prop} {id : Nat} {ops : Array Oper} (ce : List Nat) (dep : Nat) (hce : ∀ j ∈ ce, j < ops.size) (hchk : drawOk ops ops.size dep = true) (hch : freeOk ops ce = true)
    (h : VHead P T ops (quiet0 ops ce dep) s fun s' => VCt P T ops (chainTree ops ce dep ce.length []) s' (Q .normal)) : AWP P w0 m0 F0 (.region id ops true) Q s := by
  intro a w hc
  have F := drawFacts hchk
  have G := freeFacts hch
  obtain ⟨m, ω, hC⟩ := hc
  refine wp_region_any hm ?_
  have hg0 : ∀ i, (Array.replicate ops.size false).getD i false = false := fun i => by
    rw [Array.getD_eq_getD_getElem?, Array.getElem?_replicate]
    split <;> rfl
  let D : (Nat → Bool) → List Nat → Nat → Prop := fun S l1 d => ∃ i, i ∉ ce ∧ unl ops ce dep l1 i = true ∧ S i = false ∧ dstAt ops i = some d
  have hqa : ∀ (l1 : List Nat) (o : Oper) (i : Nat), i ∉ ce → ops[i]? = some o → unl ops ce dep l1 i = true → (∀ j ∈ l1, i ∉ clo ops dep j) → o ∈ quietAft ops ce dep l1 := by
    intro l1 o i hi ho hu hj
    refine mem_pickO.2 ⟨i, ?_, ho⟩
    have h1 : ce.elem i = false := by simpa using hi
    have h2 : (l1.any fun j => (clo ops dep j).elem i) = false := by
      rw [List.any_eq_false]
      intro j hj'
      simpa using hj j hj'
    rw [h1, h2, hu]
    rfl
  refine draw_headE hT F (K := Q .normal) (Q := PostQ P w0 m0 F0 Q)
    (C := fun S a w => ∃ l1 n t, (∀ j ∈ l1, S j = true) ∧ (∀ j ∈ ce, j ∉ l1 → S j = false) ∧ (∀ o ∈ quietAft ops ce dep l1, StabX P T ops t o) ∧ VCt P T ops (chainTree ops ce dep n l1) t (Q .normal) ∧ ∃ ag, Conc P w0 m0 F0 t ag w ∧ Agree (D S l1) a ag)
    (fun s a w h1 h2 => ⟨s, h1, h2⟩) (fun S i a w o ho hi hSi htl hcl hcl2 hC' K' Q' hK => ?_) (fun S a w hall htl hC' => ?_) ops.size _ a _ 0 (by omega) (by simp) ?_ ?_ ?_ ?_
  · obtain ⟨l1, n, t, e2, e3, hSt, hV, ag, ⟨m, ω, hA⟩, hag⟩ := hC'
    have hin : i < ops.size := (Array.getElem?_eq_some_iff.1 ho).1
    have hdone : ∀ j ∈ ce, S j = true → j ∈ l1 := by
      intro j hj hSj
      by_cases h : j ∈ l1
      · exact h
      · rw [e3 j hj h] at hSj; cases hSj
    have hlook : ∀ t ∈ o.looksAt ops, ¬ D S l1 t := by
      rintro t ht ⟨j, j1, _, j2, j3⟩
      have htl' : t ∈ looksAt ops i := by simpa [looksAt, ho] using ht
      have hjn : j < ops.size := by
        rcases Nat.lt_or_ge j ops.size with h | h
        · exact h
        · simp [dstAt, Array.getElem?_eq_none h] at j3
      rcases Nat.lt_or_ge j i with hlt | hge
      · have := hcl j ((F.reads i j t hin hjn (by omega) j3 htl').1 hlt)
        rw [j2] at this
        cases this
      · exact G.later i j t hin hjn hge j1 j3 htl'
    have hsel := G.sel i o ho
    have hex := eval_agree hag hsel hlook
    have hwa := wanted_agree hag hlook
    rw [hwa]
    by_cases hic : i ∈ ce
    · -- the chain
      have hk1 : i ∉ l1 := fun h => by rw [e2 i h] at hSi; cases hSi
      have hun : unl ops ce dep l1 i = true := unl_iff.2 fun j hj hjc => hdone j hj (hcl j hjc)
      have hnall : (ce.all fun j => l1.elem j) = false := by
        rw [List.all_eq_false]
        exact ⟨i, hic, by simpa using hk1⟩
      obtain ⟨n, rfl⟩ : ∃ n', n = n' + 1 := by
        cases n with
        | zero =>
          rw [chainTree, hnall] at hV
          exact hV.elim
        | succ n => exact ⟨n, rfl⟩
      rw [chainTree, hnall] at hV
      have hV := kid_of ho hk1 hun ce hic hV
      generalize i = k at *
      have hunew : ∀ i', i' ∉ ce → unl ops ce dep l1 i' = false → S i' = false := by
        intro i' _ hu
        cases hS : S i' with
        | false => rfl
        | true =>
          have : unl ops ce dep l1 i' = true := unl_iff.2 fun j hj hjc => hdone j hj (hcl2 i' hS j hjc)
          rw [hu] at this
          cases this
      have hDD : ∀ d, D S l1 d → D (fun j => if j = k then true else S j) (l1 ++ [k]) d := by
        rintro d ⟨j, j1, ju, j2, j3⟩
        have hjk : j ≠ k := fun e => j1 (e ▸ hic)
        exact ⟨j, j1, unl_iff.2 fun q hq hqc => List.mem_append_left _ (unl_iff.1 ju q hq hqc), by simpa [hjk] using j2, j3⟩
      have hnext : ∀ t' ar ag' w', VHead P T ops (quietNew ops ce dep l1 k) t' (fun t'' => Stable P T ops (quietOld ops ce dep l1 k) t'' ∧ VCt P T ops (chainTree ops ce dep n (l1 ++ [k])) t'' (Q .normal)) → Conc P w0 m0 F0 t' ag' w' → Agree (D S l1) ar ag' → K' ar w' := by
        rintro t' ar ag' w' h1 ⟨m2, ω2, h2⟩ h3
        obtain ⟨ps, hl, ⟨hst, hK2⟩, hs⟩ := VHead_chain _ _ h1
        obtain ⟨hidx, hself⟩ := pickO_free F G (fun i => !ce.elem i && !unl ops ce dep l1 i && unl ops ce dep (l1 ++ [k]) i) (fun i hi => by simp only [Bool.and_eq_true, Bool.not_eq_true'] at hi; exact hi.1.1)
        have hstab := steps_stable hl hidx hself hs
        have h3' : Agree (D (fun j => if j = k then true else S j) (l1 ++ [k])) ar ag' := ⟨h3.1, h3.2.1, fun d hd => h3.2.2 d fun h => hd (hDD d h)⟩
        obtain ⟨ag2, m', h4, h5⟩ := steps_ghost (D := D (fun j => if j = k then true else S j) (l1 ++ [k])) (a0 := ar) hT _ t' ps ag' m2 (fun o' ho' => by
          obtain ⟨i', hi', ho'⟩ := mem_pickO.1 ho'
          simp only [Bool.and_eq_true, Bool.not_eq_true', List.elem_eq_mem, decide_eq_false_iff_not] at hi'
          obtain ⟨⟨q1, q2⟩, q3⟩ := hi'
          have hik : i' ≠ k := fun e => q1 (e ▸ hic)
          exact ⟨G.plain i' o' ho' q1, fun d hd => ⟨i', q1, q3, by simpa [hik] using hunew i' q1 q2, by simp [dstAt, ho', hd]⟩⟩) hl hs h2 h3'
        refine hK _ _ ⟨l1 ++ [k], n, puts t' ps, fun j hj => ?_, fun j hj hjn => ?_, fun o' ho' => ?_, hK2, ag2, ⟨m', ω2, h4⟩, h5⟩
        · rcases List.mem_append.1 hj with h | h
          · simp only [e2 j h, ite_self]
          · have : j = k := by simpa using h
            simp [this]
        · have h1 : j ∉ l1 := fun h => hjn (List.mem_append_left _ h)
          have h2 : j ≠ k := fun h => hjn (by simp [h])
          simp only [h2, if_false]; exact e3 j hj h1
        · obtain ⟨i', hi', hoo⟩ := mem_pickO.1 ho'
          simp only [Bool.and_eq_true] at hi'
          obtain ⟨⟨q1, q2⟩, q3⟩ := hi'
          cases hu : unl ops ce dep l1 i' with
          | true => exact hst.x o' (mem_pickO.2 ⟨i', by simp only [q1, hu, q3, Bool.and_self], hoo⟩)
          | false => exact hstab o' (mem_pickO.2 ⟨i', by simp only [q1, hu, q2, Bool.not_false, Bool.and_self], hoo⟩)
      simp only [VOps] at hV
      split at hV
      · rename_i hg
        rw [if_pos (guardOf_sound hA hg)]
        exact .inl (wp_agree hex hag (VOp_sound hT hV hA _ _ fun s' a' w' h1 h2 ar har => hnext s' ar a' w' h1 h2 har))
      · rename_i hg
        rw [if_neg (by rw [guardOf_sound hA hg]; simp)]
        obtain ⟨h1, h2⟩ := pk_elim hV
        exact hnext _ _ (ag.put o.dst undef) w h2 ⟨m, ω, hA.putO h1 arep_undef⟩ (hag.put _ _)
      · cases hV
    · -- a quiet one
      have hun : unl ops ce dep l1 i = true := unl_iff.2 fun j hj hjc => hdone j hj (hcl j hjc)
      have hst := hSt o (hqa l1 o i hic ho hun fun j hj hij => by
        have := hcl2 j (e2 j hj) i hij
        rw [hSi] at this
        cases this)
      have hfin : ∀ v m', CI P w0 m0 F0 t (ag.put o.dst v) w m' ω → K' (a.put o.dst v) w := fun v m' h1 =>
        hK _ _ ⟨l1, n, t, fun j hj => by simp only [e2 j hj, ite_self], fun j hj hjn => by
          have : j ≠ i := fun e => hic (e ▸ hj)
          simp only [this, if_false]; exact e3 j hj hjn, hSt, hV, ag.put o.dst v, ⟨m', ω, h1⟩, hag.putOf _ _ fun e h1 h2 => by
            obtain ⟨j, j1, ju, j2, j3⟩ := h2
            by_cases hji : j = i
            · subst hji
              simpa [dstAt, ho] using j3
            · exact absurd ⟨j, j1, ju, by simpa [hji] using j2, j3⟩ h1⟩
      unfold StabX at hst
      split at hst
      · rename_i hg
        rw [if_pos (guardOf_sound hA hg)]
        obtain ⟨y, hy, hst⟩ := hst
        obtain ⟨x, hx, hG⟩ := VVal_sound hT hst hA
        have hx : sameA t o.dst x := hx ▸ hy
        obtain ⟨v, m', hrun, hC2, hv⟩ := hG.2 (G.plain i o ho hic)
        refine .inl ?_
        unfold Oper.wp
        rw [hex, hrun, Oper.upon_value]
        exact hfin v m' (hC2.same hx hv)
      · rename_i hg
        rw [if_neg (by rw [guardOf_sound hA hg]; simp)]
        exact hfin _ m (hA.same hst arep_undef)
      · cases hst
  · obtain ⟨l1, n, t, e2, e3, hSt, hV, ag, hA, hag⟩ := hC'
    have hin : ∀ j ∈ ce, j < ops.size → j ∈ l1 := by
      intro j hj hjs
      have h1 := hall j hjs
      by_cases h : j ∈ l1
      · exact h
      · rw [e3 j hj h] at h1; cases h1
    have hKt : Q .normal t := by
      have hall2 : (ce.all fun j => l1.elem j) = true ∨ ∃ j ∈ ce, j ∉ l1 ∧ ops[j]? = none := by
        cases hb : ce.all fun j => l1.elem j with
        | true => exact .inl rfl
        | false =>
          rw [List.all_eq_false] at hb
          obtain ⟨j, hj, hjn⟩ := hb
          refine .inr ⟨j, hj, by simpa using hjn, ?_⟩
          rcases Nat.lt_or_ge j ops.size with h | h
          · exact absurd (hin j hj h) (by simpa using hjn)
          · exact Array.getElem?_eq_none h
      rcases hall2 with hb | ⟨j, hj, hjn, hjo⟩
      · cases n with
        | zero => rw [chainTree, hb] at hV; exact hV
        | succ n => rw [chainTree, hb] at hV; exact hV
      · have : j < ops.size := hce j hj
        rw [Array.getElem?_eq_none_iff] at hjo
        omega
    have hD : ∀ d, ¬ D S l1 d := by
      rintro d ⟨j, j1, _, j2, j3⟩
      rcases Nat.lt_or_ge j ops.size with h | h
      · have := hall j h
        rw [j2] at this
        cases this
      · simp [dstAt, Array.getElem?_eq_none h] at j3
    have hea : ag = a := by
      obtain ⟨h1, h2, h3⟩ := hag
      cases ag
      cases a
      simp only at h1 h2 h3
      subst h1
      congr 1
      exact Array.ext_getElem? fun d => h3 d (hD d)
    subst hea
    refine ⟨t, ?_, hA⟩
    have hd : ops.toList.drop ops.size = [] := by apply List.drop_eq_nil_of_le; simp
    rw [hd]
    exact hKt
  · rw [List.filter_eq_nil_iff.2 (fun i _ => by rw [hg0]; simp)]
    rfl
  · intro i _ hb
    rw [hg0] at hb
    cases hb
  · intro i _
    exact hg0 i
  · obtain ⟨ps, hl, hK, hs⟩ := VHead_chain _ _ h
    obtain ⟨hidx, hself⟩ := pickO_free F G (fun i => !ce.elem i && unl ops ce dep [] i) (fun i hi => by simp only [Bool.and_eq_true, Bool.not_eq_true'] at hi; exact hi.1)
    have hstab := steps_stable hl hidx hself hs
    obtain ⟨ag, m', h2, h3⟩ := steps_ghost (D := D (fun i => (Array.replicate ops.size false).getD i false) []) (a0 := a) hT _ s ps a m (fun o ho => by
      obtain ⟨i, hi, ho⟩ := mem_pickO.1 ho
      simp only [Bool.and_eq_true, Bool.not_eq_true', List.elem_eq_mem, decide_eq_false_iff_not] at hi
      exact ⟨G.plain i o ho hi.1, fun d hd => ⟨i, hi.1, hi.2, hg0 i, by simp [dstAt, ho, hd]⟩⟩) hl hs hC.draw (Agree.refl _ _)
    refine ⟨[], ce.length, puts s ps, fun j hj => (by cases hj), fun j _ _ => hg0 j, fun o ho => hstab o ?_, hK, ag, ⟨m', ω, h2⟩, h3⟩
    obtain ⟨i, hi, ho⟩ := mem_pickO.1 ho
    simp only [Bool.and_eq_true] at hi
    exact mem_pickO.2 ⟨i, by simp only [hi.1, Bool.and_self], ho⟩

inductive PT where
  | leaf
  | none
  | cons (i : Nat) (free rest : List (Nat × Nat)) (kid rest' : PT)
def segt (l : List Oper) : PT → CT
  | .leaf => .leaf
  | .none => .none
  | .cons i f q kid r => match l[i]? with | some o => .cons ⟨o, segs l f, segs l q⟩ (segt l kid) (segt l r) | none => .fail
theorem segt_leaf (l : List Oper) : segt l .leaf = .leaf := rfl
theorem segt_none (l : List Oper) : segt l .none = .none := rfl
theorem segt_cons (l : List Oper) (i : Nat) (f q : List (Nat × Nat)) (kid r : PT) : segt l (.cons i f q kid r) = (match l[i]? with | some o => .cons ⟨o, segs l f, segs l q⟩ (segt l kid) (segt l r) | none => .fail) := rfl
theorem AWP.drawY (hT : TabOk P T) (hm : P.follows .mixedOrders = true) {Q : Exit → St → Prop} {id : Nat} {l : List Oper} (sq : List (Nat × Nat)) (pt : PT) (ce : List Nat) (dep : Nat) (hce : ∀ j ∈ ce, j < l.toArray.size) (hchk : drawOk l.toArray l.toArray.size dep = true) (hch : freeOk l.toArray ce = true)
    (h1 : quiet0 l.toArray ce dep = segs l sq) (h2 : chainTree l.toArray ce dep ce.length [] = segt l pt)
    (h : ∀ K2 : St → Prop, (∀ s', (∀ K : St → Prop, (∀ s', Q .normal s' → K s') → VCt P T l.toArray (segt l pt) s' K) → K2 s') → VHead P T l.toArray (segs l sq) s K2) : AWP P w0 m0 F0 (.region id l.toArray true) Q s :=
  AWP.drawY0 hT hm ce dep hce hchk hch (by rw [h1, h2]; exact h _ fun s' h => h _ fun _ h => h)
theorem VCt.step {ops : Array Oper} {lq ln : List Oper} {o : Oper} {kid : CT} {t : St} {K : St → Prop} (h : ∀ K2 : St → Prop, (∀ t', VHead P T ops ln t' (fun t'' => Stable P T ops lq t'' ∧ VCt P T ops kid t'' K) → K2 t') → VOps P T ops [o] t K2) : VCt P T ops (.cons ⟨o, ln, lq⟩ kid .none) t K :=
  ⟨h _ fun _ h => h, trivial⟩
theorem VCt.fork {ops : Array Oper} {lq ln : List Oper} {o : Oper} {kid : CT} {p : Link} {k2 r2 : CT} {t : St} {K : St → Prop} (h : ∀ K2 : St → Prop, (∀ t', VHead P T ops ln t' (fun t'' => Stable P T ops lq t'' ∧ VCt P T ops kid t'' K) → K2 t') → VOps P T ops [o] t K2) (h2 : VCt P T ops (.cons p k2 r2) t K) : VCt P T ops (.cons ⟨o, ln, lq⟩ kid (.cons p k2 r2)) t K :=
  ⟨h _ fun _ h => h, h2⟩
theorem VCt.none {ops : Array Oper} {lq : List Oper} {kid : CT} {t : St} {K : St → Prop} (h : Stable P T ops lq t ∧ VCt P T ops kid t K) : VHead P T ops [] t (fun t'' => Stable P T ops lq t'' ∧ VCt P T ops kid t'' K) := h
theorem VCt.some {ops : Array Oper} {lq ln : List Oper} {o : Oper} {kid : CT} {t : St} {K : St → Prop} (h : ∀ K2 : St → Prop, (∀ t', (Stable P T ops lq t' ∧ VCt P T ops kid t' K) → K2 t') → VHead P T ops (o :: ln) t K2) : VHead P T ops (o :: ln) t (fun t'' => Stable P T ops lq t'' ∧ VCt P T ops kid t'' K) :=
  h _ fun _ h => h
theorem VCt.intro {A : (St → Prop) → Prop} {ops : Array Oper} {kid : CT} {t : St} (h : ∀ K : St → Prop, A K → VCt P T ops kid t K) : ∀ K : St → Prop, A K → VCt P T ops kid t K := h
theorem VCt.fin {ops : Array Oper} {t : St} {K : St → Prop} (h : K t) : VCt P T ops .leaf t K := h
end Go.Bw

namespace Go.Bw
open Go.RowKit
section
variable {P : Program} {T : TypeId → Option TI} {w0 : World} {m0 : Mem} {F0 : Home} {s s' : St} {a : Act} {w : World} {m : Mem} {ω : Wh}

def SemOp (P : Program) (o : Oper) (s : St) (K : St → Prop) : Prop := ∀ (w0 : World) (m0 : Mem) (F0 : Home) (a : Act) (w : World) (m : Mem) (ω : Wh), CI P w0 m0 F0 s a w m ω → Follows P w0 m0 F0 o a w K
def VOpsX (P : Program) (T : TypeId → Option TI) (ops : Array Oper) : List Oper → St → (St → Prop) → Prop
  | [], s, K => K s
  | o :: l, s, K => (o.guard = none ∧ SemOp P o s fun s' => VOpsX P T ops l s' K) ∨ VOps P T ops [o] s fun s' => VOpsX P T ops l s' K
theorem VOpsX.step {ops : Array Oper} {o : Oper} {l : List Oper} {K : St → Prop} (h : ∀ K2 : St → Prop, (∀ s', VOpsX P T ops l s' K → K2 s') → VOps P T ops [o] s K2) : VOpsX P T ops (o :: l) s K := .inr (h _ fun _ h => h)
theorem VOpsX.fin {ops : Array Oper} {K : St → Prop} (h : K s) : VOpsX P T ops [] s K := h
theorem AWP.isRegion (id : Nat) {ops : Array Oper} {d : Bool} {Q : Exit → St → Prop} (h : AWP P w0 m0 F0 (.region id ops d) Q s) : AWP P w0 m0 F0 (.region id ops d) Q s := h
end
end Go.Bw

namespace Go.Bw
open Go.Proofs
attribute [local go_sem ↓] VOps_nil VOps_cons VOp_callJ VVal_callH VOps_guard GOn_tt GOn_ff GOn_tf GOn_ft GOn_not GOn_none HOn_none HOn_tt HOn_ff HOn_tf HOn_ft HOn_not VHead_nil VHead_cons VHead_guard VVal_move VVal_assign VVal_pickE pickK_true pickK_false VVal_not VVal_neg negK_int VVal_load loadK_fz loadK_ptr loadK_eptr VVal_fieldAddr VVal_field VVal_indexAddr idxK_sl idxK_ref VVal_index indexK_str VVal_extract VVal_binOp binK_one binK_agg VVal_build VVal_buildSlice VVal_makeFunc VVal_slice sliceK_str sliceK_sl sliceK_nil sliceK_ref VVal_slice3 VVal_nilCheck VVal_convert convKk_int convKk_str VVal_len VVal_max VVal_min VOp_assign assignK_int assignK_bool assignK_str assignK_clo assignK_sl assignK_nil assignK_ref assignK_agg assignK_fz assignK_ptr assignK_eptr assignK_any VOp_box VOp_alloc VOp_store storeK_ptr storeK_eptr VOp_buildSlice VOp_append appK_rr appK_rs appK_rn appK_ri appK_nr appK_ns appK_nn appK_ni appStd_eq VOp_copy copyK_ref VOp_clear clearK_ref VOp_cap VOp_eqNil VOp_move VOp_pick VOp_not VOp_neg VOp_load VOp_fieldAddr VOp_field VOp_indexAddr VOp_index VOp_extract VOp_binTmp VOp_binInt VOp_binStr VOp_binPtr VOp_build VOp_makeFunc VOp_slice VOp_nilCheck VOp_convert VOp_len VOp_max VOp_min mO_some mT_some pk_some pk_none look_cons del_cons
attribute [local go_sem] guardB gOf int_bne beq_true beq_false Bool.not_not gSlot pickK_true pickK_false negK_int loadK_fz loadK_ptr loadK_eptr idxK_sl idxK_ref indexK_str binK_one binK_agg sliceK_str sliceK_sl sliceK_nil sliceK_ref convKk_int convKk_str maxL minL assignK_int assignK_bool assignK_str assignK_clo assignK_sl assignK_nil assignK_ref assignK_agg assignK_fz assignK_ptr assignK_eptr assignK_any nilRow_eq takeRow_eq appended_eq storeK_ptr storeK_eptr store_mk appIn_eq appMk_eq marked_eq ovOut_nil ovOut_cons ovIn_nil ovIn_cons padRow_eq ysC capK_nil capK_ref ioSt_mk outB_nil outR_nil outB outR inB_nil inB_cons inR_nil inR_cons L.kl L.kl0 L.ids L.ids0 Option.getD_some evalO constA mO_some mT_some put_mk putO_some putO_none okD_some okD_none pk_some pk_none look_nil del_nil sput noBox_mk noRow_mk newBox_eq newRow0_eq St.killRow RowC.kill rowMap_mk rowOf ovAll ovAdd ovDel ovGet ovShift dstOf ysOf overlay_nil overlay_nil' overlay A.map V.map L.noPtr L.noPtr0 L.noRow L.noRow0 L.peek L.norm L.flat clos_int clos_bool clos_str clos_sl clos_nil clos_any clos_fz L.clos L.isFz L.kd moveL fieldOff eqCells eqCell eqOp oneOf boolOf intOfA tupOf vOf aggOf isPtrLike isSlice lenKind lenL nL elemTI loadV asV binL intBin intDivL shrL boolBin strBin strAdd ptrNil boundN partCells fillL placesOf setL chunks repL capsOf capL callOf argsOf frzV_int frzV_bool frzV_str frzV_sl frzV_nil frzV_fz frzV_any frzV_own frzV_clo frzV_ref frzV_eptr frzV_ptr frzRow_nil frzRow_ov frzRs_nil frzRs_cons frzCs_nil frzCs_cons frzO_some frzO_none frzN_int frzN_bool frzN_str frzN_sl frzN_nil frzN_any frzN_own List.map_cons List.map_nil List.cons_append List.nil_append List.append_nil List.length_cons List.length_nil List.length_map List.length_append List.headD_cons List.tail_cons List.getElem?_cons_zero List.getElem?_cons_succ List.drop_zero List.drop_succ_cons List.drop_nil List.take_succ_cons List.take_zero List.take_nil List.take_length List.filter_cons List.filter_nil List.elem_cons List.elem_nil List.all_cons List.all_nil Option.bind_some Option.map_some Option.some.injEq bne_self_eq_false beq_self_eq_true if_true if_false Bool.false_eq_true true_and and_true and_self Nat.zero_add Nat.add_zero Nat.zero_le Int.toNat_natCast Int.toNat_zero Option.isSome_some List.getElem?_toArray decide_true decide_false ge_iff_le gt_iff_lt Bool.not_true Bool.not_false Nat.le_refl Bool.and_true Bool.true_and Bool.and_false Bool.false_and eVal eRow eRow1 eRows eInt1 eInts eCol eCols eTbl eTbls eFK eFKs eCon eCons eSch eRel eInst eChg eChgs szOf getD_map_lt wrap_nat wrap_in List.take_of_length_le frz_eVal frz_eRow1 frz_eInt1 frz_eCol frz_eTbl frz_eFK frz_eCon frz_eRel frz_eChg noOwn_nil noOwn_cons noOwn_append L.isOwn noOwn_eVal noOwn_eRow1 noOwn_eInt1 noOwn_eCol noOwn_eTbl noOwn_eFK noOwn_eCon noOwn_eRel noOwn_eChg convK_2 convK_3 convK_5 convK_12 convK_21 convK_31 convK_115 convK_136 convK_144 convK_146 convK_155 TT_2 TT_3 TT_4 TT_5 TT_9 TT_12 TT_13 TT_21 TT_22 TT_23 TT_24 TT_25 TT_26 TT_27 TT_28 TT_29 TT_31 TT_36 TT_39 TT_40 TT_41 TT_42 TT_43 TT_52 TT_53 TT_54 TT_55 TT_57 TT_58 TT_59 TT_60 TT_71 TT_77 TT_78 TT_79 TT_90 TT_91 TT_93 TT_94 TT_99 TT_100 TT_115 TT_136 TT_144 TT_146 TT_155 boolTy_4 eqK_60 eqK_91 eqK_100
attribute [local congr] VOps.congr VHead.congr VOp.congr VVal.congr pk.congr assignK.congr appK.congr appStd.congr copyK.congr clearK.congr storeK.congr loadK.congr idxK.congr sliceK.congr indexK.congr binK.congr convKk.congr
def rowC (cs : List Chg) : Rows := [(1000, ⟨4, cs.map eChg, []⟩)]
theorem setL_all : ∀ (vs ls : List L), vs.length = ls.length → setL 0 vs ls = vs
  | [], [], _ => rfl
  | v :: vs, l :: ls, h => by rw [setL, setL_all vs ls (by simpa using h)]
  | [], _ :: _, h => by simp at h
  | _ :: _, [], h => by simp at h
theorem swap_row (ds : List Chg) (i j : Nat) (hi : i < ds.length) (hj : j < ds.length) :
    ((ds.map eChg).set i (eChg ds[j])).set j (setL 0 (eChg ds[i]) (((ds.map eChg).set i (eChg ds[j])).getD j [])) = (swp ds i j).map eChg := by
  rw [setL_all _ _ ?_, swp_eq hi hj, List.map_set, List.map_set]
  rw [List.getD_eq_getElem?_getD, ← List.map_set, List.getElem?_map, List.getElem?_eq_getElem (by simpa using hj)]
  rfl
set_option maxHeartbeats 8000000 in
theorem swapRange_satM (cs : List Chg) (q : L) (a b n : Nat) (ha : a + n ≤ cs.length) (hb : b + n ≤ cs.length) (hl : cs.length ≤ 140737488355328) :
    SatM Tryz.prog 113 [.one (.ref 1000 0 cs.length), oI a, oI b, oI n, .one q] [] (rowC cs) (.tup []) [] (rowC (swpR n cs a b)) := by
  unfold rowC
  refine satM_of_body tyOk [] [1000] Tryz.func113 rfl (by kernel_rfl) ⟨Nat.le_of_ble_eq_true rfl, Nat.le_of_ble_eq_true rfl⟩ fun w0 m0 F0 => ?_
  simp only [Tryz.ntmps113, envOf, Nat.reduceAdd]
  repeat' (first | ((first | with_reducible refine qV tyOk fun K hK => ?_ | (with_reducible first | refine qG ?_ | refine qH ?_ | refine qP ?_ | refine qGx ?_ | refine qHx ?_ | refine qPx ?_) | ((with_reducible first | refine qS ?_ ?_ | refine qT ?_ ?_ | refine qU ?_ ?_) <;> (intro h; try simp only [NM] at h))) <;> simp -dsimp (disch := (first | omega | (simp only [LN]; omega))) only [go_sem, ↓reduceIte, seval]) | ((with_reducible refine hK _ ?_); clear hK K) | (with_reducible first | refine qA ?_ | refine qB ?_ | refine qC ?_ | refine qD ?_ | refine qE ?_ | refine qF ?_ | refine qL ?_ | refine qM ?_ | refine qN ?_ | refine qO ?_ | refine qQ ?_) | refine qR rfl ?_ | (with_reducible refine AI ?_) | ((with_reducible refine qW (T := TT) (b := ?_) ?_ ?_); rotate_left; exact rfl) | (with_reducible first | refine qX ?_ | refine qY ?_ | refine qZ ?_) | (with_reducible first | refine qI ?_ | refine qIx ?_ | fail) | ((with_reducible refine yS ?_ ?_) <;> (intro h; try simp only [NM] at h)))
  refine AWP.loop (ι := {p : Nat × List Chg // p.1 ≤ n ∧ p.2.length = cs.length ∧ swpR (n - p.1) p.2 (a + p.1) (b + p.1) = swpR n cs a b}) (fun p => ⟨38, [(0, .v (.one (.ref 1000 0 cs.length))), (1, .v (oI a)), (2, .v (oI b)), (3, .v (oI n)), (10, .v (oI p.1.1))], [], [(1000, ⟨4, p.1.2.map eChg, []⟩)]⟩) (fun p => n - p.1.1) ⟨(0, cs), Nat.zero_le _, rfl, rfl⟩ ?_ fun ⟨(k, ds), hk, hd, hp⟩ => ?_
  · refine St.le_mk ?_ ?_ ?_ <;> simp only [LE, EN, Nat.reduceEqDiff, reduceIte, Nat.reduceSub, Int.natCast_zero]
  simp only at hk hd hp ⊢
  rcases Nat.lt_or_ge k n with hc | hc
  · repeat' (first | ((first | ((fail_if_success (refine AWP.isRegion 3 ?_)); (with_reducible refine qV tyOk fun K hK => ?_)) | (with_reducible first | refine qG ?_ | refine qH ?_ | refine qP ?_ | refine qGx ?_ | refine qHx ?_ | refine qPx ?_) | ((with_reducible first | refine qS ?_ ?_ | refine qT ?_ ?_ | refine qU ?_ ?_) <;> (intro h; try simp only [NM] at h))) <;> simp -dsimp (disch := (first | omega | (simp only [LN]; omega))) only [go_sem, ↓reduceIte, seval]) | ((with_reducible refine hK _ ?_); clear hK K) | (with_reducible first | refine qA ?_ | refine qB ?_ | refine qC ?_ | refine qD ?_ | refine qE ?_ | refine qF ?_ | refine qL ?_ | refine qM ?_ | refine qN ?_ | refine qO ?_ | refine qQ ?_) | refine qR rfl ?_ | (with_reducible refine AI ?_) | ((with_reducible refine qW (T := TT) (b := ?_) ?_ ?_); rotate_left; exact rfl) | (with_reducible first | refine qX ?_ | refine qY ?_ | refine qZ ?_) | (with_reducible first | refine qI ?_ | refine qIx ?_ | fail) | ((with_reducible refine yS ?_ ?_) <;> (intro h; try simp only [NM] at h)))
    refine AWP.drawX tyOk mixed [(0, 21)] [(21, [(22, 1)], [(4, 4)]), (23, [], [])] [21, 23] 8 (by decide) (by kernel_rfl) (by kernel_rfl) (by kernel_rfl) (by kernel_rfl) fun K hK => ?_
    simp only [segx_nil, segx_cons, segs, List.drop_succ_cons, List.drop_zero, List.take_succ_cons, List.take_zero, List.getElem?_cons_zero, List.getElem?_cons_succ, List.cons_append, List.nil_append, List.append_nil] at hK ⊢
    simp -dsimp (disch := (first | omega | (simp only [LN]; omega))) only [go_sem, ↓reduceIte, seval, hd, Option.getD_none]
    repeat' (first | ((first | with_reducible refine qV tyOk fun K hK => ?_ | (with_reducible first | refine qG ?_ | refine qH ?_ | refine qP ?_ | refine qGx ?_ | refine qHx ?_ | refine qPx ?_) | ((with_reducible first | refine qS ?_ ?_ | refine qT ?_ ?_ | refine qU ?_ ?_) <;> (intro h; try simp only [NM] at h))) <;> simp -dsimp (disch := (first | omega | (simp only [LN]; omega))) only [go_sem, ↓reduceIte, seval, hd, Option.getD_none]) | ((with_reducible refine hK _ ?_); clear hK K) | (with_reducible first | refine qA ?_ | refine qB ?_ | refine qC ?_ | refine qD ?_ | refine qE ?_ | refine qF ?_ | refine qL ?_ | refine qM ?_ | refine qN ?_ | refine qO ?_ | refine qQ ?_) | refine qR rfl ?_ | ((with_reducible refine VCy.intro fun K0 hK0 => ?_)) | ((with_reducible refine VCy.fin ?_); (refine hK0 _ ?_); clear hK0 K0) | (with_reducible first | refine VCy.quiet ?_ | refine VCy.none ?_) | ((with_reducible first | refine VCy.some fun K hK => ?_ | refine VCy.step fun K hK => ?_); simp -dsimp (disch := (first | omega | (simp only [LN]; omega))) only [go_sem, ↓reduceIte, seval, hd, Option.getD_none]) | ((with_reducible refine VCy.keep ?_ ?_); focus ((simp -dsimp (disch := (first | omega | (simp only [LN]; omega))) only [go_sem, ↓reduceIte, seval, Stable_cons, Stable_nil, sameA_some, sameA_none, hd, Option.getD_none]); first | done | with_reducible assumption | omega | (repeat' with_reducible refine And.intro ?_ ?_) <;> first | with_reducible rfl | with_reducible assumption | omega)) | (with_reducible refine AI ?_) | ((with_reducible refine qW (T := TT) (b := ?_) ?_ ?_); rotate_left; exact rfl) | (with_reducible first | refine qX ?_ | refine qY ?_ | refine qZ ?_) | (with_reducible first | refine qI ?_ | refine qIx ?_ | fail) | ((with_reducible refine yS ?_ ?_) <;> (intro h; try simp only [NM] at h)))
    have e1 : ((a : Int) + (k : Int)).toNat = a + k := by omega
    have e2 : ((b : Int) + (k : Int)).toNat = b + k := by omega
    have h1 : a + k < ds.length := by omega
    have h2 : b + k < ds.length := by omega
    have e3 : n - k = (n - (k + 1)) + 1 := by omega
    rw [e3] at hp
    refine ⟨⟨(k + 1, swp ds (a + k) (b + k)), by simp only; omega, (swp_perm ds _ _).length_eq.trans hd, hp⟩, by simp only; omega, ?_⟩
    simp only [e1, e2]
    refine St.le_mk ?_ trivial ⟨congrArg (fun x : List (List L) => some (⟨4, x, []⟩ : RowC)) (swap_row ds (a + k) (b + k) h1 h2), trivial⟩
    simp only [allIn_cons, allIn_nil, look_cons, look_nil, reduceIte, Nat.reduceEqDiff]
    exact ⟨trivial, trivial, trivial, trivial, by simp, trivial⟩
  · have hk : k = n := by omega
    subst hk
    rw [Nat.sub_self] at hp
    have hp : ds = swpR k cs a b := hp
    subst hp
    repeat' (first | ((first | with_reducible refine qV tyOk fun K hK => ?_ | (with_reducible first | refine qG ?_ | refine qH ?_ | refine qP ?_ | refine qGx ?_ | refine qHx ?_ | refine qPx ?_) | ((with_reducible first | refine qS ?_ ?_ | refine qT ?_ ?_ | refine qU ?_ ?_) <;> (intro h; try simp only [NM] at h))) <;> simp -dsimp (disch := (first | omega | (simp only [LN]; omega))) only [go_sem, ↓reduceIte, seval]) | ((with_reducible refine hK _ ?_); clear hK K) | (with_reducible first | refine qA ?_ | refine qB ?_ | refine qC ?_ | refine qD ?_ | refine qE ?_ | refine qF ?_ | refine qL ?_ | refine qM ?_ | refine qN ?_ | refine qO ?_ | refine qQ ?_) | refine qR rfl ?_ | (with_reducible refine AI ?_) | ((with_reducible refine qW (T := TT) (b := ?_) ?_ ?_); rotate_left; exact rfl) | (with_reducible first | refine qX ?_ | refine qY ?_ | refine qZ ?_) | (with_reducible first | refine qI ?_ | refine qIx ?_ | fail) | ((with_reducible refine yS ?_ ?_) <;> (intro h; try simp only [NM] at h)))
    simp -dsimp (disch := (first | omega | (simp only [LN]; omega))) only [retQ, Tryz.results113, resVals, cellRV, resOf, St.rest, St.freeze, RT, go_sem, ↓reduceIte, seval]

def CmpC (P : Program) (f : FuncId) (q : L) (c : Chg → Chg → Int) (cs : List Chg) : Prop := ∀ x ∈ cs, ∀ y ∈ cs, Sat P f [.agg (eChg x), .agg (eChg y), .one q] (.v (oI (c x y)))
theorem CmpC.perm {P : Program} {f : FuncId} {q : L} {c : Chg → Chg → Int} {cs ds : List Chg} (h : CmpC P f q c cs) (hp : ds.Perm cs) : CmpC P f q c ds := fun x hx y hy => h x (hp.subset hx) y (hp.subset hy)
theorem lessAt_eq (c : Chg → Chg → Int) {ds : List Chg} {i j : Nat} (hi : i < ds.length) (hj : j < ds.length) : lessAt c ds i j = decide (c ds[i] ds[j] < 0) := by
  simp only [lessAt, List.getElem?_eq_getElem hi, List.getElem?_eq_getElem hj]
theorem down_step (c : Chg → Chg → Int) (a j : Nat) (ds : List Chg) (ha : a < j) (h : lessAt c ds j (j - 1) = true) : down c a j ds = down c a (j - 1) (swp ds j (j - 1)) := by
  obtain ⟨j, rfl⟩ : ∃ k, j = k + 1 := ⟨j - 1, by omega⟩
  rw [down, if_pos ⟨ha, h⟩]
  rfl
theorem down_stop (c : Chg → Chg → Int) (a j : Nat) (ds : List Chg) (h : j ≤ a ∨ lessAt c ds j (j - 1) = false) : down c a j ds = ds := by
  cases j with
  | zero => rfl
  | succ j =>
    rw [down, if_neg]
    rintro ⟨h1, h2⟩
    rcases h with h | h
    · omega
    · rw [Nat.add_sub_cancel, h2] at h; cases h
set_option maxHeartbeats 16000000 in
theorem insertionSort_satM (cs : List Chg) (f : FuncId) (q : L) (c : Chg → Chg → Int) (hc : CmpC Tryz.prog f q c cs) (a b : Nat) (hb : b ≤ cs.length) (ha : a ≤ cs.length) (hl : cs.length ≤ 140737488355328) :
    SatM Tryz.prog 98 [.one (.ref 1000 0 cs.length), oI a, oI b, .one (.clo f [q])] [] (rowC cs) (.tup []) [] (rowC (insS c a b cs)) := by
  unfold rowC
  refine satM_of_body tyOk [] [1000] Tryz.func98 rfl (by kernel_rfl) ⟨Nat.le_of_ble_eq_true rfl, Nat.le_of_ble_eq_true rfl⟩ fun w0 m0 F0 => ?_
  simp only [Tryz.ntmps98, envOf, Nat.reduceAdd]
  repeat' (first | ((first | with_reducible refine qV tyOk fun K hK => ?_ | (with_reducible first | refine qG ?_ | refine qH ?_ | refine qP ?_ | refine qGx ?_ | refine qHx ?_ | refine qPx ?_) | ((with_reducible first | refine qS ?_ ?_ | refine qT ?_ ?_ | refine qU ?_ ?_) <;> (intro h; try simp only [NM] at h))) <;> simp -dsimp (disch := (first | omega | (simp only [LN]; omega))) only [go_sem, ↓reduceIte, seval]) | ((with_reducible refine hK _ ?_); clear hK K) | (with_reducible first | refine qA ?_ | refine qB ?_ | refine qC ?_ | refine qD ?_ | refine qE ?_ | refine qF ?_ | refine qL ?_ | refine qM ?_ | refine qN ?_ | refine qO ?_ | refine qQ ?_) | refine qR rfl ?_ | (with_reducible refine AI ?_) | ((with_reducible refine qW (T := TT) (b := ?_) ?_ ?_); rotate_left; exact rfl) | (with_reducible first | refine qX ?_ | refine qY ?_ | refine qZ ?_) | (with_reducible first | refine qI ?_ | refine qIx ?_ | fail) | ((with_reducible refine yS ?_ ?_) <;> (intro h; try simp only [NM] at h)))
  refine AWP.loop (ι := {p : Nat × List Chg // a + 1 ≤ p.1 ∧ p.1 ≤ cs.length + 1 ∧ p.2.Perm cs ∧ insR c a (b - p.1) p.1 p.2 = insS c a b cs}) (fun p => ⟨53, [(0, .v (.one (.ref 1000 0 cs.length))), (1, .v (oI a)), (2, .v (oI b)), (3, .v (.one (.clo f [q]))), (8, .v (oI p.1.1))], [], [(1000, ⟨4, p.1.2.map eChg, []⟩)]⟩) (fun p => cs.length + 2 - p.1.1) ⟨(a + 1, cs), Nat.le_refl _, by omega, List.Perm.refl _, rfl⟩ ?_ fun ⟨(i, ds), hi1, hi2, hp, hI⟩ => ?_
  · refine St.le_mk ?_ ?_ ?_ <;> simp only [LE, EN, Nat.reduceEqDiff, reduceIte, Nat.reduceSub, Int.natCast_add]
  have hd : ds.length = cs.length := hp.length_eq
  simp only at hi1 hi2 hp hI ⊢
  rcases Nat.lt_or_ge i b with hc1 | hc1
  · have eI : b - i = (b - (i + 1)) + 1 := by omega
    rw [eI, insR] at hI
    repeat' (first | ((first | with_reducible refine qV tyOk fun K hK => ?_ | (with_reducible first | refine qG ?_ | refine qH ?_ | refine qP ?_ | refine qGx ?_ | refine qHx ?_ | refine qPx ?_) | ((with_reducible first | refine qS ?_ ?_ | refine qT ?_ ?_ | refine qU ?_ ?_) <;> (intro h; try simp only [NM] at h))) <;> simp -dsimp (disch := (first | omega | (simp only [LN]; omega))) only [go_sem, ↓reduceIte, seval]) | ((with_reducible refine hK _ ?_); clear hK K) | (with_reducible first | refine qA ?_ | refine qB ?_ | refine qC ?_ | refine qD ?_ | refine qE ?_ | refine qF ?_ | refine qL ?_ | refine qM ?_ | refine qN ?_ | refine qO ?_ | refine qQ ?_) | refine qR rfl ?_ | (with_reducible refine AI ?_) | ((with_reducible refine qW (T := TT) (b := ?_) ?_ ?_); rotate_left; exact rfl) | (with_reducible first | refine qX ?_ | refine qY ?_ | refine qZ ?_) | (with_reducible first | refine qI ?_ | refine qIx ?_ | fail) | ((with_reducible refine yS ?_ ?_) <;> (intro h; try simp only [NM] at h)))
    refine AWP.loop (ι := {p : Nat × List Chg // a ≤ p.1 ∧ p.1 ≤ i ∧ p.2.Perm cs ∧ down c a p.1 p.2 = down c a i ds}) (fun p => ⟨53, [(0, .v (.one (.ref 1000 0 cs.length))), (1, .v (oI a)), (2, .v (oI b)), (3, .v (.one (.clo f [q]))), (8, .v (oI i)), (9, .v (oI p.1.1))], [], [(1000, ⟨4, p.1.2.map eChg, []⟩)]⟩) (fun p => p.1.1) ⟨(i, ds), by omega, Nat.le_refl _, hp, rfl⟩ ?_ fun ⟨(j, es), hj1, hj2, hq, hJ⟩ => ?_
    · refine St.le_mk ?_ ?_ ?_ <;> simp only [LE, EN, Nat.reduceEqDiff, reduceIte, Nat.reduceSub, hd]
    have he : es.length = cs.length := hq.length_eq
    simp only at hj1 hj2 hq hJ ⊢
    rcases Nat.lt_or_ge a j with hc2 | hc2
    · have h1 : j < es.length := by omega
      have h2 : j - 1 < es.length := by omega
      have e1 : ((j : Int) - 1).toNat = j - 1 := by omega
      have ej : ((j - 1 : Nat) : Int) = (j : Int) - 1 := by omega
      have cc := hc es[j] (hq.subset (List.getElem_mem _)) es[j - 1] (hq.subset (List.getElem_mem _))
      have lj := lessAt_eq c h1 h2
      repeat' (first | ((first | ((fail_if_success (refine AWP.isRegion 4 ?_)); (with_reducible refine qV tyOk fun K hK => ?_)) | (with_reducible first | refine qG ?_ | refine qH ?_ | refine qP ?_ | refine qGx ?_ | refine qHx ?_ | refine qPx ?_) | ((with_reducible first | refine qS ?_ ?_ | refine qT ?_ ?_ | refine qU ?_ ?_) <;> (intro h; try simp only [NM] at h))) <;> simp -dsimp (disch := (first | omega | (simp only [LN]; omega))) only [go_sem, ↓reduceIte, seval]) | ((with_reducible refine hK _ ?_); clear hK K) | (with_reducible first | refine qA ?_ | refine qB ?_ | refine qC ?_ | refine qD ?_ | refine qE ?_ | refine qF ?_ | refine qL ?_ | refine qM ?_ | refine qN ?_ | refine qO ?_ | refine qQ ?_) | refine qR rfl ?_ | (with_reducible refine AI ?_) | ((with_reducible refine qW (T := TT) (b := ?_) ?_ ?_); rotate_left; exact rfl) | (with_reducible first | refine qX ?_ | refine qY ?_ | refine qZ ?_) | (with_reducible first | refine qI ?_ | refine qIx ?_ | fail) | ((with_reducible refine yS ?_ ?_) <;> (intro h; try simp only [NM] at h)))
      refine AWP.drawX tyOk mixed [(0, 14)] [(14, [(15, 2)], [])] [14] 8 (by decide) (by kernel_rfl) (by kernel_rfl) (by kernel_rfl) (by kernel_rfl) fun K hK => ?_
      simp only [segx_nil, segx_cons, segs, List.drop_succ_cons, List.drop_zero, List.take_succ_cons, List.take_zero, List.getElem?_cons_zero, List.getElem?_cons_succ, List.cons_append, List.nil_append, List.append_nil] at hK ⊢
      simp -dsimp (disch := (first | omega | (simp only [LN]; omega))) only [go_sem, ↓reduceIte, seval, he, e1, Option.getD_none]
      repeat' (first | ((first | ((fail_if_success (refine AWP.isRegion 6 ?_)); (with_reducible refine qV tyOk fun K hK => ?_)) | (with_reducible first | refine qG ?_ | refine qH ?_ | refine qP ?_ | refine qGx ?_ | refine qHx ?_ | refine qPx ?_) | ((with_reducible first | refine qS ?_ ?_ | refine qT ?_ ?_ | refine qU ?_ ?_) <;> (intro h; try simp only [NM] at h)) | ((with_reducible refine CallJ.is ?_); (first | refine CallJ.pure (cc) ?_ | ((apply CallJ.lentI); (focus (simp -dsimp (disch := (first | omega | (simp only [LN]; omega))) only [go_sem, ↓reduceIte, seval, he, e1, Option.getD_none]; rfl)); (focus (first | exact (cc)))))) | ((with_reducible refine CallH.is ?_); (first | refine CallH.intro (cc) ?_))) <;> simp -dsimp (disch := (first | omega | (simp only [LN]; omega))) only [go_sem, ↓reduceIte, seval, he, e1, Option.getD_none]) | ((with_reducible refine hK _ ?_); clear hK K) | (with_reducible first | refine qA ?_ | refine qB ?_ | refine qC ?_ | refine qD ?_ | refine qE ?_ | refine qF ?_ | refine qL ?_ | refine qM ?_ | refine qN ?_ | refine qO ?_ | refine qQ ?_) | refine qR rfl ?_ | ((with_reducible refine VCy.intro fun K0 hK0 => ?_)) | ((with_reducible refine VCy.fin ?_); (refine hK0 _ ?_); clear hK0 K0) | (with_reducible first | refine VCy.quiet ?_ | refine VCy.none ?_) | ((with_reducible first | refine VCy.some fun K hK => ?_ | refine VCy.step fun K hK => ?_); simp -dsimp (disch := (first | omega | (simp only [LN]; omega))) only [go_sem, ↓reduceIte, seval, he, e1, Option.getD_none]) | ((with_reducible refine VCy.keep ?_ ?_); focus ((simp -dsimp (disch := (first | omega | (simp only [LN]; omega))) only [go_sem, ↓reduceIte, seval, Stable_cons, Stable_nil, sameA_some, sameA_none, he, e1, Option.getD_none]); first | done | with_reducible assumption | omega | (repeat' with_reducible refine And.intro ?_ ?_) <;> first | with_reducible rfl | with_reducible assumption | omega)) | (with_reducible refine AI ?_) | ((with_reducible refine qW (T := TT) (b := ?_) ?_ ?_); rotate_left; exact rfl) | (with_reducible first | refine qX ?_ | refine qY ?_ | refine qZ ?_) | (with_reducible first | refine qI ?_ | refine qIx ?_ | fail) | ((with_reducible refine yS ?_ ?_) <;> (intro h; try simp only [NM] at h)))
      · refine AWP.drawX tyOk mixed [(0, 15)] [(15, [(16, 1)], [(2, 3)]), (17, [], [])] [15, 17] 8 (by decide) (by kernel_rfl) (by kernel_rfl) (by kernel_rfl) (by kernel_rfl) fun K hK => ?_
        simp only [segx_nil, segx_cons, segs, List.drop_succ_cons, List.drop_zero, List.take_succ_cons, List.take_zero, List.getElem?_cons_zero, List.getElem?_cons_succ, List.cons_append, List.nil_append, List.append_nil] at hK ⊢
        simp -dsimp (disch := (first | omega | (simp only [LN]; omega))) only [go_sem, ↓reduceIte, seval, he, e1, Option.getD_none]
        repeat' (first | ((first | with_reducible refine qV tyOk fun K hK => ?_ | (with_reducible first | refine qG ?_ | refine qH ?_ | refine qP ?_ | refine qGx ?_ | refine qHx ?_ | refine qPx ?_) | ((with_reducible first | refine qS ?_ ?_ | refine qT ?_ ?_ | refine qU ?_ ?_) <;> (intro h; try simp only [NM] at h))) <;> simp -dsimp (disch := (first | omega | (simp only [LN]; omega))) only [go_sem, ↓reduceIte, seval, he, e1, Option.getD_none]) | ((with_reducible refine hK _ ?_); clear hK K) | (with_reducible first | refine qA ?_ | refine qB ?_ | refine qC ?_ | refine qD ?_ | refine qE ?_ | refine qF ?_ | refine qL ?_ | refine qM ?_ | refine qN ?_ | refine qO ?_ | refine qQ ?_) | refine qR rfl ?_ | ((with_reducible refine VCy.intro fun K0 hK0 => ?_)) | ((with_reducible refine VCy.fin ?_); (refine hK0 _ ?_); clear hK0 K0) | (with_reducible first | refine VCy.quiet ?_ | refine VCy.none ?_) | ((with_reducible first | refine VCy.some fun K hK => ?_ | refine VCy.step fun K hK => ?_); simp -dsimp (disch := (first | omega | (simp only [LN]; omega))) only [go_sem, ↓reduceIte, seval, he, e1, Option.getD_none]) | ((with_reducible refine VCy.keep ?_ ?_); focus ((simp -dsimp (disch := (first | omega | (simp only [LN]; omega))) only [go_sem, ↓reduceIte, seval, Stable_cons, Stable_nil, sameA_some, sameA_none, he, e1, Option.getD_none]); first | done | with_reducible assumption | omega | (repeat' with_reducible refine And.intro ?_ ?_) <;> first | with_reducible rfl | with_reducible assumption | omega)) | (with_reducible refine AI ?_) | ((with_reducible refine qW (T := TT) (b := ?_) ?_ ?_); rotate_left; exact rfl) | (with_reducible first | refine qX ?_ | refine qY ?_ | refine qZ ?_) | (with_reducible first | refine qI ?_ | refine qIx ?_ | fail) | ((with_reducible refine yS ?_ ?_) <;> (intro h; try simp only [NM] at h)))
        have lt : lessAt c es j (j - 1) = true := by rw [lj]; exact decide_eq_true (by assumption)
        refine ⟨⟨(j - 1, swp es j (j - 1)), by simp only; omega, by simp only; omega, (swp_perm es _ _).trans hq, by rw [← hJ, down_step c a j es hc2 lt]⟩, by simp only; omega, ?_⟩
        refine St.le_mk ?_ trivial ⟨congrArg (fun x : List (List L) => some (⟨4, x, []⟩ : RowC)) (swap_row es j (j - 1) h1 h2), trivial⟩
        simp only [allIn_cons, allIn_nil, look_cons, look_nil, reduceIte, Nat.reduceEqDiff]
        exact ⟨trivial, trivial, trivial, trivial, trivial, by rw [ej], trivial⟩
      · have lf : lessAt c es j (j - 1) = false := by rw [lj]; exact decide_eq_false (by omega)
        rw [down_stop c a j es (.inr lf)] at hJ
        refine ⟨⟨(i + 1, es), by simp only; omega, by simp only; omega, hq, by rw [hJ, hI]⟩, by simp only; omega, ?_⟩
        refine St.le_mk ?_ ?_ ?_ <;> simp only [LE, EN, Nat.reduceEqDiff, reduceIte, Nat.reduceSub, he, Int.natCast_add]
    · rw [down_stop c a j es (.inl hc2)] at hJ
      repeat' (first | ((first | ((fail_if_success (refine AWP.isRegion 4 ?_)); (with_reducible refine qV tyOk fun K hK => ?_)) | (with_reducible first | refine qG ?_ | refine qH ?_ | refine qP ?_ | refine qGx ?_ | refine qHx ?_ | refine qPx ?_) | ((with_reducible first | refine qS ?_ ?_ | refine qT ?_ ?_ | refine qU ?_ ?_) <;> (intro h; try simp only [NM] at h))) <;> simp -dsimp (disch := (first | omega | (simp only [LN]; omega))) only [go_sem, ↓reduceIte, seval]) | ((with_reducible refine hK _ ?_); clear hK K) | (with_reducible first | refine qA ?_ | refine qB ?_ | refine qC ?_ | refine qD ?_ | refine qE ?_ | refine qF ?_ | refine qL ?_ | refine qM ?_ | refine qN ?_ | refine qO ?_ | refine qQ ?_) | refine qR rfl ?_ | (with_reducible refine AI ?_) | ((with_reducible refine qW (T := TT) (b := ?_) ?_ ?_); rotate_left; exact rfl) | (with_reducible first | refine qX ?_ | refine qY ?_ | refine qZ ?_) | (with_reducible first | refine qI ?_ | refine qIx ?_ | fail) | ((with_reducible refine yS ?_ ?_) <;> (intro h; try simp only [NM] at h)))
      refine AWP.drawX tyOk mixed [(0, 14)] [(14, [(15, 2)], [])] [14] 8 (by decide) (by kernel_rfl) (by kernel_rfl) (by kernel_rfl) (by kernel_rfl) fun K hK => ?_
      simp only [segx_nil, segx_cons, segs, List.drop_succ_cons, List.drop_zero, List.take_succ_cons, List.take_zero, List.getElem?_cons_zero, List.getElem?_cons_succ, List.cons_append, List.nil_append, List.append_nil] at hK ⊢
      simp -dsimp (disch := (first | omega | (simp only [LN]; omega))) only [go_sem, ↓reduceIte, seval, he, Option.getD_none]
      repeat' (first | ((first | with_reducible refine qV tyOk fun K hK => ?_ | (with_reducible first | refine qG ?_ | refine qH ?_ | refine qP ?_ | refine qGx ?_ | refine qHx ?_ | refine qPx ?_) | ((with_reducible first | refine qS ?_ ?_ | refine qT ?_ ?_ | refine qU ?_ ?_) <;> (intro h; try simp only [NM] at h))) <;> simp -dsimp (disch := (first | omega | (simp only [LN]; omega))) only [go_sem, ↓reduceIte, seval, he, Option.getD_none]) | ((with_reducible refine hK _ ?_); clear hK K) | (with_reducible first | refine qA ?_ | refine qB ?_ | refine qC ?_ | refine qD ?_ | refine qE ?_ | refine qF ?_ | refine qL ?_ | refine qM ?_ | refine qN ?_ | refine qO ?_ | refine qQ ?_) | refine qR rfl ?_ | ((with_reducible refine VCy.intro fun K0 hK0 => ?_)) | ((with_reducible refine VCy.fin ?_); (refine hK0 _ ?_); clear hK0 K0) | (with_reducible first | refine VCy.quiet ?_ | refine VCy.none ?_) | ((with_reducible first | refine VCy.some fun K hK => ?_ | refine VCy.step fun K hK => ?_); simp -dsimp (disch := (first | omega | (simp only [LN]; omega))) only [go_sem, ↓reduceIte, seval, he, Option.getD_none]) | ((with_reducible refine VCy.keep ?_ ?_); focus ((simp -dsimp (disch := (first | omega | (simp only [LN]; omega))) only [go_sem, ↓reduceIte, seval, Stable_cons, Stable_nil, sameA_some, sameA_none, he, Option.getD_none]); first | done | with_reducible assumption | omega | (repeat' with_reducible refine And.intro ?_ ?_) <;> first | with_reducible rfl | with_reducible assumption | omega)) | (with_reducible refine AI ?_) | ((with_reducible refine qW (T := TT) (b := ?_) ?_ ?_); rotate_left; exact rfl) | (with_reducible first | refine qX ?_ | refine qY ?_ | refine qZ ?_) | (with_reducible first | refine qI ?_ | refine qIx ?_ | fail) | ((with_reducible refine yS ?_ ?_) <;> (intro h; try simp only [NM] at h)))
      refine ⟨⟨(i + 1, es), by simp only; omega, by simp only; omega, hq, by rw [hJ, hI]⟩, by simp only; omega, ?_⟩
      refine St.le_mk ?_ ?_ ?_ <;> simp only [LE, EN, Nat.reduceEqDiff, reduceIte, Nat.reduceSub, he, Int.natCast_add]
  · have e0 : b - i = 0 := by omega
    rw [e0] at hI
    have hI : ds = insS c a b cs := hI
    repeat' (first | ((first | with_reducible refine qV tyOk fun K hK => ?_ | (with_reducible first | refine qG ?_ | refine qH ?_ | refine qP ?_ | refine qGx ?_ | refine qHx ?_ | refine qPx ?_) | ((with_reducible first | refine qS ?_ ?_ | refine qT ?_ ?_ | refine qU ?_ ?_) <;> (intro h; try simp only [NM] at h))) <;> simp -dsimp (disch := (first | omega | (simp only [LN]; omega))) only [go_sem, ↓reduceIte, seval]) | ((with_reducible refine hK _ ?_); clear hK K) | (with_reducible first | refine qA ?_ | refine qB ?_ | refine qC ?_ | refine qD ?_ | refine qE ?_ | refine qF ?_ | refine qL ?_ | refine qM ?_ | refine qN ?_ | refine qO ?_ | refine qQ ?_) | refine qR rfl ?_ | (with_reducible refine AI ?_) | ((with_reducible refine qW (T := TT) (b := ?_) ?_ ?_); rotate_left; exact rfl) | (with_reducible first | refine qX ?_ | refine qY ?_ | refine qZ ?_) | (with_reducible first | refine qI ?_ | refine qIx ?_ | fail) | ((with_reducible refine yS ?_ ?_) <;> (intro h; try simp only [NM] at h)))
    simp -dsimp (disch := (first | omega | (simp only [LN]; omega))) only [retQ, Tryz.results98, resVals, cellRV, resOf, St.rest, St.freeze, RT, go_sem, ↓reduceIte, seval]
    rw [hI]

theorem rotW_eq (m i : Nat) (ds : List Chg) : rotW m i i ds = swpR i ds (m - i) m := by rw [rotW, if_pos rfl]
theorem rotW_gt (m i j : Nat) (ds : List Chg) (h : j < i) (h0 : 0 < j) : rotW m i j ds = rotW m (i - j) j (swpR j ds (m - i) m) := by
  rw [rotW, if_neg (by omega), dif_pos ⟨by omega, h0⟩, if_pos h]
theorem rotW_lt (m i j : Nat) (ds : List Chg) (h : i < j) (h0 : 0 < i) : rotW m i j ds = rotW m i (j - i) (swpR i ds (m - i) (m + j - i)) := by
  rw [rotW, if_neg (by omega), dif_pos ⟨h0, by omega⟩, if_neg (by omega)]
theorem sub_oI {a b : Nat} (h : b ≤ a) : ((a - b : Nat) : Int) = (a : Int) - b := by omega
set_option maxHeartbeats 16000000 in
theorem rotate_satM (cs : List Chg) (f : FuncId) (z : List L) (a m b : Nat) (ha : a < m) (hm : m < b) (hb : b ≤ cs.length) (hl : cs.length ≤ 140737488355328) :
    SatM Tryz.prog 107 [.one (.ref 1000 0 cs.length), oI a, oI m, oI b, .one (.clo f [.fz z])] [] (rowC cs) (.tup []) [] (rowC (rotW m (m - a) (b - m) cs)) := by
  have sw := fun (ds : List Chg) (hd : ds.length = cs.length) (x y n : Nat) (h1 : x + n ≤ ds.length) (h2 : y + n ≤ ds.length) => swapRange_satM ds (.clo f [.fz z]) x y n h1 h2 (by omega)
  unfold rowC at sw ⊢
  refine satM_of_body tyOk [] [1000] Tryz.func107 rfl (by kernel_rfl) ⟨Nat.le_of_ble_eq_true rfl, Nat.le_of_ble_eq_true rfl⟩ fun w0 m0 F0 => ?_
  simp only [Tryz.ntmps107, envOf, Nat.reduceAdd]
  repeat' (first | ((first | with_reducible refine qV tyOk fun K hK => ?_ | (with_reducible first | refine qG ?_ | refine qH ?_ | refine qP ?_ | refine qGx ?_ | refine qHx ?_ | refine qPx ?_) | ((with_reducible first | refine qS ?_ ?_ | refine qT ?_ ?_ | refine qU ?_ ?_) <;> (intro h; try simp only [NM] at h))) <;> simp -dsimp (disch := (first | omega | (simp only [LN]; omega))) only [go_sem, ↓reduceIte, seval]) | ((with_reducible refine hK _ ?_); clear hK K) | (with_reducible first | refine qA ?_ | refine qB ?_ | refine qC ?_ | refine qD ?_ | refine qE ?_ | refine qF ?_ | refine qL ?_ | refine qM ?_ | refine qN ?_ | refine qO ?_ | refine qQ ?_) | refine qR rfl ?_ | (with_reducible refine AI ?_) | ((with_reducible refine qW (T := TT) (b := ?_) ?_ ?_); rotate_left; exact rfl) | (with_reducible first | refine qX ?_ | refine qY ?_ | refine qZ ?_) | (with_reducible first | refine qI ?_ | refine qIx ?_ | fail) | ((with_reducible refine yS ?_ ?_) <;> (intro h; try simp only [NM] at h)))
  refine AWP.loop (ι := {p : Nat × Nat × List Chg // 0 < p.1 ∧ 0 < p.2.1 ∧ p.1 ≤ m ∧ m + p.2.1 ≤ cs.length ∧ p.2.2.length = cs.length ∧ rotW m p.1 p.2.1 p.2.2 = rotW m (m - a) (b - m) cs}) (fun p => ⟨58, [(0, .v (.one (.ref 1000 0 cs.length))), (2, .v (oI m)), (4, .v (.one (.clo f [.fz z]))), (10, .v (oI p.1.1)), (11, .v (oI p.1.2.1))], [], [(1000, ⟨4, p.1.2.2.map eChg, []⟩)]⟩) (fun p => p.1.1 + p.1.2.1) ⟨(m - a, b - m, cs), by simp only; omega, by simp only; omega, by simp only; omega, by simp only; omega, rfl, rfl⟩ ?_ fun ⟨(i, j, ds), hi, hj, hi2, hj2, hd, hp⟩ => ?_
  · have e1 := sub_oI (a := m) (b := a) (by omega)
    have e2 := sub_oI (a := b) (b := m) (by omega)
    refine St.le_mk ?_ ?_ ?_ <;> simp only [LE, EN, Nat.reduceEqDiff, reduceIte, Nat.reduceSub, e1, e2]
  simp only at hi hj hi2 hj2 hd hp ⊢
  rcases Nat.lt_trichotomy i j with hc | rfl | hc
  · have s1 := sw ds hd (m - i) (m + j - i) i (by omega) (by omega)
    have e1 := sub_oI (a := m) (b := i) (by omega)
    have e2 : ((m + j - i : Nat) : Int) = (m : Int) + j - i := by omega
    have e3 := sub_oI (a := j) (b := i) (by omega)
    rw [e1, e2, hd] at s1
    repeat' (first | ((first | with_reducible refine qV tyOk fun K hK => ?_ | (with_reducible first | refine qG ?_ | refine qH ?_ | refine qP ?_ | refine qGx ?_ | refine qHx ?_ | refine qPx ?_) | ((with_reducible first | refine qS ?_ ?_ | refine qT ?_ ?_ | refine qU ?_ ?_) <;> (intro h; try simp only [NM] at h)) | ((with_reducible refine CallJ.is ?_); refine CallJ.io [] [(1000, 1000)] [] [(1000, 1000)] [] [] [] [1000, 1000] (s1) rfl ⟨rfl, rfl, rfl, rfl⟩ ?_ ?_ ?_; (focus (simp -dsimp (disch := (first | omega | (simp only [LN]; omega))) only [go_sem, ↓reduceIte, seval, dropL_nil, dropL_nil', dropL_cons]; done)); (focus (simp -dsimp (disch := (first | omega | (simp only [LN]; omega))) only [go_sem, ↓reduceIte, seval, dropL_nil, dropL_nil', dropL_cons]; done)))) <;> simp -dsimp (disch := (first | omega | (simp only [LN]; omega))) only [go_sem, ↓reduceIte, seval, dropL_nil, dropL_nil', dropL_cons]) | ((with_reducible refine hK _ ?_); clear hK K) | (with_reducible first | refine qA ?_ | refine qB ?_ | refine qC ?_ | refine qD ?_ | refine qE ?_ | refine qF ?_ | refine qL ?_ | refine qM ?_ | refine qN ?_ | refine qO ?_ | refine qQ ?_) | refine qR rfl ?_ | (with_reducible refine AI ?_) | ((with_reducible refine qW (T := TT) (b := ?_) ?_ ?_); rotate_left; exact rfl) | (with_reducible first | refine qX ?_ | refine qY ?_ | refine qZ ?_) | (with_reducible first | refine qI ?_ | refine qIx ?_ | fail) | ((with_reducible refine yS ?_ ?_) <;> (intro h; try simp only [NM] at h)))
    have hr := (swpR_perm i ds (m - i) (m + j - i)).length_eq
    refine ⟨⟨(i, j - i, swpR i ds (m - i) (m + j - i)), hi, by simp only; omega, hi2, by simp only; omega, hr.trans hd, by rw [← hp, rotW_lt m i j ds hc hi]⟩, by simp only; omega, ?_⟩
    refine St.le_mk ?_ ?_ ?_ <;> simp only [LE, EN, Nat.reduceEqDiff, reduceIte, Nat.reduceSub, e3]
  · have s1 := sw ds hd (m - i) m i (by omega) (by omega)
    have e1 := sub_oI (a := m) (b := i) (by omega)
    rw [e1, hd] at s1
    rw [rotW_eq] at hp
    rw [← hp]
    repeat' (first | ((first | with_reducible refine qV tyOk fun K hK => ?_ | (with_reducible first | refine qG ?_ | refine qH ?_ | refine qP ?_ | refine qGx ?_ | refine qHx ?_ | refine qPx ?_) | ((with_reducible first | refine qS ?_ ?_ | refine qT ?_ ?_ | refine qU ?_ ?_) <;> (intro h; try simp only [NM] at h)) | ((with_reducible refine CallJ.is ?_); refine CallJ.io [] [(1000, 1000)] [] [(1000, 1000)] [] [] [] [1000, 1000] (s1) rfl ⟨rfl, rfl, rfl, rfl⟩ ?_ ?_ ?_; (focus (simp -dsimp (disch := (first | omega | (simp only [LN]; omega))) only [go_sem, ↓reduceIte, seval, dropL_nil, dropL_nil', dropL_cons]; done)); (focus (simp -dsimp (disch := (first | omega | (simp only [LN]; omega))) only [go_sem, ↓reduceIte, seval, dropL_nil, dropL_nil', dropL_cons]; done)))) <;> simp -dsimp (disch := (first | omega | (simp only [LN]; omega))) only [go_sem, ↓reduceIte, seval, dropL_nil, dropL_nil', dropL_cons]) | ((with_reducible refine hK _ ?_); clear hK K) | (with_reducible first | refine qA ?_ | refine qB ?_ | refine qC ?_ | refine qD ?_ | refine qE ?_ | refine qF ?_ | refine qL ?_ | refine qM ?_ | refine qN ?_ | refine qO ?_ | refine qQ ?_) | refine qR rfl ?_ | (with_reducible refine AI ?_) | ((with_reducible refine qW (T := TT) (b := ?_) ?_ ?_); rotate_left; exact rfl) | (with_reducible first | refine qX ?_ | refine qY ?_ | refine qZ ?_) | (with_reducible first | refine qI ?_ | refine qIx ?_ | fail) | ((with_reducible refine yS ?_ ?_) <;> (intro h; try simp only [NM] at h)))
    simp -dsimp (disch := (first | omega | (simp only [LN]; omega))) only [retQ, Tryz.results107, resVals, cellRV, resOf, St.rest, St.freeze, RT, go_sem, ↓reduceIte, seval]
  · have s1 := sw ds hd (m - i) m j (by omega) (by omega)
    have e1 := sub_oI (a := m) (b := i) (by omega)
    have e3 := sub_oI (a := i) (b := j) (by omega)
    rw [e1, hd] at s1
    repeat' (first | ((first | with_reducible refine qV tyOk fun K hK => ?_ | (with_reducible first | refine qG ?_ | refine qH ?_ | refine qP ?_ | refine qGx ?_ | refine qHx ?_ | refine qPx ?_) | ((with_reducible first | refine qS ?_ ?_ | refine qT ?_ ?_ | refine qU ?_ ?_) <;> (intro h; try simp only [NM] at h)) | ((with_reducible refine CallJ.is ?_); refine CallJ.io [] [(1000, 1000)] [] [(1000, 1000)] [] [] [] [1000, 1000] (s1) rfl ⟨rfl, rfl, rfl, rfl⟩ ?_ ?_ ?_; (focus (simp -dsimp (disch := (first | omega | (simp only [LN]; omega))) only [go_sem, ↓reduceIte, seval, dropL_nil, dropL_nil', dropL_cons]; done)); (focus (simp -dsimp (disch := (first | omega | (simp only [LN]; omega))) only [go_sem, ↓reduceIte, seval, dropL_nil, dropL_nil', dropL_cons]; done)))) <;> simp -dsimp (disch := (first | omega | (simp only [LN]; omega))) only [go_sem, ↓reduceIte, seval, dropL_nil, dropL_nil', dropL_cons]) | ((with_reducible refine hK _ ?_); clear hK K) | (with_reducible first | refine qA ?_ | refine qB ?_ | refine qC ?_ | refine qD ?_ | refine qE ?_ | refine qF ?_ | refine qL ?_ | refine qM ?_ | refine qN ?_ | refine qO ?_ | refine qQ ?_) | refine qR rfl ?_ | (with_reducible refine AI ?_) | ((with_reducible refine qW (T := TT) (b := ?_) ?_ ?_); rotate_left; exact rfl) | (with_reducible first | refine qX ?_ | refine qY ?_ | refine qZ ?_) | (with_reducible first | refine qI ?_ | refine qIx ?_ | fail) | ((with_reducible refine yS ?_ ?_) <;> (intro h; try simp only [NM] at h)))
    have hr := (swpR_perm j ds (m - i) m).length_eq
    refine ⟨⟨(i - j, j, swpR j ds (m - i) m), by simp only; omega, hj, by simp only; omega, hj2, hr.trans hd, by rw [← hp, rotW_gt m i j ds hc hj]⟩, by simp only; omega, ?_⟩
    refine St.le_mk ?_ ?_ ?_ <;> simp only [LE, EN, Nat.reduceEqDiff, reduceIte, Nat.reduceSub, e3]

theorem wrap_u64 (n : Int) (h : 0 ≤ n ∧ n ≤ 9223372036854775807) : IntKind.u64.wrap n = n := by
  have hb : IntKind.u64.bits = 64 := rfl
  have hs : IntKind.u64.signed = false := rfl
  simp only [IntKind.wrap, hb, hs, Bool.false_and, Bool.false_eq_true, if_false]
  omega
theorem und_int : (Tryz.prog.underlying 3).isSome = true := by kernel_rfl
theorem und_uint : (Tryz.prog.underlying 115).isSome = true := by kernel_rfl
theorem half_nat' (i j : Nat) : ((i : Int) + (j : Int)) / 2 = (((i + j) / 2 : Nat) : Int) := by omega
theorem bits_u64 : (IntKind.u64.bits : Int) = 64 := rfl
theorem bsW_t (p : Nat → Bool) (i j : Nat) (h : i < j) (hp : p ((i + j) / 2) = true) : bsW p i j = bsW p ((i + j) / 2 + 1) j := by
  rw [bsW, if_pos h, if_pos hp]
theorem bsW_f (p : Nat → Bool) (i j : Nat) (h : i < j) (hp : p ((i + j) / 2) = false) : bsW p i j = bsW p i ((i + j) / 2) := by
  rw [bsW, if_pos h, hp]
  rfl
theorem bsW_e (p : Nat → Bool) (i j : Nat) (h : ¬ i < j) : bsW p i j = i := by rw [bsW, if_neg h]
set_option maxHeartbeats 32000000 in
theorem symMergeA (f : FuncId) (z : List L) (c : Chg → Chg → Int) (cs : List Chg) (hc : CmpC Tryz.prog f (.fz z) c cs) (a m b : Nat) (ha : a < m) (hm : m < b) (hb : b ≤ cs.length) (hl : cs.length ≤ 140737488355328) (g1 : m - a = 1) :
    SatM Tryz.prog 99 [.one (.ref 1000 0 cs.length), oI a, oI m, oI b, .one (.clo f [.fz z])] [] (rowC cs) (.tup []) [] (rowC (upR (bsW (fun h => lessAt c cs h a) m b - 1 - a) a cs)) := by
  have g1' : (m : Int) - (a : Int) = 1 := by omega
  obtain ⟨r, hr⟩ : ∃ r, bsW (fun h => lessAt c cs h a) m b = r := ⟨_, rfl⟩
  have hrm := bsW_mem (fun h => lessAt c cs h a) m b (by omega)
  rw [hr] at hrm
  rw [hr]
  unfold rowC
  refine satM_of_body tyOk [] [1000] Tryz.func99 rfl (by kernel_rfl) ⟨Nat.le_of_ble_eq_true rfl, Nat.le_of_ble_eq_true rfl⟩ fun w0 m0 F0 => ?_
  simp only [Tryz.ntmps99, envOf, Nat.reduceAdd]
  repeat' (first | ((first | with_reducible refine qV tyOk fun K hK => ?_ | (with_reducible first | refine qG ?_ | refine qH ?_ | refine qP ?_ | refine qGx ?_ | refine qHx ?_ | refine qPx ?_) | ((with_reducible first | refine qS ?_ ?_ | refine qT ?_ ?_ | refine qU ?_ ?_) <;> (intro h; try simp only [NM] at h))) <;> simp -dsimp (disch := (first | omega | (simp only [LN]; omega))) only [go_sem, ↓reduceIte, seval, g1']) | ((with_reducible refine hK _ ?_); clear hK K) | (with_reducible first | refine qA ?_ | refine qB ?_ | refine qC ?_ | refine qD ?_ | refine qE ?_ | refine qF ?_ | refine qL ?_ | refine qM ?_ | refine qN ?_ | refine qO ?_ | refine qQ ?_) | refine qR rfl ?_ | (with_reducible refine AI ?_) | ((with_reducible refine qW (T := TT) (b := ?_) ?_ ?_); rotate_left; exact rfl) | (with_reducible first | refine qX ?_ | refine qY ?_ | refine qZ ?_) | (with_reducible first | refine qI ?_ | refine qIx ?_ | fail) | ((with_reducible refine yS ?_ ?_) <;> (intro h; try simp only [NM] at h)))
  refine AWP.loop (ι := {p : Nat × Nat // m ≤ p.1 ∧ p.1 ≤ p.2 ∧ p.2 ≤ b ∧ bsW (fun h => lessAt c cs h a) p.1 p.2 = r}) (fun p => ⟨220, [(0, .v (.one (.ref 1000 0 cs.length))), (1, .v (oI a)), (4, .v (.one (.clo f [.fz z]))), (10, .v (oI p.1.1)), (11, .v (oI p.1.2))], [], [(1000, ⟨4, cs.map eChg, []⟩)]⟩) (fun p => p.1.2 - p.1.1) ⟨(m, b), by simp only; omega, by simp only; omega, by simp only; omega, hr⟩ ?_ fun ⟨(i, j), hi1, hi2, hi3, hI⟩ => ?_
  · refine St.le_mk ?_ ?_ ?_ <;> simp only [LE, EN, Nat.reduceEqDiff, reduceIte, Nat.reduceSub]
  simp only at hi1 hi2 hi3 hI ⊢
  rcases Nat.lt_or_ge i j with h1 | h1
  · obtain ⟨x, hx⟩ : ∃ x, (i + j) / 2 = x := ⟨_, rfl⟩
    have q1 : x < cs.length := by omega
    have q2 : a < cs.length := by omega
    have hw := half_nat' i j
    rw [hx] at hw
    have cc := hc cs[x] (List.getElem_mem _) cs[a] (List.getElem_mem _)
    have lj := lessAt_eq c q1 q2
    have s1 := bsW_t (fun h => lessAt c cs h a) i j h1
    have s2 := bsW_f (fun h => lessAt c cs h a) i j h1
    simp only [hx] at s1 s2
    repeat' (first | ((first | with_reducible refine qV tyOk fun K hK => ?_ | (with_reducible first | refine qG ?_ | refine qH ?_ | refine qP ?_ | refine qGx ?_ | refine qHx ?_ | refine qPx ?_) | ((with_reducible first | refine qS ?_ ?_ | refine qT ?_ ?_ | refine qU ?_ ?_) <;> (intro h; try simp only [NM] at h))) <;> simp -dsimp (disch := (first | omega | (simp only [LN]; omega))) only [go_sem, ↓reduceIte, seval, wrap_u64, hw, bits_u64, und_int, und_uint]) | ((with_reducible refine hK _ ?_); clear hK K) | (with_reducible first | refine qA ?_ | refine qB ?_ | refine qC ?_ | refine qD ?_ | refine qE ?_ | refine qF ?_ | refine qL ?_ | refine qM ?_ | refine qN ?_ | refine qO ?_ | refine qQ ?_) | refine qR rfl ?_ | (with_reducible refine AI ?_) | ((with_reducible refine qW (T := TT) (b := ?_) ?_ ?_); rotate_left; exact rfl) | (with_reducible first | refine qX ?_ | refine qY ?_ | refine qZ ?_) | (with_reducible first | refine qI ?_ | refine qIx ?_ | fail) | ((with_reducible refine yS ?_ ?_) <;> (intro h; try simp only [NM] at h)))
    refine AWP.drawX tyOk mixed [(0, 9)] [(9, [(10, 1)], [])] [9] 8 (by decide) (by kernel_rfl) (by kernel_rfl) (by kernel_rfl) (by kernel_rfl) fun K hK => ?_
    simp only [segx_nil, segx_cons, segs, List.drop_succ_cons, List.drop_zero, List.take_succ_cons, List.take_zero, List.getElem?_cons_zero, List.getElem?_cons_succ, List.cons_append, List.nil_append, List.append_nil] at hK ⊢
    simp -dsimp (disch := (first | omega | (simp only [LN]; omega))) only [go_sem, ↓reduceIte, seval, Option.getD_none]
    repeat' (first | ((first | with_reducible refine qV tyOk fun K hK => ?_ | (with_reducible first | refine qG ?_ | refine qH ?_ | refine qP ?_ | refine qGx ?_ | refine qHx ?_ | refine qPx ?_) | ((with_reducible first | refine qS ?_ ?_ | refine qT ?_ ?_ | refine qU ?_ ?_) <;> (intro h; try simp only [NM] at h)) | ((with_reducible refine CallJ.is ?_); (first | refine CallJ.pure (cc) ?_ | ((apply CallJ.lentI); (focus (simp -dsimp (disch := (first | omega | (simp only [LN]; omega))) only [go_sem, ↓reduceIte, seval, Option.getD_none]; rfl)); (focus (first | exact (cc)))))) | ((with_reducible refine CallH.is ?_); (first | refine CallH.intro (cc) ?_))) <;> simp -dsimp (disch := (first | omega | (simp only [LN]; omega))) only [go_sem, ↓reduceIte, seval, Option.getD_none]) | ((with_reducible refine hK _ ?_); clear hK K) | (with_reducible first | refine qA ?_ | refine qB ?_ | refine qC ?_ | refine qD ?_ | refine qE ?_ | refine qF ?_ | refine qL ?_ | refine qM ?_ | refine qN ?_ | refine qO ?_ | refine qQ ?_) | refine qR rfl ?_ | ((with_reducible refine VCy.intro fun K0 hK0 => ?_)) | ((with_reducible refine VCy.fin ?_); (refine hK0 _ ?_); clear hK0 K0) | (with_reducible first | refine VCy.quiet ?_ | refine VCy.none ?_) | ((with_reducible first | refine VCy.some fun K hK => ?_ | refine VCy.step fun K hK => ?_); simp -dsimp (disch := (first | omega | (simp only [LN]; omega))) only [go_sem, ↓reduceIte, seval, Option.getD_none]) | ((with_reducible refine VCy.keep ?_ ?_); focus ((simp -dsimp (disch := (first | omega | (simp only [LN]; omega))) only [go_sem, ↓reduceIte, seval, Stable_cons, Stable_nil, sameA_some, sameA_none, Option.getD_none]); first | done | with_reducible assumption | omega | (repeat' with_reducible refine And.intro ?_ ?_) <;> first | with_reducible rfl | with_reducible assumption | omega)) | (with_reducible refine AI ?_) | ((with_reducible refine qW (T := TT) (b := ?_) ?_ ?_); rotate_left; exact rfl) | (with_reducible first | refine qX ?_ | refine qY ?_ | refine qZ ?_) | (with_reducible first | refine qI ?_ | refine qIx ?_ | fail) | ((with_reducible refine yS ?_ ?_) <;> (intro h; try simp only [NM] at h)))
    · refine ⟨⟨(x + 1, j), by simp only; omega, by simp only; omega, hi3, by rw [← s1 (by rw [lj]; exact decide_eq_true (by assumption)), hI]⟩, by simp only; omega, ?_⟩
      refine St.le_mk ?_ ?_ ?_ <;> simp only [LE, EN, Nat.reduceEqDiff, reduceIte, Nat.reduceSub, Int.natCast_add]
    · refine ⟨⟨(i, x), hi1, by simp only; omega, by simp only; omega, by rw [← s2 (by rw [lj]; exact decide_eq_false (by omega)), hI]⟩, by simp only; omega, ?_⟩
      refine St.le_mk ?_ ?_ ?_ <;> simp only [LE, EN, Nat.reduceEqDiff, reduceIte, Nat.reduceSub]
  · rw [bsW_e _ _ _ (by omega)] at hI
    subst hI
    repeat' (first | ((first | with_reducible refine qV tyOk fun K hK => ?_ | (with_reducible first | refine qG ?_ | refine qH ?_ | refine qP ?_ | refine qGx ?_ | refine qHx ?_ | refine qPx ?_) | ((with_reducible first | refine qS ?_ ?_ | refine qT ?_ ?_ | refine qU ?_ ?_) <;> (intro h; try simp only [NM] at h))) <;> simp -dsimp (disch := (first | omega | (simp only [LN]; omega))) only [go_sem, ↓reduceIte, seval]) | ((with_reducible refine hK _ ?_); clear hK K) | (with_reducible first | refine qA ?_ | refine qB ?_ | refine qC ?_ | refine qD ?_ | refine qE ?_ | refine qF ?_ | refine qL ?_ | refine qM ?_ | refine qN ?_ | refine qO ?_ | refine qQ ?_) | refine qR rfl ?_ | (with_reducible refine AI ?_) | ((with_reducible refine qW (T := TT) (b := ?_) ?_ ?_); rotate_left; exact rfl) | (with_reducible first | refine qX ?_ | refine qY ?_ | refine qZ ?_) | (with_reducible first | refine qI ?_ | refine qIx ?_ | fail) | ((with_reducible refine yS ?_ ?_) <;> (intro h; try simp only [NM] at h)))
    refine AWP.loop (ι := {p : Nat × List Chg // a ≤ p.1 ∧ p.1 ≤ i - 1 ∧ p.2.length = cs.length ∧ upR (i - 1 - p.1) p.1 p.2 = upR (i - 1 - a) a cs}) (fun p => ⟨220, [(0, .v (.one (.ref 1000 0 cs.length))), (10, .v (oI i)), (13, .v (oI p.1.1))], [], [(1000, ⟨4, p.1.2.map eChg, []⟩)]⟩) (fun p => i - p.1.1) ⟨(a, cs), by simp only; omega, by simp only; omega, rfl, rfl⟩ ?_ fun ⟨(k, ds), hk1, hk2, hd, hK⟩ => ?_
    · refine St.le_mk ?_ ?_ ?_ <;> simp only [LE, EN, Nat.reduceEqDiff, reduceIte, Nat.reduceSub]
    simp only at hk1 hk2 hd hK ⊢
    rcases Nat.lt_or_ge k (i - 1) with h2 | h2
    · have e3 : i - 1 - k = (i - 1 - (k + 1)) + 1 := by omega
      rw [e3, upR] at hK
      have p1 : k < ds.length := by omega
      have p2 : k + 1 < ds.length := by omega
      have e4 : ((k : Int) + 1).toNat = k + 1 := by omega
      repeat' (first | ((first | ((fail_if_success (refine AWP.isRegion 11 ?_)); (with_reducible refine qV tyOk fun K hK => ?_)) | (with_reducible first | refine qG ?_ | refine qH ?_ | refine qP ?_ | refine qGx ?_ | refine qHx ?_ | refine qPx ?_) | ((with_reducible first | refine qS ?_ ?_ | refine qT ?_ ?_ | refine qU ?_ ?_) <;> (intro h; try simp only [NM] at h))) <;> simp -dsimp (disch := (first | omega | (simp only [LN]; omega))) only [go_sem, ↓reduceIte, seval]) | ((with_reducible refine hK _ ?_); clear hK K) | (with_reducible first | refine qA ?_ | refine qB ?_ | refine qC ?_ | refine qD ?_ | refine qE ?_ | refine qF ?_ | refine qL ?_ | refine qM ?_ | refine qN ?_ | refine qO ?_ | refine qQ ?_) | refine qR rfl ?_ | (with_reducible refine AI ?_) | ((with_reducible refine qW (T := TT) (b := ?_) ?_ ?_); rotate_left; exact rfl) | (with_reducible first | refine qX ?_ | refine qY ?_ | refine qZ ?_) | (with_reducible first | refine qI ?_ | refine qIx ?_ | fail) | ((with_reducible refine yS ?_ ?_) <;> (intro h; try simp only [NM] at h)))
      refine AWP.drawX tyOk mixed [(0, 15)] [(15, [(16, 1)], [(2, 3)]), (17, [], [])] [15, 17] 8 (by decide) (by kernel_rfl) (by kernel_rfl) (by kernel_rfl) (by kernel_rfl) fun K hK => ?_
      simp only [segx_nil, segx_cons, segs, List.drop_succ_cons, List.drop_zero, List.take_succ_cons, List.take_zero, List.getElem?_cons_zero, List.getElem?_cons_succ, List.cons_append, List.nil_append, List.append_nil] at hK ⊢
      simp -dsimp (disch := (first | omega | (simp only [LN]; omega))) only [go_sem, ↓reduceIte, seval, hd, e4, Option.getD_none]
      repeat' (first | ((first | with_reducible refine qV tyOk fun K hK => ?_ | (with_reducible first | refine qG ?_ | refine qH ?_ | refine qP ?_ | refine qGx ?_ | refine qHx ?_ | refine qPx ?_) | ((with_reducible first | refine qS ?_ ?_ | refine qT ?_ ?_ | refine qU ?_ ?_) <;> (intro h; try simp only [NM] at h))) <;> simp -dsimp (disch := (first | omega | (simp only [LN]; omega))) only [go_sem, ↓reduceIte, seval, hd, e4, Option.getD_none]) | ((with_reducible refine hK _ ?_); clear hK K) | (with_reducible first | refine qA ?_ | refine qB ?_ | refine qC ?_ | refine qD ?_ | refine qE ?_ | refine qF ?_ | refine qL ?_ | refine qM ?_ | refine qN ?_ | refine qO ?_ | refine qQ ?_) | refine qR rfl ?_ | ((with_reducible refine VCy.intro fun K0 hK0 => ?_)) | ((with_reducible refine VCy.fin ?_); (refine hK0 _ ?_); clear hK0 K0) | (with_reducible first | refine VCy.quiet ?_ | refine VCy.none ?_) | ((with_reducible first | refine VCy.some fun K hK => ?_ | refine VCy.step fun K hK => ?_); simp -dsimp (disch := (first | omega | (simp only [LN]; omega))) only [go_sem, ↓reduceIte, seval, hd, e4, Option.getD_none]) | ((with_reducible refine VCy.keep ?_ ?_); focus ((simp -dsimp (disch := (first | omega | (simp only [LN]; omega))) only [go_sem, ↓reduceIte, seval, Stable_cons, Stable_nil, sameA_some, sameA_none, hd, e4, Option.getD_none]); first | done | with_reducible assumption | omega | (repeat' with_reducible refine And.intro ?_ ?_) <;> first | with_reducible rfl | with_reducible assumption | omega)) | (with_reducible refine AI ?_) | ((with_reducible refine qW (T := TT) (b := ?_) ?_ ?_); rotate_left; exact rfl) | (with_reducible first | refine qX ?_ | refine qY ?_ | refine qZ ?_) | (with_reducible first | refine qI ?_ | refine qIx ?_ | fail) | ((with_reducible refine yS ?_ ?_) <;> (intro h; try simp only [NM] at h)))
      refine ⟨⟨(k + 1, swp ds k (k + 1)), by simp only; omega, by simp only; omega, (swp_perm ds _ _).length_eq.trans hd, hK⟩, by simp only; omega, ?_⟩
      refine St.le_mk ?_ trivial ⟨congrArg (fun x : List (List L) => some (⟨4, x, []⟩ : RowC)) (swap_row ds k (k + 1) p1 p2), trivial⟩
      simp only [allIn_cons, allIn_nil, look_cons, look_nil, reduceIte, Nat.reduceEqDiff]
      exact ⟨trivial, trivial, by simp, trivial⟩
    · have e3 : i - 1 - k = 0 := by omega
      rw [e3] at hK
      have hK : ds = _ := hK
      repeat' (first | ((first | with_reducible refine qV tyOk fun K hK => ?_ | (with_reducible first | refine qG ?_ | refine qH ?_ | refine qP ?_ | refine qGx ?_ | refine qHx ?_ | refine qPx ?_) | ((with_reducible first | refine qS ?_ ?_ | refine qT ?_ ?_ | refine qU ?_ ?_) <;> (intro h; try simp only [NM] at h))) <;> simp -dsimp (disch := (first | omega | (simp only [LN]; omega))) only [go_sem, ↓reduceIte, seval]) | ((with_reducible refine hK _ ?_); clear hK K) | (with_reducible first | refine qA ?_ | refine qB ?_ | refine qC ?_ | refine qD ?_ | refine qE ?_ | refine qF ?_ | refine qL ?_ | refine qM ?_ | refine qN ?_ | refine qO ?_ | refine qQ ?_) | refine qR rfl ?_ | (with_reducible refine AI ?_) | ((with_reducible refine qW (T := TT) (b := ?_) ?_ ?_); rotate_left; exact rfl) | (with_reducible first | refine qX ?_ | refine qY ?_ | refine qZ ?_) | (with_reducible first | refine qI ?_ | refine qIx ?_ | fail) | ((with_reducible refine yS ?_ ?_) <;> (intro h; try simp only [NM] at h)))
      simp -dsimp (disch := (first | omega | (simp only [LN]; omega))) only [retQ, Tryz.results99, resVals, cellRV, resOf, St.rest, St.freeze, RT, go_sem, ↓reduceIte, seval]
      rw [hK]
set_option maxHeartbeats 32000000 in
theorem symMergeB (f : FuncId) (z : List L) (c : Chg → Chg → Int) (cs : List Chg) (hc : CmpC Tryz.prog f (.fz z) c cs) (a m b : Nat) (ha : a < m) (hm : m < b) (hb : b ≤ cs.length) (hl : cs.length ≤ 140737488355328) (g1 : ¬ m - a = 1) (g2 : b - m = 1) :
    SatM Tryz.prog 99 [.one (.ref 1000 0 cs.length), oI a, oI m, oI b, .one (.clo f [.fz z])] [] (rowC cs) (.tup []) [] (rowC (dnR (m - bsW (fun h => !lessAt c cs m h) a m) m cs)) := by
  have g2' : (b : Int) - (m : Int) = 1 := by omega
  obtain ⟨r, hr⟩ : ∃ r, bsW (fun h => !lessAt c cs m h) a m = r := ⟨_, rfl⟩
  have hrm := bsW_mem (fun h => !lessAt c cs m h) a m (by omega)
  rw [hr] at hrm
  rw [hr]
  unfold rowC
  refine satM_of_body tyOk [] [1000] Tryz.func99 rfl (by kernel_rfl) ⟨Nat.le_of_ble_eq_true rfl, Nat.le_of_ble_eq_true rfl⟩ fun w0 m0 F0 => ?_
  simp only [Tryz.ntmps99, envOf, Nat.reduceAdd]
  repeat' (first | ((first | with_reducible refine qV tyOk fun K hK => ?_ | (with_reducible first | refine qG ?_ | refine qH ?_ | refine qP ?_ | refine qGx ?_ | refine qHx ?_ | refine qPx ?_) | ((with_reducible first | refine qS ?_ ?_ | refine qT ?_ ?_ | refine qU ?_ ?_) <;> (intro h; try simp only [NM] at h))) <;> simp -dsimp (disch := (first | omega | (simp only [LN]; omega))) only [go_sem, ↓reduceIte, seval, g2']) | ((with_reducible refine hK _ ?_); clear hK K) | (with_reducible first | refine qA ?_ | refine qB ?_ | refine qC ?_ | refine qD ?_ | refine qE ?_ | refine qF ?_ | refine qL ?_ | refine qM ?_ | refine qN ?_ | refine qO ?_ | refine qQ ?_) | refine qR rfl ?_ | (with_reducible refine AI ?_) | ((with_reducible refine qW (T := TT) (b := ?_) ?_ ?_); rotate_left; exact rfl) | (with_reducible first | refine qX ?_ | refine qY ?_ | refine qZ ?_) | (with_reducible first | refine qI ?_ | refine qIx ?_ | fail) | ((with_reducible refine yS ?_ ?_) <;> (intro h; try simp only [NM] at h)))
  refine AWP.loop (ι := {p : Nat × Nat // a ≤ p.1 ∧ p.1 ≤ p.2 ∧ p.2 ≤ m ∧ bsW (fun h => !lessAt c cs m h) p.1 p.2 = r}) (fun p => ⟨220, [(0, .v (.one (.ref 1000 0 cs.length))), (2, .v (oI m)), (4, .v (.one (.clo f [.fz z]))), (14, .v (oI p.1.1)), (15, .v (oI p.1.2))], [], [(1000, ⟨4, cs.map eChg, []⟩)]⟩) (fun p => p.1.2 - p.1.1) ⟨(a, m), by simp only; omega, by simp only; omega, by simp only; omega, hr⟩ ?_ fun ⟨(i, j), hi1, hi2, hi3, hI⟩ => ?_
  · refine St.le_mk ?_ ?_ ?_ <;> simp only [LE, EN, Nat.reduceEqDiff, reduceIte, Nat.reduceSub]
  simp only at hi1 hi2 hi3 hI ⊢
  rcases Nat.lt_or_ge i j with h1 | h1
  · obtain ⟨x, hx⟩ : ∃ x, (i + j) / 2 = x := ⟨_, rfl⟩
    have q1 : x < cs.length := by omega
    have q2 : m < cs.length := by omega
    have hw := half_nat' i j
    rw [hx] at hw
    have cc := hc cs[m] (List.getElem_mem _) cs[x] (List.getElem_mem _)
    have lj := lessAt_eq c q2 q1
    have s1 := bsW_t (fun h => !lessAt c cs m h) i j h1
    have s2 := bsW_f (fun h => !lessAt c cs m h) i j h1
    simp only [hx, Bool.not_eq_true', Bool.not_eq_false'] at s1 s2
    repeat' (first | ((first | with_reducible refine qV tyOk fun K hK => ?_ | (with_reducible first | refine qG ?_ | refine qH ?_ | refine qP ?_ | refine qGx ?_ | refine qHx ?_ | refine qPx ?_) | ((with_reducible first | refine qS ?_ ?_ | refine qT ?_ ?_ | refine qU ?_ ?_) <;> (intro h; try simp only [NM] at h))) <;> simp -dsimp (disch := (first | omega | (simp only [LN]; omega))) only [go_sem, ↓reduceIte, seval, wrap_u64, hw, bits_u64, und_int, und_uint]) | ((with_reducible refine hK _ ?_); clear hK K) | (with_reducible first | refine qA ?_ | refine qB ?_ | refine qC ?_ | refine qD ?_ | refine qE ?_ | refine qF ?_ | refine qL ?_ | refine qM ?_ | refine qN ?_ | refine qO ?_ | refine qQ ?_) | refine qR rfl ?_ | (with_reducible refine AI ?_) | ((with_reducible refine qW (T := TT) (b := ?_) ?_ ?_); rotate_left; exact rfl) | (with_reducible first | refine qX ?_ | refine qY ?_ | refine qZ ?_) | (with_reducible first | refine qI ?_ | refine qIx ?_ | fail) | ((with_reducible refine yS ?_ ?_) <;> (intro h; try simp only [NM] at h)))
    refine AWP.drawX tyOk mixed [(0, 9)] [(9, [(10, 2)], [])] [9] 8 (by decide) (by kernel_rfl) (by kernel_rfl) (by kernel_rfl) (by kernel_rfl) fun K hK => ?_
    simp only [segx_nil, segx_cons, segs, List.drop_succ_cons, List.drop_zero, List.take_succ_cons, List.take_zero, List.getElem?_cons_zero, List.getElem?_cons_succ, List.cons_append, List.nil_append, List.append_nil] at hK ⊢
    simp -dsimp (disch := (first | omega | (simp only [LN]; omega))) only [go_sem, ↓reduceIte, seval, Option.getD_none]
    repeat' (first | ((first | with_reducible refine qV tyOk fun K hK => ?_ | (with_reducible first | refine qG ?_ | refine qH ?_ | refine qP ?_ | refine qGx ?_ | refine qHx ?_ | refine qPx ?_) | ((with_reducible first | refine qS ?_ ?_ | refine qT ?_ ?_ | refine qU ?_ ?_) <;> (intro h; try simp only [NM] at h)) | ((with_reducible refine CallJ.is ?_); (first | refine CallJ.pure (cc) ?_ | ((apply CallJ.lentI); (focus (simp -dsimp (disch := (first | omega | (simp only [LN]; omega))) only [go_sem, ↓reduceIte, seval, Option.getD_none]; rfl)); (focus (first | exact (cc)))))) | ((with_reducible refine CallH.is ?_); (first | refine CallH.intro (cc) ?_))) <;> simp -dsimp (disch := (first | omega | (simp only [LN]; omega))) only [go_sem, ↓reduceIte, seval, Option.getD_none]) | ((with_reducible refine hK _ ?_); clear hK K) | (with_reducible first | refine qA ?_ | refine qB ?_ | refine qC ?_ | refine qD ?_ | refine qE ?_ | refine qF ?_ | refine qL ?_ | refine qM ?_ | refine qN ?_ | refine qO ?_ | refine qQ ?_) | refine qR rfl ?_ | ((with_reducible refine VCy.intro fun K0 hK0 => ?_)) | ((with_reducible refine VCy.fin ?_); (refine hK0 _ ?_); clear hK0 K0) | (with_reducible first | refine VCy.quiet ?_ | refine VCy.none ?_) | ((with_reducible first | refine VCy.some fun K hK => ?_ | refine VCy.step fun K hK => ?_); simp -dsimp (disch := (first | omega | (simp only [LN]; omega))) only [go_sem, ↓reduceIte, seval, Option.getD_none]) | ((with_reducible refine VCy.keep ?_ ?_); focus ((simp -dsimp (disch := (first | omega | (simp only [LN]; omega))) only [go_sem, ↓reduceIte, seval, Stable_cons, Stable_nil, sameA_some, sameA_none, Option.getD_none]); first | done | with_reducible assumption | omega | (repeat' with_reducible refine And.intro ?_ ?_) <;> first | with_reducible rfl | with_reducible assumption | omega)) | (with_reducible refine AI ?_) | ((with_reducible refine qW (T := TT) (b := ?_) ?_ ?_); rotate_left; exact rfl) | (with_reducible first | refine qX ?_ | refine qY ?_ | refine qZ ?_) | (with_reducible first | refine qI ?_ | refine qIx ?_ | fail) | ((with_reducible refine yS ?_ ?_) <;> (intro h; try simp only [NM] at h)))
    · refine ⟨⟨(i, x), hi1, by simp only; omega, by simp only; omega, by rw [← s2 (by rw [lj]; exact decide_eq_true (by omega)), hI]⟩, by simp only; omega, ?_⟩
      refine St.le_mk ?_ ?_ ?_ <;> simp only [LE, EN, Nat.reduceEqDiff, reduceIte, Nat.reduceSub]
    · refine ⟨⟨(x + 1, j), by simp only; omega, by simp only; omega, hi3, by rw [← s1 (by rw [lj]; exact decide_eq_false (by omega)), hI]⟩, by simp only; omega, ?_⟩
      refine St.le_mk ?_ ?_ ?_ <;> simp only [LE, EN, Nat.reduceEqDiff, reduceIte, Nat.reduceSub, Int.natCast_add]
  · rw [bsW_e _ _ _ (by omega)] at hI
    subst hI
    repeat' (first | ((first | with_reducible refine qV tyOk fun K hK => ?_ | (with_reducible first | refine qG ?_ | refine qH ?_ | refine qP ?_ | refine qGx ?_ | refine qHx ?_ | refine qPx ?_) | ((with_reducible first | refine qS ?_ ?_ | refine qT ?_ ?_ | refine qU ?_ ?_) <;> (intro h; try simp only [NM] at h))) <;> simp -dsimp (disch := (first | omega | (simp only [LN]; omega))) only [go_sem, ↓reduceIte, seval]) | ((with_reducible refine hK _ ?_); clear hK K) | (with_reducible first | refine qA ?_ | refine qB ?_ | refine qC ?_ | refine qD ?_ | refine qE ?_ | refine qF ?_ | refine qL ?_ | refine qM ?_ | refine qN ?_ | refine qO ?_ | refine qQ ?_) | refine qR rfl ?_ | (with_reducible refine AI ?_) | ((with_reducible refine qW (T := TT) (b := ?_) ?_ ?_); rotate_left; exact rfl) | (with_reducible first | refine qX ?_ | refine qY ?_ | refine qZ ?_) | (with_reducible first | refine qI ?_ | refine qIx ?_ | fail) | ((with_reducible refine yS ?_ ?_) <;> (intro h; try simp only [NM] at h)))
    refine AWP.loop (ι := {p : Nat × List Chg // i ≤ p.1 ∧ p.1 ≤ m ∧ p.2.length = cs.length ∧ dnR (p.1 - i) p.1 p.2 = dnR (m - i) m cs}) (fun p => ⟨220, [(0, .v (.one (.ref 1000 0 cs.length))), (14, .v (oI i)), (17, .v (oI p.1.1))], [], [(1000, ⟨4, p.1.2.map eChg, []⟩)]⟩) (fun p => p.1.1 - i) ⟨(m, cs), by simp only; omega, by simp only; omega, rfl, rfl⟩ ?_ fun ⟨(k, ds), hk1, hk2, hd, hK⟩ => ?_
    · refine St.le_mk ?_ ?_ ?_ <;> simp only [LE, EN, Nat.reduceEqDiff, reduceIte, Nat.reduceSub]
    simp only at hk1 hk2 hd hK ⊢
    rcases Nat.lt_or_ge i k with h2 | h2
    · have e3 : k - i = (k - 1 - i) + 1 := by omega
      rw [e3, dnR] at hK
      have p1 : k < ds.length := by omega
      have p2 : k - 1 < ds.length := by omega
      have e4 : ((k : Int) - 1).toNat = k - 1 := by omega
      have ek : ((k - 1 : Nat) : Int) = (k : Int) - 1 := by omega
      repeat' (first | ((first | ((fail_if_success (refine AWP.isRegion 23 ?_)); (with_reducible refine qV tyOk fun K hK => ?_)) | (with_reducible first | refine qG ?_ | refine qH ?_ | refine qP ?_ | refine qGx ?_ | refine qHx ?_ | refine qPx ?_) | ((with_reducible first | refine qS ?_ ?_ | refine qT ?_ ?_ | refine qU ?_ ?_) <;> (intro h; try simp only [NM] at h))) <;> simp -dsimp (disch := (first | omega | (simp only [LN]; omega))) only [go_sem, ↓reduceIte, seval]) | ((with_reducible refine hK _ ?_); clear hK K) | (with_reducible first | refine qA ?_ | refine qB ?_ | refine qC ?_ | refine qD ?_ | refine qE ?_ | refine qF ?_ | refine qL ?_ | refine qM ?_ | refine qN ?_ | refine qO ?_ | refine qQ ?_) | refine qR rfl ?_ | (with_reducible refine AI ?_) | ((with_reducible refine qW (T := TT) (b := ?_) ?_ ?_); rotate_left; exact rfl) | (with_reducible first | refine qX ?_ | refine qY ?_ | refine qZ ?_) | (with_reducible first | refine qI ?_ | refine qIx ?_ | fail) | ((with_reducible refine yS ?_ ?_) <;> (intro h; try simp only [NM] at h)))
      refine AWP.drawX tyOk mixed [(0, 15)] [(15, [(16, 1)], [(2, 3)]), (17, [], [])] [15, 17] 8 (by decide) (by kernel_rfl) (by kernel_rfl) (by kernel_rfl) (by kernel_rfl) fun K hK => ?_
      simp only [segx_nil, segx_cons, segs, List.drop_succ_cons, List.drop_zero, List.take_succ_cons, List.take_zero, List.getElem?_cons_zero, List.getElem?_cons_succ, List.cons_append, List.nil_append, List.append_nil] at hK ⊢
      simp -dsimp (disch := (first | omega | (simp only [LN]; omega))) only [go_sem, ↓reduceIte, seval, hd, e4, Option.getD_none]
      repeat' (first | ((first | with_reducible refine qV tyOk fun K hK => ?_ | (with_reducible first | refine qG ?_ | refine qH ?_ | refine qP ?_ | refine qGx ?_ | refine qHx ?_ | refine qPx ?_) | ((with_reducible first | refine qS ?_ ?_ | refine qT ?_ ?_ | refine qU ?_ ?_) <;> (intro h; try simp only [NM] at h))) <;> simp -dsimp (disch := (first | omega | (simp only [LN]; omega))) only [go_sem, ↓reduceIte, seval, hd, e4, Option.getD_none]) | ((with_reducible refine hK _ ?_); clear hK K) | (with_reducible first | refine qA ?_ | refine qB ?_ | refine qC ?_ | refine qD ?_ | refine qE ?_ | refine qF ?_ | refine qL ?_ | refine qM ?_ | refine qN ?_ | refine qO ?_ | refine qQ ?_) | refine qR rfl ?_ | ((with_reducible refine VCy.intro fun K0 hK0 => ?_)) | ((with_reducible refine VCy.fin ?_); (refine hK0 _ ?_); clear hK0 K0) | (with_reducible first | refine VCy.quiet ?_ | refine VCy.none ?_) | ((with_reducible first | refine VCy.some fun K hK => ?_ | refine VCy.step fun K hK => ?_); simp -dsimp (disch := (first | omega | (simp only [LN]; omega))) only [go_sem, ↓reduceIte, seval, hd, e4, Option.getD_none]) | ((with_reducible refine VCy.keep ?_ ?_); focus ((simp -dsimp (disch := (first | omega | (simp only [LN]; omega))) only [go_sem, ↓reduceIte, seval, Stable_cons, Stable_nil, sameA_some, sameA_none, hd, e4, Option.getD_none]); first | done | with_reducible assumption | omega | (repeat' with_reducible refine And.intro ?_ ?_) <;> first | with_reducible rfl | with_reducible assumption | omega)) | (with_reducible refine AI ?_) | ((with_reducible refine qW (T := TT) (b := ?_) ?_ ?_); rotate_left; exact rfl) | (with_reducible first | refine qX ?_ | refine qY ?_ | refine qZ ?_) | (with_reducible first | refine qI ?_ | refine qIx ?_ | fail) | ((with_reducible refine yS ?_ ?_) <;> (intro h; try simp only [NM] at h)))
      refine ⟨⟨(k - 1, swp ds k (k - 1)), by simp only; omega, by simp only; omega, (swp_perm ds _ _).length_eq.trans hd, hK⟩, by simp only; omega, ?_⟩
      refine St.le_mk ?_ trivial ⟨congrArg (fun x : List (List L) => some (⟨4, x, []⟩ : RowC)) (swap_row ds k (k - 1) p1 p2), trivial⟩
      simp only [allIn_cons, allIn_nil, look_cons, look_nil, reduceIte, Nat.reduceEqDiff]
      exact ⟨trivial, trivial, by rw [ek], trivial⟩
    · have e3 : k - i = 0 := by omega
      rw [e3] at hK
      have hK : ds = _ := hK
      repeat' (first | ((first | with_reducible refine qV tyOk fun K hK => ?_ | (with_reducible first | refine qG ?_ | refine qH ?_ | refine qP ?_ | refine qGx ?_ | refine qHx ?_ | refine qPx ?_) | ((with_reducible first | refine qS ?_ ?_ | refine qT ?_ ?_ | refine qU ?_ ?_) <;> (intro h; try simp only [NM] at h))) <;> simp -dsimp (disch := (first | omega | (simp only [LN]; omega))) only [go_sem, ↓reduceIte, seval]) | ((with_reducible refine hK _ ?_); clear hK K) | (with_reducible first | refine qA ?_ | refine qB ?_ | refine qC ?_ | refine qD ?_ | refine qE ?_ | refine qF ?_ | refine qL ?_ | refine qM ?_ | refine qN ?_ | refine qO ?_ | refine qQ ?_) | refine qR rfl ?_ | (with_reducible refine AI ?_) | ((with_reducible refine qW (T := TT) (b := ?_) ?_ ?_); rotate_left; exact rfl) | (with_reducible first | refine qX ?_ | refine qY ?_ | refine qZ ?_) | (with_reducible first | refine qI ?_ | refine qIx ?_ | fail) | ((with_reducible refine yS ?_ ?_) <;> (intro h; try simp only [NM] at h)))
      simp -dsimp (disch := (first | omega | (simp only [LN]; omega))) only [retQ, Tryz.results99, resVals, cellRV, resOf, St.rest, St.freeze, RT, go_sem, ↓reduceIte, seval]
      rw [hK]

section
section
variable {P : Program} {w0 : World} {m0 : Mem} {F0 : Home}
theorem thenQ_mono {R R' : St → Prop} {Q : Exit → St → Prop} (h : ∀ s, R s → R' s) : ∀ e s, thenQ R Q e s → thenQ R' Q e s
  | .normal, s, hq => h s hq
  | .ret, _, hq | .exit _, _, hq | .goto _, _, hq | .panic _, _, hq | .outgrown, _, hq => hq
theorem AWP.meet {Q Q1 Q2 : Exit → St → Prop} {s : St} {c c' c2 : Code} (t : St) (h1 : AWP P w0 m0 F0 c (thenQ (AWP P w0 m0 F0 c' (thenQ (fun s' => St.le t s') Q1)) Q) s) (h2 : AWP P w0 m0 F0 c2 Q2 t) :
    AWP P w0 m0 F0 c (thenQ (AWP P w0 m0 F0 c' (thenQ (AWP P w0 m0 F0 c2 Q2) Q1)) Q) s :=
  h1.mono (thenQ_mono fun _ hs => hs.mono (thenQ_mono fun _ ht => h2.weak ht))
end
set_option maxHeartbeats 32000000 in
theorem symMergeC (f : FuncId) (z : List L) (c : Chg → Chg → Int) (n : Nat) (cs : List Chg) (hc : CmpC Tryz.prog f (.fz z) c cs) (a m b : Nat) (ha : a < m) (hm : m < b) (hb : b ≤ cs.length) (hn : b - a ≤ n + 1) (hl : cs.length ≤ 140737488355328) (g1 : ¬ m - a = 1) (g2 : ¬ b - m = 1)
    (ih : ∀ (ds : List Chg), ds.Perm cs → ∀ (a m b : Nat), a < m → m < b → b ≤ cs.length → b - a ≤ n →
      SatM Tryz.prog 99 [.one (.ref 1000 0 cs.length), oI a, oI m, oI b, .one (.clo f [.fz z])] [] (rowC ds) (.tup []) [] (rowC (symF c n ds a m b))) :
    SatM Tryz.prog 99 [.one (.ref 1000 0 cs.length), oI a, oI m, oI b, .one (.clo f [.fz z])] [] (rowC cs) (.tup []) [] (rowC (symF c (n + 1) cs a m b)) := by
  rw [symF, if_neg g1, if_neg g2]
  obtain ⟨mid, hmid⟩ : ∃ x, (a + b) / 2 = x := ⟨_, rfl⟩
  obtain ⟨s0, hs0⟩ : ∃ x, (if mid < m then mid + m - b else a) = x := ⟨_, rfl⟩
  obtain ⟨r0, hr0⟩ : ∃ x, (if mid < m then mid else m) = x := ⟨_, rfl⟩
  have bnd : a ≤ s0 ∧ s0 ≤ r0 ∧ r0 ≤ mid ∧ r0 ≤ m ∧ mid + m - s0 ≤ b ∧ (∀ x, s0 ≤ x → x < r0 → mid + m - 1 - x < b) := by
    subst hs0; subst hr0
    split
    · refine ⟨by omega, by omega, by omega, by omega, by omega, fun x h1 h2 => by omega⟩
    · refine ⟨by omega, by omega, by omega, by omega, by omega, fun x h1 h2 => by omega⟩
  obtain ⟨c1, c2, c3, c4, c5, c6⟩ := bnd
  obtain ⟨s, hs⟩ : ∃ x, bsW (fun x => !lessAt c cs (mid + m - 1 - x) x) s0 r0 = x := ⟨_, rfl⟩
  have hrm := bsW_mem (fun x => !lessAt c cs (mid + m - 1 - x) x) s0 r0 c2
  rw [hs] at hrm
  simp only [hmid, hs0, hr0, hs]
  obtain ⟨e, he⟩ : ∃ x, mid + m - s = x := ⟨_, rfl⟩
  have heb : e ≤ b := by omega
  have hei : (e : Int) = (mid : Int) + m - s := by omega
  have hml : mid < b := by omega
  have ham : a < mid := by omega
  rw [he]
  obtain ⟨d1, hd1⟩ : ∃ x, (if s < m ∧ m < e then rotW m (m - s) (e - m) cs else cs) = x := ⟨_, rfl⟩
  obtain ⟨d2, hd2⟩ : ∃ x, (if a < s ∧ s < mid then symF c n d1 a s mid else d1) = x := ⟨_, rfl⟩
  obtain ⟨d3, hd3⟩ : ∃ x, (if mid < e ∧ e < b then symF c n d2 mid e b else d2) = x := ⟨_, rfl⟩
  rw [hd1, hd2, hd3]
  have p1 : d1.Perm cs := by
    rw [← hd1]; split
    · exact rotW_perm _ _ _ _
    · exact .refl _
  have p2 : d2.Perm cs := by
    rw [← hd2]; split
    · exact (symF_perm c _ _ _ _ _).trans p1
    · exact p1
  have l1 := p1.length_eq
  have l2 := p2.length_eq
  have hw := half_nat' a b
  rw [hmid] at hw
  have i1 : ¬ (m : Int) - (a : Int) = 1 := by omega
  have i2 : ¬ (b : Int) - (m : Int) = 1 := by omega
  have ei0 : (s0 : Int) = if mid < m then (mid : Int) + m - b else a := by
    rw [← hs0]; split
    · omega
    · rfl
  have ei1 : (r0 : Int) = if mid < m then (mid : Int) else m := by
    rw [← hr0]; split <;> rfl
  have t1 := fun (k : s < m ∧ m < e) => rotate_satM cs f z s m e k.1 k.2 (by omega) hl
  have t2 := fun (k : a < s ∧ s < mid) => ih d1 p1 a s mid k.1 k.2 (by omega) (by omega)
  have t3 := fun (k : mid < e ∧ e < b) => ih d2 p2 mid e b k.1 k.2 hb (by omega)
  unfold rowC at t1 t2 t3 ⊢
  clear ih
  refine satM_of_body tyOk [] [1000] Tryz.func99 rfl (by kernel_rfl) ⟨Nat.le_of_ble_eq_true rfl, Nat.le_of_ble_eq_true rfl⟩ fun w0 m0 F0 => ?_
  simp only [Tryz.ntmps99, envOf, Nat.reduceAdd]
  repeat' (first | ((first | ((fail_if_success (refine AWP.isRegion 27 ?_)); (with_reducible refine qV tyOk fun K hK => ?_)) | (with_reducible first | refine qG ?_ | refine qH ?_ | refine qP ?_ | refine qGx ?_ | refine qHx ?_ | refine qPx ?_) | ((with_reducible first | refine qS ?_ ?_ | refine qT ?_ ?_ | refine qU ?_ ?_) <;> (intro h; try simp only [NM] at h))) <;> simp -dsimp (disch := (first | omega | (simp only [LN]; omega))) only [go_sem, ↓reduceIte, seval, wrap_u64, hw, bits_u64, und_int, und_uint, i1, i2]) | ((with_reducible refine hK _ ?_); clear hK K) | (with_reducible first | refine qA ?_ | refine qB ?_ | refine qC ?_ | refine qD ?_ | refine qE ?_ | refine qF ?_ | refine qL ?_ | refine qM ?_ | refine qN ?_ | refine qO ?_ | refine qQ ?_) | refine qR rfl ?_ | (with_reducible refine AI ?_) | ((with_reducible refine qW (T := TT) (b := ?_) ?_ ?_); rotate_left; exact rfl) | (with_reducible first | refine qX ?_ | refine qY ?_ | refine qZ ?_) | (with_reducible first | refine qI ?_ | refine qIx ?_ | fail) | ((with_reducible refine yS ?_ ?_) <;> (intro h; try simp only [NM] at h)))
  refine AWP.meet ⟨220, [(0, .v (.one (.ref 1000 0 cs.length))), (1, .v (oI a)), (2, .v (oI m)), (3, .v (oI b)), (4, .v (.one (.clo f [.fz z]))), (18, .v (oI mid)), (19, .v (.one (.int .i64 ((mid : Int) + m)))), (20, .v (oI s0)), (21, .v (oI r0))], [], [(1000, ⟨4, cs.map eChg, []⟩)]⟩ ?_ ?_
  · by_cases hlt : mid < m
    · rw [if_pos hlt] at ei0 ei1
      repeat' (first | ((first | with_reducible refine qV tyOk fun K hK => ?_ | (with_reducible first | refine qG ?_ | refine qH ?_ | refine qP ?_ | refine qGx ?_ | refine qHx ?_ | refine qPx ?_) | ((with_reducible first | refine qS ?_ ?_ | refine qT ?_ ?_ | refine qU ?_ ?_) <;> (intro h; try simp only [NM] at h))) <;> simp -dsimp (disch := (first | omega | (simp only [LN]; omega))) only [go_sem, ↓reduceIte, seval]) | ((with_reducible refine hK _ ?_); clear hK K) | (with_reducible first | refine qA ?_ | refine qB ?_ | refine qC ?_ | refine qD ?_ | refine qE ?_ | refine qF ?_ | refine qL ?_ | refine qM ?_ | refine qN ?_ | refine qO ?_ | refine qQ ?_) | refine qR rfl ?_ | (with_reducible refine AI ?_) | ((with_reducible refine qW (T := TT) (b := ?_) ?_ ?_); rotate_left; exact rfl) | (with_reducible first | refine qX ?_ | refine qY ?_ | refine qZ ?_) | (with_reducible first | refine qI ?_ | refine qIx ?_ | fail) | ((with_reducible refine yS ?_ ?_) <;> (intro h; try simp only [NM] at h)))
      refine St.le_mk ?_ ?_ ?_ <;> simp only [LE, EN, Nat.reduceEqDiff, reduceIte, Nat.reduceSub, ei0, ei1]
    · rw [if_neg hlt] at ei0 ei1
      repeat' (first | ((first | with_reducible refine qV tyOk fun K hK => ?_ | (with_reducible first | refine qG ?_ | refine qH ?_ | refine qP ?_ | refine qGx ?_ | refine qHx ?_ | refine qPx ?_) | ((with_reducible first | refine qS ?_ ?_ | refine qT ?_ ?_ | refine qU ?_ ?_) <;> (intro h; try simp only [NM] at h))) <;> simp -dsimp (disch := (first | omega | (simp only [LN]; omega))) only [go_sem, ↓reduceIte, seval]) | ((with_reducible refine hK _ ?_); clear hK K) | (with_reducible first | refine qA ?_ | refine qB ?_ | refine qC ?_ | refine qD ?_ | refine qE ?_ | refine qF ?_ | refine qL ?_ | refine qM ?_ | refine qN ?_ | refine qO ?_ | refine qQ ?_) | refine qR rfl ?_ | (with_reducible refine AI ?_) | ((with_reducible refine qW (T := TT) (b := ?_) ?_ ?_); rotate_left; exact rfl) | (with_reducible first | refine qX ?_ | refine qY ?_ | refine qZ ?_) | (with_reducible first | refine qI ?_ | refine qIx ?_ | fail) | ((with_reducible refine yS ?_ ?_) <;> (intro h; try simp only [NM] at h)))
      refine St.le_mk ?_ ?_ ?_ <;> simp only [LE, EN, Nat.reduceEqDiff, reduceIte, Nat.reduceSub, ei0, ei1]
  repeat' (first | ((first | with_reducible refine qV tyOk fun K hK => ?_ | (with_reducible first | refine qG ?_ | refine qH ?_ | refine qP ?_ | refine qGx ?_ | refine qHx ?_ | refine qPx ?_) | ((with_reducible first | refine qS ?_ ?_ | refine qT ?_ ?_ | refine qU ?_ ?_) <;> (intro h; try simp only [NM] at h))) <;> simp -dsimp (disch := (first | omega | (simp only [LN]; omega))) only [go_sem, ↓reduceIte, seval]) | ((with_reducible refine hK _ ?_); clear hK K) | (with_reducible first | refine qA ?_ | refine qB ?_ | refine qC ?_ | refine qD ?_ | refine qE ?_ | refine qF ?_ | refine qL ?_ | refine qM ?_ | refine qN ?_ | refine qO ?_ | refine qQ ?_) | refine qR rfl ?_ | (with_reducible refine AI ?_) | ((with_reducible refine qW (T := TT) (b := ?_) ?_ ?_); rotate_left; exact rfl) | (with_reducible first | refine qX ?_ | refine qY ?_ | refine qZ ?_) | (with_reducible first | refine qI ?_ | refine qIx ?_ | fail) | ((with_reducible refine yS ?_ ?_) <;> (intro h; try simp only [NM] at h)))
  refine AWP.loop (ι := {p : Nat × Nat // s0 ≤ p.1 ∧ p.1 ≤ p.2 ∧ p.2 ≤ r0 ∧ bsW (fun x => !lessAt c cs (mid + m - 1 - x) x) p.1 p.2 = s}) (fun p => ⟨220, [(0, .v (.one (.ref 1000 0 cs.length))), (1, .v (oI a)), (2, .v (oI m)), (3, .v (oI b)), (4, .v (.one (.clo f [.fz z]))), (18, .v (oI mid)), (19, .v (.one (.int .i64 ((mid : Int) + m)))), (20, .v (oI p.1.1)), (21, .v (oI p.1.2)), (22, .v (.one (.int .i64 ((mid : Int) + m - 1))))], [], [(1000, ⟨4, cs.map eChg, []⟩)]⟩) (fun p => p.1.2 - p.1.1) ⟨(s0, r0), by simp only; omega, by simp only; omega, by simp only; omega, hs⟩ ?_ fun ⟨(i, j), hi1, hi2, hi3, hI⟩ => ?_
  · refine St.le_mk ?_ ?_ ?_ <;> simp only [LE, EN, Nat.reduceEqDiff, reduceIte, Nat.reduceSub]
  simp only at hi1 hi2 hi3 hI ⊢
  rcases Nat.lt_or_ge i j with h1 | h1
  · obtain ⟨x, hx⟩ : ∃ x, (i + j) / 2 = x := ⟨_, rfl⟩
    have q1 : x < cs.length := by omega
    have q2 : mid + m - 1 - x < cs.length := by have := c6 x (by omega) (by omega); omega
    have hw := half_nat' i j
    rw [hx] at hw
    have cc := hc cs[mid + m - 1 - x] (List.getElem_mem _) cs[x] (List.getElem_mem _)
    have lj := lessAt_eq c q2 q1
    have ex : ((mid : Int) + m - 1 - x).toNat = mid + m - 1 - x := by omega
    have s1 := bsW_t (fun x => !lessAt c cs (mid + m - 1 - x) x) i j h1
    have s2 := bsW_f (fun x => !lessAt c cs (mid + m - 1 - x) x) i j h1
    simp only [hx, Bool.not_eq_true', Bool.not_eq_false'] at s1 s2
    repeat' (first | ((first | with_reducible refine qV tyOk fun K hK => ?_ | (with_reducible first | refine qG ?_ | refine qH ?_ | refine qP ?_ | refine qGx ?_ | refine qHx ?_ | refine qPx ?_) | ((with_reducible first | refine qS ?_ ?_ | refine qT ?_ ?_ | refine qU ?_ ?_) <;> (intro h; try simp only [NM] at h))) <;> simp -dsimp (disch := (first | omega | (simp only [LN]; omega))) only [go_sem, ↓reduceIte, seval, wrap_u64, hw, bits_u64, und_int, und_uint]) | ((with_reducible refine hK _ ?_); clear hK K) | (with_reducible first | refine qA ?_ | refine qB ?_ | refine qC ?_ | refine qD ?_ | refine qE ?_ | refine qF ?_ | refine qL ?_ | refine qM ?_ | refine qN ?_ | refine qO ?_ | refine qQ ?_) | refine qR rfl ?_ | (with_reducible refine AI ?_) | ((with_reducible refine qW (T := TT) (b := ?_) ?_ ?_); rotate_left; exact rfl) | (with_reducible first | refine qX ?_ | refine qY ?_ | refine qZ ?_) | (with_reducible first | refine qI ?_ | refine qIx ?_ | fail) | ((with_reducible refine yS ?_ ?_) <;> (intro h; try simp only [NM] at h)))
    refine AWP.drawX tyOk mixed [(0, 11)] [(11, [(12, 2)], [])] [11] 8 (by decide) (by kernel_rfl) (by kernel_rfl) (by kernel_rfl) (by kernel_rfl) fun K hK => ?_
    simp only [segx_nil, segx_cons, segs, List.drop_succ_cons, List.drop_zero, List.take_succ_cons, List.take_zero, List.getElem?_cons_zero, List.getElem?_cons_succ, List.cons_append, List.nil_append, List.append_nil] at hK ⊢
    simp -dsimp (disch := (first | omega | (simp only [LN]; omega))) only [go_sem, ↓reduceIte, seval, Option.getD_none, ex]
    repeat' (first | ((first | with_reducible refine qV tyOk fun K hK => ?_ | (with_reducible first | refine qG ?_ | refine qH ?_ | refine qP ?_ | refine qGx ?_ | refine qHx ?_ | refine qPx ?_) | ((with_reducible first | refine qS ?_ ?_ | refine qT ?_ ?_ | refine qU ?_ ?_) <;> (intro h; try simp only [NM] at h)) | ((with_reducible refine CallJ.is ?_); (first | refine CallJ.pure (cc) ?_ | ((apply CallJ.lentI); (focus (simp -dsimp (disch := (first | omega | (simp only [LN]; omega))) only [go_sem, ↓reduceIte, seval, Option.getD_none, ex]; rfl)); (focus (first | exact (cc)))))) | ((with_reducible refine CallH.is ?_); (first | refine CallH.intro (cc) ?_))) <;> simp -dsimp (disch := (first | omega | (simp only [LN]; omega))) only [go_sem, ↓reduceIte, seval, Option.getD_none, ex]) | ((with_reducible refine hK _ ?_); clear hK K) | (with_reducible first | refine qA ?_ | refine qB ?_ | refine qC ?_ | refine qD ?_ | refine qE ?_ | refine qF ?_ | refine qL ?_ | refine qM ?_ | refine qN ?_ | refine qO ?_ | refine qQ ?_) | refine qR rfl ?_ | ((with_reducible refine VCy.intro fun K0 hK0 => ?_)) | ((with_reducible refine VCy.fin ?_); (refine hK0 _ ?_); clear hK0 K0) | (with_reducible first | refine VCy.quiet ?_ | refine VCy.none ?_) | ((with_reducible first | refine VCy.some fun K hK => ?_ | refine VCy.step fun K hK => ?_); simp -dsimp (disch := (first | omega | (simp only [LN]; omega))) only [go_sem, ↓reduceIte, seval, Option.getD_none, ex]) | ((with_reducible refine VCy.keep ?_ ?_); focus ((simp -dsimp (disch := (first | omega | (simp only [LN]; omega))) only [go_sem, ↓reduceIte, seval, Stable_cons, Stable_nil, sameA_some, sameA_none, Option.getD_none, ex]); first | done | with_reducible assumption | omega | (repeat' with_reducible refine And.intro ?_ ?_) <;> first | with_reducible rfl | with_reducible assumption | omega)) | (with_reducible refine AI ?_) | ((with_reducible refine qW (T := TT) (b := ?_) ?_ ?_); rotate_left; exact rfl) | (with_reducible first | refine qX ?_ | refine qY ?_ | refine qZ ?_) | (with_reducible first | refine qI ?_ | refine qIx ?_ | fail) | ((with_reducible refine yS ?_ ?_) <;> (intro h; try simp only [NM] at h)))
    · refine ⟨⟨(i, x), hi1, by simp only; omega, by simp only; omega, by rw [← s2 (by rw [lj]; exact decide_eq_true (by omega)), hI]⟩, by simp only; omega, ?_⟩
      refine St.le_mk ?_ ?_ ?_ <;> simp only [LE, EN, Nat.reduceEqDiff, reduceIte, Nat.reduceSub]
    · refine ⟨⟨(x + 1, j), by simp only; omega, by simp only; omega, hi3, by rw [← s1 (by rw [lj]; exact decide_eq_false (by omega)), hI]⟩, by simp only; omega, ?_⟩
      refine St.le_mk ?_ ?_ ?_ <;> simp only [LE, EN, Nat.reduceEqDiff, reduceIte, Nat.reduceSub, Int.natCast_add]
  · rw [bsW_e _ _ _ (by omega)] at hI
    subst hI
    repeat' (first | ((first | ((fail_if_success (refine AWP.isRegion 39 ?_)); (with_reducible refine qV tyOk fun K hK => ?_)) | (with_reducible first | refine qG ?_ | refine qH ?_ | refine qP ?_ | refine qGx ?_ | refine qHx ?_ | refine qPx ?_) | ((with_reducible first | refine qS ?_ ?_ | refine qT ?_ ?_ | refine qU ?_ ?_) <;> (intro h; try simp only [NM] at h))) <;> simp -dsimp (disch := (first | omega | (simp only [LN]; omega))) only [go_sem, ↓reduceIte, seval]) | ((with_reducible refine hK _ ?_); clear hK K) | (with_reducible first | refine qA ?_ | refine qB ?_ | refine qC ?_ | refine qD ?_ | refine qE ?_ | refine qF ?_ | refine qL ?_ | refine qM ?_ | refine qN ?_ | refine qO ?_ | refine qQ ?_) | refine qR rfl ?_ | (with_reducible refine AI ?_) | ((with_reducible refine qW (T := TT) (b := ?_) ?_ ?_); rotate_left; exact rfl) | (with_reducible first | refine qX ?_ | refine qY ?_ | refine qZ ?_) | (with_reducible first | refine qI ?_ | refine qIx ?_ | fail) | ((with_reducible refine yS ?_ ?_) <;> (intro h; try simp only [NM] at h)))
    rw [← hei]
    refine AWP.meet ⟨220, [(0, .v (.one (.ref 1000 0 cs.length))), (1, .v (oI a)), (3, .v (oI b)), (4, .v (.one (.clo f [.fz z]))), (18, .v (oI mid)), (20, .v (oI i)), (24, .v (oI e))], [], [(1000, ⟨4, d1.map eChg, []⟩)]⟩ ?_ ?_
    · by_cases k1 : i < m ∧ m < e
      · have t1 := t1 k1
        rw [if_pos k1] at hd1
        rw [hd1] at t1
        obtain ⟨k1, k1'⟩ := k1
        repeat' (first | ((first | with_reducible refine qV tyOk fun K hK => ?_ | (with_reducible first | refine qG ?_ | refine qH ?_ | refine qP ?_ | refine qGx ?_ | refine qHx ?_ | refine qPx ?_) | ((with_reducible first | refine qS ?_ ?_ | refine qT ?_ ?_ | refine qU ?_ ?_) <;> (intro h; try simp only [NM] at h)) | ((with_reducible refine CallJ.is ?_); refine CallJ.io [] [(1000, 1000)] [] [(1000, 1000)] [] [] [] [1000, 1000] (t1) rfl ⟨rfl, rfl, rfl, rfl⟩ ?_ ?_ ?_; (focus (simp -dsimp (disch := (first | omega | (simp only [LN]; omega))) only [go_sem, ↓reduceIte, seval, dropL_nil, dropL_nil', dropL_cons]; done)); (focus (simp -dsimp (disch := (first | omega | (simp only [LN]; omega))) only [go_sem, ↓reduceIte, seval, dropL_nil, dropL_nil', dropL_cons]; done)))) <;> simp -dsimp (disch := (first | omega | (simp only [LN]; omega))) only [go_sem, ↓reduceIte, seval, dropL_nil, dropL_nil', dropL_cons]) | ((with_reducible refine hK _ ?_); clear hK K) | (with_reducible first | refine qA ?_ | refine qB ?_ | refine qC ?_ | refine qD ?_ | refine qE ?_ | refine qF ?_ | refine qL ?_ | refine qM ?_ | refine qN ?_ | refine qO ?_ | refine qQ ?_) | refine qR rfl ?_ | (with_reducible refine AI ?_) | ((with_reducible refine qW (T := TT) (b := ?_) ?_ ?_); rotate_left; exact rfl) | (with_reducible first | refine qX ?_ | refine qY ?_ | refine qZ ?_) | (with_reducible first | refine qI ?_ | refine qIx ?_ | fail) | ((with_reducible refine yS ?_ ?_) <;> (intro h; try simp only [NM] at h)))
        refine St.le_mk ?_ ?_ ?_ <;> simp only [LE, EN, Nat.reduceEqDiff, reduceIte, Nat.reduceSub]
      · rw [if_neg k1] at hd1
        rw [← hd1]
        repeat' (first | ((first | with_reducible refine qV tyOk fun K hK => ?_ | (with_reducible first | refine qG ?_ | refine qH ?_ | refine qP ?_ | refine qGx ?_ | refine qHx ?_ | refine qPx ?_) | ((with_reducible first | refine qS ?_ ?_ | refine qT ?_ ?_ | refine qU ?_ ?_) <;> (intro h; try simp only [NM] at h))) <;> simp -dsimp (disch := (first | omega | (simp only [LN]; omega))) only [go_sem, ↓reduceIte, seval]) | ((with_reducible refine hK _ ?_); clear hK K) | (with_reducible first | refine qA ?_ | refine qB ?_ | refine qC ?_ | refine qD ?_ | refine qE ?_ | refine qF ?_ | refine qL ?_ | refine qM ?_ | refine qN ?_ | refine qO ?_ | refine qQ ?_) | refine qR rfl ?_ | (with_reducible refine AI ?_) | ((with_reducible refine qW (T := TT) (b := ?_) ?_ ?_); rotate_left; exact rfl) | (with_reducible first | refine qX ?_ | refine qY ?_ | refine qZ ?_) | (with_reducible first | refine qI ?_ | refine qIx ?_ | fail) | ((with_reducible refine yS ?_ ?_) <;> (intro h; try simp only [NM] at h)))
        all_goals first | (exfalso; omega) | skip
        all_goals refine St.le_mk ?_ ?_ ?_ <;> simp only [LE, EN, Nat.reduceEqDiff, reduceIte, Nat.reduceSub]
    repeat with_reducible refine qA ?_
    refine AWP.meet ⟨220, [(0, .v (.one (.ref 1000 0 cs.length))), (3, .v (oI b)), (4, .v (.one (.clo f [.fz z]))), (18, .v (oI mid)), (24, .v (oI e))], [], [(1000, ⟨4, d2.map eChg, []⟩)]⟩ ?_ ?_
    · by_cases k1 : a < i ∧ i < mid
      · have t1 := t2 k1
        rw [if_pos k1] at hd2
        rw [hd2] at t1
        obtain ⟨k1, k1'⟩ := k1
        repeat' (first | ((first | with_reducible refine qV tyOk fun K hK => ?_ | (with_reducible first | refine qG ?_ | refine qH ?_ | refine qP ?_ | refine qGx ?_ | refine qHx ?_ | refine qPx ?_) | ((with_reducible first | refine qS ?_ ?_ | refine qT ?_ ?_ | refine qU ?_ ?_) <;> (intro h; try simp only [NM] at h)) | ((with_reducible refine CallJ.is ?_); refine CallJ.io [] [(1000, 1000)] [] [(1000, 1000)] [] [] [] [1000, 1000] (t1) rfl ⟨rfl, rfl, rfl, rfl⟩ ?_ ?_ ?_; (focus (simp -dsimp (disch := (first | omega | (simp only [LN]; omega))) only [go_sem, ↓reduceIte, seval, dropL_nil, dropL_nil', dropL_cons]; done)); (focus (simp -dsimp (disch := (first | omega | (simp only [LN]; omega))) only [go_sem, ↓reduceIte, seval, dropL_nil, dropL_nil', dropL_cons]; done)))) <;> simp -dsimp (disch := (first | omega | (simp only [LN]; omega))) only [go_sem, ↓reduceIte, seval, dropL_nil, dropL_nil', dropL_cons]) | ((with_reducible refine hK _ ?_); clear hK K) | (with_reducible first | refine qA ?_ | refine qB ?_ | refine qC ?_ | refine qD ?_ | refine qE ?_ | refine qF ?_ | refine qL ?_ | refine qM ?_ | refine qN ?_ | refine qO ?_ | refine qQ ?_) | refine qR rfl ?_ | (with_reducible refine AI ?_) | ((with_reducible refine qW (T := TT) (b := ?_) ?_ ?_); rotate_left; exact rfl) | (with_reducible first | refine qX ?_ | refine qY ?_ | refine qZ ?_) | (with_reducible first | refine qI ?_ | refine qIx ?_ | fail) | ((with_reducible refine yS ?_ ?_) <;> (intro h; try simp only [NM] at h)))
        refine St.le_mk ?_ ?_ ?_ <;> simp only [LE, EN, Nat.reduceEqDiff, reduceIte, Nat.reduceSub]
      · rw [if_neg k1] at hd2
        rw [← hd2]
        repeat' (first | ((first | with_reducible refine qV tyOk fun K hK => ?_ | (with_reducible first | refine qG ?_ | refine qH ?_ | refine qP ?_ | refine qGx ?_ | refine qHx ?_ | refine qPx ?_) | ((with_reducible first | refine qS ?_ ?_ | refine qT ?_ ?_ | refine qU ?_ ?_) <;> (intro h; try simp only [NM] at h))) <;> simp -dsimp (disch := (first | omega | (simp only [LN]; omega))) only [go_sem, ↓reduceIte, seval]) | ((with_reducible refine hK _ ?_); clear hK K) | (with_reducible first | refine qA ?_ | refine qB ?_ | refine qC ?_ | refine qD ?_ | refine qE ?_ | refine qF ?_ | refine qL ?_ | refine qM ?_ | refine qN ?_ | refine qO ?_ | refine qQ ?_) | refine qR rfl ?_ | (with_reducible refine AI ?_) | ((with_reducible refine qW (T := TT) (b := ?_) ?_ ?_); rotate_left; exact rfl) | (with_reducible first | refine qX ?_ | refine qY ?_ | refine qZ ?_) | (with_reducible first | refine qI ?_ | refine qIx ?_ | fail) | ((with_reducible refine yS ?_ ?_) <;> (intro h; try simp only [NM] at h)))
        all_goals first | (exfalso; omega) | skip
        all_goals refine St.le_mk ?_ ?_ ?_ <;> simp only [LE, EN, Nat.reduceEqDiff, reduceIte, Nat.reduceSub]
    by_cases k1 : mid < e ∧ e < b
    · have t1 := t3 k1
      rw [if_pos k1] at hd3
      rw [hd3] at t1
      obtain ⟨k1, k1'⟩ := k1
      repeat' (first | ((first | with_reducible refine qV tyOk fun K hK => ?_ | (with_reducible first | refine qG ?_ | refine qH ?_ | refine qP ?_ | refine qGx ?_ | refine qHx ?_ | refine qPx ?_) | ((with_reducible first | refine qS ?_ ?_ | refine qT ?_ ?_ | refine qU ?_ ?_) <;> (intro h; try simp only [NM] at h)) | ((with_reducible refine CallJ.is ?_); refine CallJ.io [] [(1000, 1000)] [] [(1000, 1000)] [] [] [] [1000, 1000] (t1) rfl ⟨rfl, rfl, rfl, rfl⟩ ?_ ?_ ?_; (focus (simp -dsimp (disch := (first | omega | (simp only [LN]; omega))) only [go_sem, ↓reduceIte, seval, dropL_nil, dropL_nil', dropL_cons]; done)); (focus (simp -dsimp (disch := (first | omega | (simp only [LN]; omega))) only [go_sem, ↓reduceIte, seval, dropL_nil, dropL_nil', dropL_cons]; done)))) <;> simp -dsimp (disch := (first | omega | (simp only [LN]; omega))) only [go_sem, ↓reduceIte, seval, dropL_nil, dropL_nil', dropL_cons]) | ((with_reducible refine hK _ ?_); clear hK K) | (with_reducible first | refine qA ?_ | refine qB ?_ | refine qC ?_ | refine qD ?_ | refine qE ?_ | refine qF ?_ | refine qL ?_ | refine qM ?_ | refine qN ?_ | refine qO ?_ | refine qQ ?_) | refine qR rfl ?_ | (with_reducible refine AI ?_) | ((with_reducible refine qW (T := TT) (b := ?_) ?_ ?_); rotate_left; exact rfl) | (with_reducible first | refine qX ?_ | refine qY ?_ | refine qZ ?_) | (with_reducible first | refine qI ?_ | refine qIx ?_ | fail) | ((with_reducible refine yS ?_ ?_) <;> (intro h; try simp only [NM] at h)))
      simp -dsimp (disch := (first | omega | (simp only [LN]; omega))) only [retQ, Tryz.results99, resVals, cellRV, resOf, St.rest, St.freeze, RT, go_sem, ↓reduceIte, seval]
    · rw [if_neg k1] at hd3
      rw [← hd3]
      repeat' (first | ((first | with_reducible refine qV tyOk fun K hK => ?_ | (with_reducible first | refine qG ?_ | refine qH ?_ | refine qP ?_ | refine qGx ?_ | refine qHx ?_ | refine qPx ?_) | ((with_reducible first | refine qS ?_ ?_ | refine qT ?_ ?_ | refine qU ?_ ?_) <;> (intro h; try simp only [NM] at h))) <;> simp -dsimp (disch := (first | omega | (simp only [LN]; omega))) only [go_sem, ↓reduceIte, seval]) | ((with_reducible refine hK _ ?_); clear hK K) | (with_reducible first | refine qA ?_ | refine qB ?_ | refine qC ?_ | refine qD ?_ | refine qE ?_ | refine qF ?_ | refine qL ?_ | refine qM ?_ | refine qN ?_ | refine qO ?_ | refine qQ ?_) | refine qR rfl ?_ | (with_reducible refine AI ?_) | ((with_reducible refine qW (T := TT) (b := ?_) ?_ ?_); rotate_left; exact rfl) | (with_reducible first | refine qX ?_ | refine qY ?_ | refine qZ ?_) | (with_reducible first | refine qI ?_ | refine qIx ?_ | fail) | ((with_reducible refine yS ?_ ?_) <;> (intro h; try simp only [NM] at h)))
      all_goals first | (exfalso; omega) | skip
      all_goals simp -dsimp (disch := (first | omega | (simp only [LN]; omega))) only [retQ, Tryz.results99, resVals, cellRV, resOf, St.rest, St.freeze, RT, go_sem, ↓reduceIte, seval]
theorem symMerge_satM (f : FuncId) (z : List L) (c : Chg → Chg → Int) : ∀ (n : Nat) (cs : List Chg) (_ : CmpC Tryz.prog f (.fz z) c cs) (a m b : Nat) (_ : a < m) (_ : m < b) (_ : b ≤ cs.length) (_ : b - a ≤ n) (_ : cs.length ≤ 140737488355328),
    SatM Tryz.prog 99 [.one (.ref 1000 0 cs.length), oI a, oI m, oI b, .one (.clo f [.fz z])] [] (rowC cs) (.tup []) [] (rowC (symF c n cs a m b))
  | 0, cs, hc, a, m, b, ha, hm, hb, hn, hl => by omega
  | n + 1, cs, hc, a, m, b, ha, hm, hb, hn, hl => by
    by_cases g1 : m - a = 1
    · rw [symF, if_pos g1]
      exact symMergeA f z c cs hc a m b ha hm hb hl g1
    · by_cases g2 : b - m = 1
      · rw [symF, if_neg g1, if_pos g2]
        exact symMergeB f z c cs hc a m b ha hm hb hl g1 g2
      · refine symMergeC f z c n cs hc a m b ha hm hb hn hl g1 g2 fun ds hp a m b ha hm hb hn => ?_
        have := symMerge_satM f z c n ds (hc.perm hp) a m b ha hm (hp.length_eq ▸ hb) hn (hp.length_eq ▸ hl)
        rw [hp.length_eq] at this
        exact this
end

theorem blkW_t (c : Chg → Chg → Int) (N a : Nat) (ds : List Chg) (h : a + 20 ≤ N) : blkW c N a ds = blkW c N (a + 20) (insS c a (a + 20) ds) := by
  rw [blkW, if_pos h]
theorem blkW_f (c : Chg → Chg → Int) (N a : Nat) (ds : List Chg) (h : ¬ a + 20 ≤ N) : blkW c N a ds = insS c a N ds := by
  rw [blkW, if_neg h]
theorem mrgW_t (c : Chg → Chg → Int) (N k a : Nat) (ds : List Chg) (h0 : 0 < k) (h : a + 2 * k ≤ N) : mrgW c N k a ds = mrgW c N k (a + 2 * k) (symF c N ds a (a + k) (a + 2 * k)) := by
  rw [mrgW, dif_pos ⟨h0, h⟩]
theorem mrgW_m (c : Chg → Chg → Int) (N k a : Nat) (ds : List Chg) (h : ¬ a + 2 * k ≤ N) (h2 : a + k < N) : mrgW c N k a ds = symF c N ds a (a + k) N := by
  rw [mrgW, dif_neg fun x => h x.2, if_pos h2]
theorem mrgW_f (c : Chg → Chg → Int) (N k a : Nat) (ds : List Chg) (h : ¬ a + 2 * k ≤ N) (h2 : ¬ a + k < N) : mrgW c N k a ds = ds := by
  rw [mrgW, dif_neg fun x => h x.2, if_neg h2]
theorem stW_t (c : Chg → Chg → Int) (N k : Nat) (ds : List Chg) (h0 : 0 < k) (h : k < N) : stW c N k ds = stW c N (2 * k) (mrgW c N k 0 ds) := by
  rw [stW, dif_pos ⟨h0, h⟩]
theorem stW_f (c : Chg → Chg → Int) (N k : Nat) (ds : List Chg) (h : ¬ k < N) : stW c N k ds = ds := by
  rw [stW, dif_neg fun x => h x.2]
set_option maxHeartbeats 32000000 in
theorem stable_satM (f : FuncId) (z : List L) (c : Chg → Chg → Int) (cs : List Chg) (hc : CmpC Tryz.prog f (.fz z) c cs) (hl : cs.length ≤ 140737488355328) :
    SatM Tryz.prog 85 [.one (.ref 1000 0 cs.length), oI cs.length, .one (.clo f [.fz z])] [] (rowC cs) (.tup []) [] (rowC (stableF c cs)) := by
  have ins := fun (ds : List Chg) (hp : ds.Perm cs) (a b : Nat) (ha : a ≤ cs.length) (hb : b ≤ cs.length) => insertionSort_satM ds f (.fz z) c (hc.perm hp) a b (by rw [hp.length_eq]; exact hb) (by rw [hp.length_eq]; exact ha) (by rw [hp.length_eq]; exact hl)
  have sym := fun (ds : List Chg) (hp : ds.Perm cs) (a m b : Nat) (ha : a < m) (hm : m < b) (hb : b ≤ cs.length) => symMerge_satM f z c cs.length ds (hc.perm hp) a m b ha hm (by rw [hp.length_eq]; exact hb) (by omega) (by rw [hp.length_eq]; exact hl)
  unfold stableF
  unfold rowC at ins sym ⊢
  refine satM_of_body tyOk [] [1000] Tryz.func85 rfl (by kernel_rfl) ⟨Nat.le_of_ble_eq_true rfl, Nat.le_of_ble_eq_true rfl⟩ fun w0 m0 F0 => ?_
  simp only [Tryz.ntmps85, envOf, Nat.reduceAdd]
  repeat' (first | ((first | with_reducible refine qV tyOk fun K hK => ?_ | (with_reducible first | refine qG ?_ | refine qH ?_ | refine qP ?_ | refine qGx ?_ | refine qHx ?_ | refine qPx ?_) | ((with_reducible first | refine qS ?_ ?_ | refine qT ?_ ?_ | refine qU ?_ ?_) <;> (intro h; try simp only [NM] at h))) <;> simp -dsimp (disch := (first | omega | (simp only [LN]; omega))) only [go_sem, ↓reduceIte, seval]) | ((with_reducible refine hK _ ?_); clear hK K) | (with_reducible first | refine qA ?_ | refine qB ?_ | refine qC ?_ | refine qD ?_ | refine qE ?_ | refine qF ?_ | refine qL ?_ | refine qM ?_ | refine qN ?_ | refine qO ?_ | refine qQ ?_) | refine qR rfl ?_ | (with_reducible refine AI ?_) | ((with_reducible refine qW (T := TT) (b := ?_) ?_ ?_); rotate_left; exact rfl) | (with_reducible first | refine qX ?_ | refine qY ?_ | refine qZ ?_) | (with_reducible first | refine qI ?_ | refine qIx ?_ | fail) | ((with_reducible refine yS ?_ ?_) <;> (intro h; try simp only [NM] at h)))
  refine AWP.loop (ι := {p : Nat × List Chg // p.1 ≤ cs.length ∧ p.2.Perm cs ∧ blkW c cs.length p.1 p.2 = blkW c cs.length 0 cs}) (fun p => ⟨63, [(0, .v (.one (.ref 1000 0 cs.length))), (1, .v (oI cs.length)), (2, .v (.one (.clo f [.fz z]))), (6, .v (oI 20)), (7, .v (oI p.1.1)), (8, .v (.one (.int .i64 ((p.1.1 : Int) + 20))))], [], [(1000, ⟨4, p.1.2.map eChg, []⟩)]⟩) (fun p => cs.length - p.1.1) ⟨(0, cs), Nat.zero_le _, .refl _, rfl⟩ ?_ fun ⟨(a, ds), ha, hp, hI⟩ => ?_
  · refine St.le_mk ?_ ?_ ?_ <;> simp only [LE, EN, Nat.reduceEqDiff, reduceIte, Nat.reduceSub, Int.natCast_zero, Int.zero_add]
  simp only at ha hp hI ⊢
  have hd := hp.length_eq
  by_cases h1 : a + 20 ≤ cs.length
  · have s1 := ins ds hp a (a + 20) ha h1
    have e1 : ((a + 20 : Nat) : Int) = (a : Int) + 20 := by omega
    rw [e1, hd] at s1
    rw [blkW_t c _ _ _ h1] at hI
    repeat' (first | ((first | with_reducible refine qV tyOk fun K hK => ?_ | (with_reducible first | refine qG ?_ | refine qH ?_ | refine qP ?_ | refine qGx ?_ | refine qHx ?_ | refine qPx ?_) | ((with_reducible first | refine qS ?_ ?_ | refine qT ?_ ?_ | refine qU ?_ ?_) <;> (intro h; try simp only [NM] at h)) | ((with_reducible refine CallJ.is ?_); refine CallJ.io [] [(1000, 1000)] [] [(1000, 1000)] [] [] [] [1000, 1000] (s1) rfl ⟨rfl, rfl, rfl, rfl⟩ ?_ ?_ ?_; (focus (simp -dsimp (disch := (first | omega | (simp only [LN]; omega))) only [go_sem, ↓reduceIte, seval, dropL_nil, dropL_nil', dropL_cons]; done)); (focus (simp -dsimp (disch := (first | omega | (simp only [LN]; omega))) only [go_sem, ↓reduceIte, seval, dropL_nil, dropL_nil', dropL_cons]; done)))) <;> simp -dsimp (disch := (first | omega | (simp only [LN]; omega))) only [go_sem, ↓reduceIte, seval, dropL_nil, dropL_nil', dropL_cons]) | ((with_reducible refine hK _ ?_); clear hK K) | (with_reducible first | refine qA ?_ | refine qB ?_ | refine qC ?_ | refine qD ?_ | refine qE ?_ | refine qF ?_ | refine qL ?_ | refine qM ?_ | refine qN ?_ | refine qO ?_ | refine qQ ?_) | refine qR rfl ?_ | (with_reducible refine AI ?_) | ((with_reducible refine qW (T := TT) (b := ?_) ?_ ?_); rotate_left; exact rfl) | (with_reducible first | refine qX ?_ | refine qY ?_ | refine qZ ?_) | (with_reducible first | refine qI ?_ | refine qIx ?_ | fail) | ((with_reducible refine yS ?_ ?_) <;> (intro h; try simp only [NM] at h)))
    refine ⟨⟨(a + 20, insS c a (a + 20) ds), h1, (insS_perm c _ _ _).trans hp, hI⟩, by simp only; omega, ?_⟩
    refine St.le_mk ?_ ?_ ?_ <;> simp only [LE, EN, Nat.reduceEqDiff, reduceIte, Nat.reduceSub, e1]
  · have s1 := ins ds hp a cs.length ha (Nat.le_refl _)
    rw [hd] at s1
    rw [blkW_f c _ _ _ h1] at hI
    repeat' (first | ((first | with_reducible refine qV tyOk fun K hK => ?_ | (with_reducible first | refine qG ?_ | refine qH ?_ | refine qP ?_ | refine qGx ?_ | refine qHx ?_ | refine qPx ?_) | ((with_reducible first | refine qS ?_ ?_ | refine qT ?_ ?_ | refine qU ?_ ?_) <;> (intro h; try simp only [NM] at h)) | ((with_reducible refine CallJ.is ?_); refine CallJ.io [] [(1000, 1000)] [] [(1000, 1000)] [] [] [] [1000, 1000] (s1) rfl ⟨rfl, rfl, rfl, rfl⟩ ?_ ?_ ?_; (focus (simp -dsimp (disch := (first | omega | (simp only [LN]; omega))) only [go_sem, ↓reduceIte, seval, dropL_nil, dropL_nil', dropL_cons]; done)); (focus (simp -dsimp (disch := (first | omega | (simp only [LN]; omega))) only [go_sem, ↓reduceIte, seval, dropL_nil, dropL_nil', dropL_cons]; done)))) <;> simp -dsimp (disch := (first | omega | (simp only [LN]; omega))) only [go_sem, ↓reduceIte, seval, dropL_nil, dropL_nil', dropL_cons]) | ((with_reducible refine hK _ ?_); clear hK K) | (with_reducible first | refine qA ?_ | refine qB ?_ | refine qC ?_ | refine qD ?_ | refine qE ?_ | refine qF ?_ | refine qL ?_ | refine qM ?_ | refine qN ?_ | refine qO ?_ | refine qQ ?_) | refine qR rfl ?_ | (with_reducible refine AI ?_) | ((with_reducible refine qW (T := TT) (b := ?_) ?_ ?_); rotate_left; exact rfl) | (with_reducible first | refine qX ?_ | refine qY ?_ | refine qZ ?_) | (with_reducible first | refine qI ?_ | refine qIx ?_ | fail) | ((with_reducible refine yS ?_ ?_) <;> (intro h; try simp only [NM] at h)))
    have hp2 := (insS_perm c a cs.length ds).trans hp
    rw [hI] at hp2
    rw [hI]
    refine AWP.loop (ι := {p : Nat × List Chg // 20 ≤ p.1 ∧ p.1 ≤ 2 * cs.length + 20 ∧ p.2.Perm cs ∧ stW c cs.length p.1 p.2 = stW c cs.length 20 (blkW c cs.length 0 cs)}) (fun p => ⟨63, [(0, .v (.one (.ref 1000 0 cs.length))), (1, .v (oI cs.length)), (2, .v (.one (.clo f [.fz z]))), (6, .v (oI p.1.1))], [], [(1000, ⟨4, p.1.2.map eChg, []⟩)]⟩) (fun p => 2 * cs.length + 21 - p.1.1) ⟨(20, blkW c cs.length 0 cs), Nat.le_refl _, by simp only; omega, hp2, rfl⟩ ?_ fun ⟨(k, es), hk1, hk2, hq, hK⟩ => ?_
    · have e20 : ((20 : Nat) : Int) = 20 := rfl
      refine St.le_mk ?_ ?_ ?_ <;> simp only [LE, EN, Nat.reduceEqDiff, reduceIte, Nat.reduceSub, e20]
    simp only at hk1 hk2 hq hK ⊢
    by_cases h2 : k < cs.length
    · rw [stW_t c _ _ _ (by omega) h2] at hK
      repeat' (first | ((first | with_reducible refine qV tyOk fun K hK => ?_ | (with_reducible first | refine qG ?_ | refine qH ?_ | refine qP ?_ | refine qGx ?_ | refine qHx ?_ | refine qPx ?_) | ((with_reducible first | refine qS ?_ ?_ | refine qT ?_ ?_ | refine qU ?_ ?_) <;> (intro h; try simp only [NM] at h))) <;> simp -dsimp (disch := (first | omega | (simp only [LN]; omega))) only [go_sem, ↓reduceIte, seval]) | ((with_reducible refine hK _ ?_); clear hK K) | (with_reducible first | refine qA ?_ | refine qB ?_ | refine qC ?_ | refine qD ?_ | refine qE ?_ | refine qF ?_ | refine qL ?_ | refine qM ?_ | refine qN ?_ | refine qO ?_ | refine qQ ?_) | refine qR rfl ?_ | (with_reducible refine AI ?_) | ((with_reducible refine qW (T := TT) (b := ?_) ?_ ?_); rotate_left; exact rfl) | (with_reducible first | refine qX ?_ | refine qY ?_ | refine qZ ?_) | (with_reducible first | refine qI ?_ | refine qIx ?_ | fail) | ((with_reducible refine yS ?_ ?_) <;> (intro h; try simp only [NM] at h)))
      refine AWP.loop (ι := {p : Nat × List Chg // p.1 ≤ cs.length ∧ p.2.Perm cs ∧ mrgW c cs.length k p.1 p.2 = mrgW c cs.length k 0 es}) (fun p => ⟨63, [(0, .v (.one (.ref 1000 0 cs.length))), (1, .v (oI cs.length)), (2, .v (.one (.clo f [.fz z]))), (6, .v (oI k)), (7, .v (oI p.1.1)), (8, .v (.one (.int .i64 ((p.1.1 : Int) + 2 * k))))], [], [(1000, ⟨4, p.1.2.map eChg, []⟩)]⟩) (fun p => cs.length - p.1.1) ⟨(0, es), Nat.zero_le _, hq, rfl⟩ ?_ fun ⟨(a, gs), ha, hg, hG⟩ => ?_
      · refine St.le_mk ?_ ?_ ?_ <;> simp only [LE, EN, Nat.reduceEqDiff, reduceIte, Nat.reduceSub, Int.natCast_zero, Int.zero_add]
      simp only at ha hg hG ⊢
      have hgl := hg.length_eq
      by_cases h3 : a + 2 * k ≤ cs.length
      · have s1 := sym gs hg a (a + k) (a + 2 * k) (by omega) (by omega) h3
        have e1 : ((a + k : Nat) : Int) = (a : Int) + k := by omega
        have e2 : ((a + 2 * k : Nat) : Int) = (a : Int) + 2 * k := by omega
        rw [e1, e2, hgl] at s1
        rw [mrgW_t c _ _ _ _ (by omega) h3] at hG
        repeat' (first | ((first | with_reducible refine qV tyOk fun K hK => ?_ | (with_reducible first | refine qG ?_ | refine qH ?_ | refine qP ?_ | refine qGx ?_ | refine qHx ?_ | refine qPx ?_) | ((with_reducible first | refine qS ?_ ?_ | refine qT ?_ ?_ | refine qU ?_ ?_) <;> (intro h; try simp only [NM] at h)) | ((with_reducible refine CallJ.is ?_); refine CallJ.io [] [(1000, 1000)] [] [(1000, 1000)] [] [] [] [1000, 1000] (s1) rfl ⟨rfl, rfl, rfl, rfl⟩ ?_ ?_ ?_; (focus (simp -dsimp (disch := (first | omega | (simp only [LN]; omega))) only [go_sem, ↓reduceIte, seval, dropL_nil, dropL_nil', dropL_cons]; done)); (focus (simp -dsimp (disch := (first | omega | (simp only [LN]; omega))) only [go_sem, ↓reduceIte, seval, dropL_nil, dropL_nil', dropL_cons]; done)))) <;> simp -dsimp (disch := (first | omega | (simp only [LN]; omega))) only [go_sem, ↓reduceIte, seval, dropL_nil, dropL_nil', dropL_cons]) | ((with_reducible refine hK _ ?_); clear hK K) | (with_reducible first | refine qA ?_ | refine qB ?_ | refine qC ?_ | refine qD ?_ | refine qE ?_ | refine qF ?_ | refine qL ?_ | refine qM ?_ | refine qN ?_ | refine qO ?_ | refine qQ ?_) | refine qR rfl ?_ | (with_reducible refine AI ?_) | ((with_reducible refine qW (T := TT) (b := ?_) ?_ ?_); rotate_left; exact rfl) | (with_reducible first | refine qX ?_ | refine qY ?_ | refine qZ ?_) | (with_reducible first | refine qI ?_ | refine qIx ?_ | fail) | ((with_reducible refine yS ?_ ?_) <;> (intro h; try simp only [NM] at h)))
        refine ⟨⟨(a + 2 * k, symF c cs.length gs a (a + k) (a + 2 * k)), h3, (symF_perm c _ _ _ _ _).trans hg, hG⟩, by simp only; omega, ?_⟩
        refine St.le_mk ?_ ?_ ?_ <;> simp only [LE, EN, Nat.reduceEqDiff, reduceIte, Nat.reduceSub, e2]
      · by_cases h4 : a + k < cs.length
        · have s1 := sym gs hg a (a + k) cs.length (by omega) h4 (Nat.le_refl _)
          have e1 : ((a + k : Nat) : Int) = (a : Int) + k := by omega
          rw [e1, hgl] at s1
          rw [mrgW_m c _ _ _ _ h3 h4] at hG
          have hp3 := (symF_perm c cs.length gs a (a + k) cs.length).trans hg
          rw [hG] at hp3
          repeat' (first | ((first | with_reducible refine qV tyOk fun K hK => ?_ | (with_reducible first | refine qG ?_ | refine qH ?_ | refine qP ?_ | refine qGx ?_ | refine qHx ?_ | refine qPx ?_) | ((with_reducible first | refine qS ?_ ?_ | refine qT ?_ ?_ | refine qU ?_ ?_) <;> (intro h; try simp only [NM] at h)) | ((with_reducible refine CallJ.is ?_); refine CallJ.io [] [(1000, 1000)] [] [(1000, 1000)] [] [] [] [1000, 1000] (s1) rfl ⟨rfl, rfl, rfl, rfl⟩ ?_ ?_ ?_; (focus (simp -dsimp (disch := (first | omega | (simp only [LN]; omega))) only [go_sem, ↓reduceIte, seval, dropL_nil, dropL_nil', dropL_cons]; done)); (focus (simp -dsimp (disch := (first | omega | (simp only [LN]; omega))) only [go_sem, ↓reduceIte, seval, dropL_nil, dropL_nil', dropL_cons]; done)))) <;> simp -dsimp (disch := (first | omega | (simp only [LN]; omega))) only [go_sem, ↓reduceIte, seval, dropL_nil, dropL_nil', dropL_cons]) | ((with_reducible refine hK _ ?_); clear hK K) | (with_reducible first | refine qA ?_ | refine qB ?_ | refine qC ?_ | refine qD ?_ | refine qE ?_ | refine qF ?_ | refine qL ?_ | refine qM ?_ | refine qN ?_ | refine qO ?_ | refine qQ ?_) | refine qR rfl ?_ | (with_reducible refine AI ?_) | ((with_reducible refine qW (T := TT) (b := ?_) ?_ ?_); rotate_left; exact rfl) | (with_reducible first | refine qX ?_ | refine qY ?_ | refine qZ ?_) | (with_reducible first | refine qI ?_ | refine qIx ?_ | fail) | ((with_reducible refine yS ?_ ?_) <;> (intro h; try simp only [NM] at h)))
          rw [hG]
          refine ⟨⟨(2 * k, mrgW c cs.length k 0 es), by simp only; omega, by simp only; omega, hp3, hK⟩, by simp only; omega, ?_⟩
          have e3 : ((2 * k : Nat) : Int) = (k : Int) * 2 := by omega
          refine St.le_mk ?_ ?_ ?_ <;> simp only [LE, EN, Nat.reduceEqDiff, reduceIte, Nat.reduceSub, e3]
        · rw [mrgW_f c _ _ _ _ h3 h4] at hG
          repeat' (first | ((first | with_reducible refine qV tyOk fun K hK => ?_ | (with_reducible first | refine qG ?_ | refine qH ?_ | refine qP ?_ | refine qGx ?_ | refine qHx ?_ | refine qPx ?_) | ((with_reducible first | refine qS ?_ ?_ | refine qT ?_ ?_ | refine qU ?_ ?_) <;> (intro h; try simp only [NM] at h))) <;> simp -dsimp (disch := (first | omega | (simp only [LN]; omega))) only [go_sem, ↓reduceIte, seval]) | ((with_reducible refine hK _ ?_); clear hK K) | (with_reducible first | refine qA ?_ | refine qB ?_ | refine qC ?_ | refine qD ?_ | refine qE ?_ | refine qF ?_ | refine qL ?_ | refine qM ?_ | refine qN ?_ | refine qO ?_ | refine qQ ?_) | refine qR rfl ?_ | (with_reducible refine AI ?_) | ((with_reducible refine qW (T := TT) (b := ?_) ?_ ?_); rotate_left; exact rfl) | (with_reducible first | refine qX ?_ | refine qY ?_ | refine qZ ?_) | (with_reducible first | refine qI ?_ | refine qIx ?_ | fail) | ((with_reducible refine yS ?_ ?_) <;> (intro h; try simp only [NM] at h)))
          refine ⟨⟨(2 * k, gs), by simp only; omega, by simp only; omega, hg, by rw [hG]; exact hK⟩, by simp only; omega, ?_⟩
          have e3 : ((2 * k : Nat) : Int) = (k : Int) * 2 := by omega
          refine St.le_mk ?_ ?_ ?_ <;> simp only [LE, EN, Nat.reduceEqDiff, reduceIte, Nat.reduceSub, e3]
    · rw [stW_f c _ _ _ h2] at hK
      repeat' (first | ((first | with_reducible refine qV tyOk fun K hK => ?_ | (with_reducible first | refine qG ?_ | refine qH ?_ | refine qP ?_ | refine qGx ?_ | refine qHx ?_ | refine qPx ?_) | ((with_reducible first | refine qS ?_ ?_ | refine qT ?_ ?_ | refine qU ?_ ?_) <;> (intro h; try simp only [NM] at h))) <;> simp -dsimp (disch := (first | omega | (simp only [LN]; omega))) only [go_sem, ↓reduceIte, seval]) | ((with_reducible refine hK _ ?_); clear hK K) | (with_reducible first | refine qA ?_ | refine qB ?_ | refine qC ?_ | refine qD ?_ | refine qE ?_ | refine qF ?_ | refine qL ?_ | refine qM ?_ | refine qN ?_ | refine qO ?_ | refine qQ ?_) | refine qR rfl ?_ | (with_reducible refine AI ?_) | ((with_reducible refine qW (T := TT) (b := ?_) ?_ ?_); rotate_left; exact rfl) | (with_reducible first | refine qX ?_ | refine qY ?_ | refine qZ ?_) | (with_reducible first | refine qI ?_ | refine qIx ?_ | fail) | ((with_reducible refine yS ?_ ?_) <;> (intro h; try simp only [NM] at h)))
      simp -dsimp (disch := (first | omega | (simp only [LN]; omega))) only [retQ, Tryz.results85, resVals, cellRV, resOf, St.rest, St.freeze, RT, go_sem, ↓reduceIte, seval]
      rw [hK]
theorem sortStable_satM (f : FuncId) (z : List L) (c : Chg → Chg → Int) (cs : List Chg) (hc : CmpC Tryz.prog f (.fz z) c cs) (hl : cs.length ≤ 140737488355328) :
    SatM Tryz.prog 57 [.one (.ref 1000 0 cs.length), .one (.clo f [.fz z])] [] (rowC cs) (.tup []) [] (rowC (stableF c cs)) := by
  have s1 := stable_satM f z c cs hc hl
  unfold rowC at s1 ⊢
  refine satM_of_body tyOk [] [1000] Tryz.func57 rfl (by kernel_rfl) ⟨Nat.le_of_ble_eq_true rfl, Nat.le_of_ble_eq_true rfl⟩ fun w0 m0 F0 => ?_
  simp only [Tryz.ntmps57, envOf, Nat.reduceAdd]
  repeat' (first | ((first | with_reducible refine qV tyOk fun K hK => ?_ | (with_reducible first | refine qG ?_ | refine qH ?_ | refine qP ?_ | refine qGx ?_ | refine qHx ?_ | refine qPx ?_) | ((with_reducible first | refine qS ?_ ?_ | refine qT ?_ ?_ | refine qU ?_ ?_) <;> (intro h; try simp only [NM] at h)) | ((with_reducible refine CallJ.is ?_); refine CallJ.io [] [(1000, 1000)] [] [(1000, 1000)] [] [] [] [1000, 1000] (s1) rfl ⟨rfl, rfl, rfl, rfl⟩ ?_ ?_ ?_; (focus (simp -dsimp (disch := (first | omega | (simp only [LN]; omega))) only [go_sem, ↓reduceIte, seval, dropL_nil, dropL_nil', dropL_cons]; done)); (focus (simp -dsimp (disch := (first | omega | (simp only [LN]; omega))) only [go_sem, ↓reduceIte, seval, dropL_nil, dropL_nil', dropL_cons]; done)))) <;> simp -dsimp (disch := (first | omega | (simp only [LN]; omega))) only [go_sem, ↓reduceIte, seval, dropL_nil, dropL_nil', dropL_cons]) | ((with_reducible refine hK _ ?_); clear hK K) | (with_reducible first | refine qA ?_ | refine qB ?_ | refine qC ?_ | refine qD ?_ | refine qE ?_ | refine qF ?_ | refine qL ?_ | refine qM ?_ | refine qN ?_ | refine qO ?_ | refine qQ ?_) | refine qR rfl ?_ | (with_reducible refine AI ?_) | ((with_reducible refine qW (T := TT) (b := ?_) ?_ ?_); rotate_left; exact rfl) | (with_reducible first | refine qX ?_ | refine qY ?_ | refine qZ ?_) | (with_reducible first | refine qI ?_ | refine qIx ?_ | fail) | ((with_reducible refine yS ?_ ?_) <;> (intro h; try simp only [NM] at h)))
  simp -dsimp (disch := (first | omega | (simp only [LN]; omega))) only [retQ, Tryz.results57, resVals, cellRV, resOf, St.rest, St.freeze, RT, go_sem, ↓reduceIte, seval]

set_option maxHeartbeats 16000000 in
theorem changesWork_sat : Sat Tryz.prog 4 [] (.v (oB true)) := by
  have f1 : (⟨[peopleT], [], []⟩ : Sch).Fits := ⟨by decide, by decide, by decide, by decide, by decide⟩
  have f2 : InstFits [⟨⟨#[112, 101, 111, 112, 108, 101]⟩, []⟩] := ⟨by decide, by decide⟩
  have f3 : ChgsFit [⟨1, ⟨#[112, 101, 111, 112, 108, 101]⟩, [], [⟨1, 5, ByteArray.empty⟩, ⟨0, 0, ByteArray.empty⟩]⟩] := ⟨by decide, by decide⟩
  have e1 : applyE ⟨[peopleT], [], []⟩ [⟨⟨#[112, 101, 111, 112, 108, 101]⟩, []⟩] [⟨1, ⟨#[112, 101, 111, 112, 108, 101]⟩, [], [⟨1, 5, ByteArray.empty⟩, ⟨0, 0, ByteArray.empty⟩]⟩] = (0, [⟨⟨#[112, 101, 111, 112, 108, 101]⟩, [[⟨1, 5, ByteArray.empty⟩, ⟨0, 0, ByteArray.empty⟩]]⟩]) := by kernel_rfl
  have s1 := apply_sat ⟨[peopleT], [], []⟩ [⟨⟨#[112, 101, 111, 112, 108, 101]⟩, []⟩] [⟨1, ⟨#[112, 101, 111, 112, 108, 101]⟩, [], [⟨1, 5, ByteArray.empty⟩, ⟨0, 0, ByteArray.empty⟩]⟩] f1 f2 f3
  rw [e1] at s1
  refine sat_of_body tyOk Tryz.func4 rfl (by kernel_rfl) ⟨Nat.le_of_ble_eq_true rfl, Nat.le_of_ble_eq_true rfl⟩ fun w0 m0 F0 => ?_
  simp only [Tryz.ntmps4, envOf, Nat.reduceAdd]
  repeat' (first | ((first | with_reducible refine qV tyOk fun K hK => ?_ | (with_reducible first | refine qG ?_ | refine qH ?_ | refine qP ?_ | refine qGx ?_ | refine qHx ?_ | refine qPx ?_) | ((with_reducible first | refine qS ?_ ?_ | refine qT ?_ ?_ | refine qU ?_ ?_) <;> (intro h; try simp only [NM] at h)) | ((with_reducible refine CallJ.is ?_); (first | refine CallJ.pure (people_sat) ?_ | ((apply CallJ.lentI); (focus (simp -dsimp (disch := (first | omega | (simp only [LN]; omega))) only [go_sem, ↓reduceIte, seval]; rfl)); (focus (first | exact (people_sat)))))) | ((with_reducible refine CallH.is ?_); (first | refine CallH.intro (people_sat) ?_))) <;> simp -dsimp (disch := (first | omega | (simp only [LN]; omega))) only [go_sem, ↓reduceIte, seval]) | ((with_reducible refine hK _ ?_); clear hK K) | (with_reducible first | refine qA ?_ | refine qB ?_ | refine qC ?_ | refine qD ?_ | refine qE ?_ | refine qF ?_ | refine qL ?_ | refine qM ?_ | refine qN ?_ | refine qO ?_ | refine qQ ?_) | refine qR rfl ?_ | (with_reducible refine AI ?_) | ((with_reducible refine qW (T := TT) (b := ?_) ?_ ?_); rotate_left; exact rfl) | (with_reducible first | refine qX ?_ | refine qY ?_ | refine qZ ?_) | (with_reducible first | refine qI ?_ | refine qIx ?_ | fail) | ((with_reducible refine yS ?_ ?_) <;> (intro h; try simp only [NM] at h)))
  refine AWP.drawY tyOk mixed [(0, 2), (4, 1)] (.cons 2 [] [(0, 1), (4, 1)] (.cons 3 [] [(0, 1), (4, 1)] (.cons 5 [(6, 1)] [(0, 1)] (.cons 7 [] [(0, 1)] (.cons 8 [(9, 3)] [] (.cons 12 [] [(11, 1)] (.cons 13 [] [] .leaf .none) .none) .none) .none) .none) .none) (.cons 3 [] [(0, 2), (4, 1)] (.cons 2 [] [(0, 1), (4, 1)] (.cons 5 [(6, 1)] [(0, 1)] (.cons 7 [] [(0, 1)] (.cons 8 [(9, 3)] [] (.cons 12 [] [(11, 1)] (.cons 13 [] [] .leaf .none) .none) .none) .none) .none) (.cons 5 [(6, 1)] [(0, 2)] (.cons 2 [] [(0, 1), (6, 1)] (.cons 7 [] [(0, 1)] (.cons 8 [(9, 3)] [] (.cons 12 [] [(11, 1)] (.cons 13 [] [] .leaf .none) .none) .none) .none) (.cons 7 [] [(0, 2)] (.cons 2 [] [(0, 1)] (.cons 8 [(9, 3)] [] (.cons 12 [] [(11, 1)] (.cons 13 [] [] .leaf .none) .none) .none) .none) .none)) .none)) .none)) [2, 3, 5, 7, 8, 12, 13] 8 (by decide) (by kernel_rfl) (by kernel_rfl) (by kernel_rfl) (by kernel_rfl) fun K hK => ?_
  simp only [segt_leaf, segt_none, segt_cons, segs, List.drop_succ_cons, List.drop_zero, List.take_succ_cons, List.take_zero, List.getElem?_cons_zero, List.getElem?_cons_succ, List.cons_append, List.nil_append, List.append_nil] at hK ⊢
  simp -dsimp (disch := (first | omega | (simp only [LN]; omega))) only [go_sem, ↓reduceIte, seval]
  repeat' (first | ((first | with_reducible refine qV tyOk fun K hK => ?_ | (with_reducible first | refine qG ?_ | refine qH ?_ | refine qP ?_ | refine qGx ?_ | refine qHx ?_ | refine qPx ?_) | ((with_reducible first | refine qS ?_ ?_ | refine qT ?_ ?_ | refine qU ?_ ?_) <;> (intro h; try simp only [NM] at h)) | ((with_reducible refine CallJ.is ?_); (first | refine CallJ.pure (integer_sat _) ?_ | refine CallJ.pure (s1) ?_ | ((apply CallJ.frozI [] []); (focus (simp -dsimp (disch := (first | omega | (simp only [LN]; omega))) only [go_sem, ↓reduceIte, seval, List.getD_cons_zero, RT, St.rest, St.freeze]; rfl)); (focus (first | exact (integer_sat _) | exact (s1)))))) | ((with_reducible refine CallH.is ?_); (first | refine CallH.intro (integer_sat _) ?_ | refine CallH.intro (s1) ?_))) <;> simp -dsimp (disch := (first | omega | (simp only [LN]; omega))) only [go_sem, ↓reduceIte, seval, List.getD_cons_zero, RT, St.rest, St.freeze]) | ((with_reducible refine hK _ ?_); clear hK K) | (with_reducible first | refine qA ?_ | refine qB ?_ | refine qC ?_ | refine qD ?_ | refine qE ?_ | refine qF ?_ | refine qL ?_ | refine qM ?_ | refine qN ?_ | refine qO ?_ | refine qQ ?_) | refine qR rfl ?_ | ((with_reducible refine VCt.intro fun K0 hK0 => ?_)) | ((with_reducible refine VCt.fin ?_); (refine hK0 _ ?_); clear hK0 K0) | (with_reducible first | refine VCy.quiet ?_ | refine VCt.none ?_) | ((with_reducible first | refine VCt.some fun K hK => ?_ | refine VCt.step fun K hK => ?_); simp -dsimp (disch := (first | omega | (simp only [LN]; omega))) only [go_sem, ↓reduceIte, seval, List.getD_cons_zero, RT, St.rest, St.freeze]) | ((with_reducible refine VCy.keep ?_ ?_); focus ((simp -dsimp (disch := (first | omega | (simp only [LN]; omega))) only [go_sem, ↓reduceIte, seval, Stable_cons, Stable_nil, sameA_some, sameA_none, List.getD_cons_zero, RT, St.rest, St.freeze]); first | done | with_reducible assumption | omega | (repeat' with_reducible refine And.intro ?_ ?_) <;> first | with_reducible rfl | with_reducible assumption | omega)) | ((with_reducible refine VCt.fork (fun K hK => ?_) ?_); (focus (simp -dsimp (disch := (first | omega | (simp only [LN]; omega))) only [go_sem, ↓reduceIte, seval, List.getD_cons_zero, RT, St.rest, St.freeze]))) | (with_reducible refine AI ?_) | ((with_reducible refine qW (T := TT) (b := ?_) ?_ ?_); rotate_left; exact rfl) | (with_reducible first | refine qX ?_ | refine qY ?_ | refine qZ ?_) | (with_reducible first | refine qI ?_ | refine qIx ?_ | fail) | ((with_reducible refine yS ?_ ?_) <;> (intro h; try simp only [NM] at h)))
  all_goals simp -dsimp (disch := (first | omega | (simp only [LN]; omega))) only [retQ, Tryz.results4, resVals, cellRV, resOf, St.rest, St.freeze, RT, go_sem, ↓reduceIte, seval]
  all_goals rfl

def tgt (t : Tbl) (c : Chg) : Row := if c.kind = 1 then keyOf t.pk c.row else c.key
theorem target_sat (t : Tbl) (c : Chg) (h1 : t.pk.length ≤ 1099511627776) (h2 : c.key.length ≤ 1099511627776) : Sat Tryz.prog 56 [.agg (eTbl t), .agg (eChg c)] (.v (.one (eRow (tgt t c)))) := by
  refine sat_of_body tyOk Tryz.func56 rfl (by kernel_rfl) ⟨Nat.le_of_ble_eq_true rfl, Nat.le_of_ble_eq_true rfl⟩ fun w0 m0 F0 => ?_
  simp only [Tryz.ntmps56, envOf, Nat.reduceAdd]
  repeat' (first | ((first | with_reducible refine qV tyOk fun K hK => ?_ | (with_reducible first | refine qG ?_ | refine qH ?_ | refine qP ?_ | refine qGx ?_ | refine qHx ?_ | refine qPx ?_) | ((with_reducible first | refine qS ?_ ?_ | refine qT ?_ ?_ | refine qU ?_ ?_) <;> (intro h; try simp only [NM] at h)) | with_reducible refine yD tyOk mixed 6 (by kernel_rfl) fun K hK => ?_ | ((with_reducible refine CallJ.is ?_); (first | refine CallJ.pure (key_sat t c.row h1) ?_ | refine CallJ.pure (cloneRow_sat c.key h2) ?_ | ((apply CallJ.lentI); (focus (simp -dsimp (disch := (first | omega | (simp only [LN]; omega))) only [go_sem, ↓reduceIte, seval]; rfl)); (focus (first | exact (key_sat t c.row h1) | exact (cloneRow_sat c.key h2)))))) | ((with_reducible refine CallH.is ?_); (first | refine CallH.intro (key_sat t c.row h1) ?_ | refine CallH.intro (cloneRow_sat c.key h2) ?_))) <;> simp -dsimp (disch := (first | omega | (simp only [LN]; omega))) only [go_sem, ↓reduceIte, seval]) | ((with_reducible refine hK _ ?_); clear hK K) | (with_reducible first | refine qA ?_ | refine qB ?_ | refine qC ?_ | refine qD ?_ | refine qE ?_ | refine qF ?_ | refine qL ?_ | refine qM ?_ | refine qN ?_ | refine qO ?_ | refine qQ ?_) | refine qR rfl ?_ | (with_reducible refine AI ?_) | ((with_reducible refine qW (T := TT) (b := ?_) ?_ ?_); rotate_left; exact rfl) | (with_reducible first | refine qX ?_ | refine qY ?_ | refine qZ ?_) | (with_reducible first | refine qI ?_ | refine qIx ?_ | fail) | ((with_reducible refine yS ?_ ?_) <;> (intro h; try simp only [NM] at h)))
  all_goals simp -dsimp (disch := (first | omega | (simp only [LN]; omega))) only [retQ, Tryz.results56, resVals, cellRV, resOf, St.rest, St.freeze, RT, go_sem, ↓reduceIte, seval]
  all_goals simp_all [tgt]
theorem tgt_length {t : Tbl} {c : Chg} (h1 : t.pk.length ≤ 1099511627776) (h2 : c.key.length ≤ 1099511627776) : (tgt t c).length ≤ 1099511627776 := by
  unfold tgt
  split
  · rw [keyOf_length]; exact h1
  · exact h2

set_option maxHeartbeats 4000000 in
theorem indexFuncChg_sat (l : List Chg) (f : Nat) (cs : List L) (p : Chg → Bool) (hlen : l.length ≤ 140737488355328) (hp : ∀ t ∈ l, Sat Tryz.prog f (.agg (eChg t) :: cs.map .one) (.v (oB (p t)))) :
    Sat Tryz.prog 84 [.one (eChgs l), .one (.clo f cs)] (.v (oI (idx p l 0))) := by
  refine sat_of_body tyOk Tryz.func84 rfl (by kernel_rfl) ⟨Nat.le_of_ble_eq_true rfl, Nat.le_of_ble_eq_true rfl⟩ fun w0 m0 F0 => ?_
  simp only [Tryz.ntmps84, envOf, Nat.reduceAdd]
  repeat' (first | ((first | with_reducible refine qV tyOk fun K hK => ?_ | (with_reducible first | refine qG ?_ | refine qH ?_ | refine qP ?_ | refine qGx ?_ | refine qHx ?_ | refine qPx ?_) | ((with_reducible first | refine qS ?_ ?_ | refine qT ?_ ?_ | refine qU ?_ ?_) <;> (intro h; try simp only [NM] at h)) | with_reducible refine yD tyOk mixed 6 (by kernel_rfl) fun K hK => ?_) <;> simp -dsimp (disch := (first | omega | (simp only [LN]; omega))) only [go_sem, ↓reduceIte, seval]) | ((with_reducible refine hK _ ?_); clear hK K) | (with_reducible first | refine qA ?_ | refine qB ?_ | refine qC ?_ | refine qD ?_ | refine qE ?_ | refine qF ?_ | refine qL ?_ | refine qM ?_ | refine qN ?_ | refine qO ?_ | refine qQ ?_) | refine qR rfl ?_ | (with_reducible refine AI ?_) | ((with_reducible refine qW (T := TT) (b := ?_) ?_ ?_); rotate_left; exact rfl) | (with_reducible first | refine qX ?_ | refine qY ?_ | refine qZ ?_) | (with_reducible first | refine qI ?_ | refine qIx ?_ | fail) | ((with_reducible refine yS ?_ ?_) <;> (intro h; try simp only [NM] at h)))
  refine AWP.loop (ι := {k : Nat // k ≤ l.length ∧ idx p (l.drop k) k = idx p l 0}) (fun k => ⟨19, [(0, .v (.one (eChgs l))), (1, .v (.one (.clo f cs))), (7, .v (oI l.length)), (8, .v (oI k.1))], [], []⟩) (fun k => l.length - k.1) ⟨0, Nat.zero_le _, rfl⟩ ?_ fun ⟨k, hkl, hi⟩ => ?_
  · refine St.le_mk ?_ ?_ ?_ <;> simp only [LE, EN, Nat.reduceEqDiff, reduceIte, Nat.reduceSub]
  repeat' (first | ((first | with_reducible refine qV tyOk fun K hK => ?_ | (with_reducible first | refine qG ?_ | refine qH ?_ | refine qP ?_ | refine qGx ?_ | refine qHx ?_ | refine qPx ?_) | ((with_reducible first | refine qS ?_ ?_ | refine qT ?_ ?_ | refine qU ?_ ?_) <;> (intro h; try simp only [NM] at h)) | with_reducible refine yD tyOk mixed 6 (by kernel_rfl) fun K hK => ?_ | ((with_reducible refine CallJ.is ?_); (first | refine CallJ.pure (hp _ (List.getElem_mem (by omega))) ?_ | ((apply CallJ.lentI); (focus (simp -dsimp (disch := (first | omega | (simp only [LN]; omega))) only [go_sem, ↓reduceIte, seval]; rfl)); (focus (first | exact (hp _ (List.getElem_mem (by omega)))))))) | ((with_reducible refine CallH.is ?_); (first | refine CallH.intro (hp _ (List.getElem_mem (by omega))) ?_))) <;> simp -dsimp (disch := (first | omega | (simp only [LN]; omega))) only [go_sem, ↓reduceIte, seval]) | ((with_reducible refine hK _ ?_); clear hK K) | (with_reducible first | refine qA ?_ | refine qB ?_ | refine qC ?_ | refine qD ?_ | refine qE ?_ | refine qF ?_ | refine qL ?_ | refine qM ?_ | refine qN ?_ | refine qO ?_ | refine qQ ?_) | refine qR rfl ?_ | (with_reducible refine AI ?_) | ((with_reducible refine qW (T := TT) (b := ?_) ?_ ?_); rotate_left; exact rfl) | (with_reducible first | refine qX ?_ | refine qY ?_ | refine qZ ?_) | (with_reducible first | refine qI ?_ | refine qIx ?_ | fail) | ((with_reducible refine yS ?_ ?_) <;> (intro h; try simp only [NM] at h)))
  all_goals first
    | (have hk : ¬ k < l.length := by omega
       simp -dsimp (disch := (first | omega | (simp only [LN]; omega))) only [retQ, Tryz.results84, resVals, cellRV, resOf, St.rest, St.freeze, RT, go_sem, ↓reduceIte, seval]
       rw [← hi, idx_end hk]
       done)
    | (
       simp -dsimp (disch := (first | omega | (simp only [LN]; omega))) only [retQ, Tryz.results84, resVals, cellRV, resOf, St.rest, St.freeze, RT, go_sem, ↓reduceIte, seval]
       rw [← hi, idx_hit _ ‹_›])
    | (refine ⟨⟨k + 1, by omega, by rw [idx_step _ ‹_›, hi]⟩, by simp only; omega, ?_⟩
       refine St.le_mk ?_ ?_ ?_ <;> simp only [LE, EN, Nat.reduceEqDiff, reduceIte, Nat.reduceSub]
       )
theorem idx_any {α : Type} (p : α → Bool) : ∀ (l : List α) (k : Nat), decide (0 ≤ idx p l k) = l.any p
  | [], k => by simp [idx]
  | x :: l, k => by
    rw [idx, List.any_cons]
    cases hx : p x with
    | true => simp
    | false => simpa using idx_any p l (k + 1)
theorem containsChg_sat (l : List Chg) (f : Nat) (cs : List L) (p : Chg → Bool) (hlen : l.length ≤ 140737488355328) (hp : ∀ t ∈ l, Sat Tryz.prog f (.agg (eChg t) :: cs.map .one) (.v (oB (p t)))) :
    Sat Tryz.prog 54 [.one (eChgs l), .one (.clo f cs)] (.v (oB (l.any p))) := by
  rw [← idx_any p l 0]
  refine sat_of_body tyOk Tryz.func54 rfl (by kernel_rfl) ⟨Nat.le_of_ble_eq_true rfl, Nat.le_of_ble_eq_true rfl⟩ fun w0 m0 F0 => ?_
  simp only [Tryz.ntmps54, envOf, Nat.reduceAdd]
  repeat' (first | ((first | with_reducible refine qV tyOk fun K hK => ?_ | (with_reducible first | refine qG ?_ | refine qH ?_ | refine qP ?_ | refine qGx ?_ | refine qHx ?_ | refine qPx ?_) | ((with_reducible first | refine qS ?_ ?_ | refine qT ?_ ?_ | refine qU ?_ ?_) <;> (intro h; try simp only [NM] at h)) | with_reducible refine yD tyOk mixed 6 (by kernel_rfl) fun K hK => ?_ | ((with_reducible refine CallJ.is ?_); (first | refine CallJ.pure (indexFuncChg_sat l _ _ _ hlen hp) ?_ | ((apply CallJ.lentI); (focus (simp -dsimp (disch := (first | omega | (simp only [LN]; omega))) only [go_sem, ↓reduceIte, seval]; rfl)); (focus (first | exact (indexFuncChg_sat l _ _ _ hlen hp)))))) | ((with_reducible refine CallH.is ?_); (first | refine CallH.intro (indexFuncChg_sat l _ _ _ hlen hp) ?_))) <;> simp -dsimp (disch := (first | omega | (simp only [LN]; omega))) only [go_sem, ↓reduceIte, seval]) | ((with_reducible refine hK _ ?_); clear hK K) | (with_reducible first | refine qA ?_ | refine qB ?_ | refine qC ?_ | refine qD ?_ | refine qE ?_ | refine qF ?_ | refine qL ?_ | refine qM ?_ | refine qN ?_ | refine qO ?_ | refine qQ ?_) | refine qR rfl ?_ | (with_reducible refine AI ?_) | ((with_reducible refine qW (T := TT) (b := ?_) ?_ ?_); rotate_left; exact rfl) | (with_reducible first | refine qX ?_ | refine qY ?_ | refine qZ ?_) | (with_reducible first | refine qI ?_ | refine qIx ?_ | fail) | ((with_reducible refine yS ?_ ?_) <;> (intro h; try simp only [NM] at h)))
  simp -dsimp (disch := (first | omega | (simp only [LN]; omega))) only [retQ, Tryz.results54, resVals, cellRV, resOf, St.rest, St.freeze, RT, go_sem, ↓reduceIte, seval]

def sameK (t : Tbl) (c d : Chg) : Bool := sEq d.table c.table && decide (tgt t d = tgt t c)
set_option maxHeartbeats 8000000 in
theorem compact1_sat (t : Tbl) (c d : Chg) (h1 : t.pk.length ≤ 1099511627776) (h2 : c.key.length ≤ 1099511627776) (h3 : d.key.length ≤ 1099511627776) :
    Sat Tryz.prog 55 [.agg (eChg d), .one (.fz (eChg c)), .one (.fz (eTbl t))] (.v (oB (sameK t c d))) := by
  have l1 := tgt_length h1 h2
  have l2 := tgt_length h1 h3
  refine sat_of_body tyOk Tryz.func55 rfl (by kernel_rfl) ⟨Nat.le_of_ble_eq_true rfl, Nat.le_of_ble_eq_true rfl⟩ fun w0 m0 F0 => ?_
  simp only [Tryz.ntmps55, envOf, Nat.reduceAdd]
  repeat' (first | ((first | with_reducible refine qV tyOk fun K hK => ?_ | (with_reducible first | refine qG ?_ | refine qH ?_ | refine qP ?_ | refine qGx ?_ | refine qHx ?_ | refine qPx ?_) | ((with_reducible first | refine qS ?_ ?_ | refine qT ?_ ?_ | refine qU ?_ ?_) <;> (intro h; try simp only [NM] at h)) | with_reducible refine yD tyOk mixed 6 (by kernel_rfl) fun K hK => ?_ | ((with_reducible refine CallJ.is ?_); (first | refine CallJ.pure (target_sat t c h1 h2) ?_ | refine CallJ.pure (target_sat t d h1 h3) ?_ | refine CallJ.pure (equalRow_sat (tgt t d) (tgt t c) (by omega) (by omega)) ?_ | ((apply CallJ.lentI); (focus (simp -dsimp (disch := (first | omega | (simp only [LN]; omega))) only [go_sem, ↓reduceIte, seval]; rfl)); (focus (first | exact (target_sat t c h1 h2) | exact (target_sat t d h1 h3) | exact (equalRow_sat (tgt t d) (tgt t c) (by omega) (by omega))))))) | ((with_reducible refine CallH.is ?_); (first | refine CallH.intro (target_sat t c h1 h2) ?_ | refine CallH.intro (target_sat t d h1 h3) ?_ | refine CallH.intro (equalRow_sat (tgt t d) (tgt t c) (by omega) (by omega)) ?_))) <;> simp -dsimp (disch := (first | omega | (simp only [LN]; omega))) only [go_sem, ↓reduceIte, seval]) | ((with_reducible refine hK _ ?_); clear hK K) | (with_reducible first | refine qA ?_ | refine qB ?_ | refine qC ?_ | refine qD ?_ | refine qE ?_ | refine qF ?_ | refine qL ?_ | refine qM ?_ | refine qN ?_ | refine qO ?_ | refine qQ ?_) | refine qR rfl ?_ | (with_reducible refine AI ?_) | ((with_reducible refine qW (T := TT) (b := ?_) ?_ ?_); rotate_left; exact rfl) | (with_reducible first | refine qX ?_ | refine qY ?_ | refine qZ ?_) | (with_reducible first | refine qI ?_ | refine qIx ?_ | fail) | ((with_reducible refine yS ?_ ?_) <;> (intro h; try simp only [NM] at h)))
  all_goals simp -dsimp (disch := (first | omega | (simp only [LN]; omega))) only [retQ, Tryz.results55, resVals, cellRV, resOf, St.rest, St.freeze, RT, go_sem, ↓reduceIte, seval]
  all_goals simp_all [sameK, sEq]
def cmpChg (s : Sch) (a b : Chg) : Int :=
  if tblAt s.tables a.table = tblAt s.tables b.table then cmpRows (tgt (tblOf s a.table) a) (tgt (tblOf s a.table) b) else tblAt s.tables a.table - tblAt s.tables b.table
set_option maxHeartbeats 8000000 in
theorem compact2_sat (s : Sch) (a b : Chg) (hs : schE s = 0) (ha : 0 ≤ tblAt s.tables a.table) (hb : 0 ≤ tblAt s.tables b.table) (h2 : a.key.length ≤ 1099511627776) (h3 : b.key.length ≤ 1099511627776) :
    Sat Tryz.prog 58 [.agg (eChg a), .agg (eChg b), .one (.fz (eSch s))] (.v (oI (cmpChg s a b))) := by
  have sm := small_of hs
  have m1 := sm.tables
  rcases idx_cases (fun t => sEq t.name a.table) s.tables 0 with ⟨e1, _⟩ | ⟨i, hi, e1, _, _⟩
  · have e1 : tblAt s.tables a.table = -1 := e1
    omega
  rcases idx_cases (fun t => sEq t.name b.table) s.tables 0 with ⟨e2, _⟩ | ⟨k, hk, e2, _, _⟩
  · have e2 : tblAt s.tables b.table = -1 := e2
    omega
  have e1 : tblAt s.tables a.table = (i : Int) := by unfold tblAt; simpa using e1
  have e2 : tblAt s.tables b.table = (k : Int) := by unfold tblAt; simpa using e2
  have f1 := findTable_sat s a.table (by omega)
  have f2 := findTable_sat s b.table (by omega)
  rw [e1, mx0_nat] at f1
  rw [e2, mx0_nat] at f2
  have et : tblOf s a.table = s.tables[i] := by simp only [tblOf, e1, Int.toNat_natCast]; exact getD_lt _ hi
  have hpk := (sm.table _ (List.getElem_mem hi)).2
  have l1 := tgt_length (t := s.tables[i]) (by omega) h2
  have l2 := tgt_length (t := s.tables[i]) (by omega) h3
  unfold cmpChg
  rw [e1, e2, et]
  by_cases hik : i = k
  · subst hik
    rw [if_pos rfl]
    refine sat_of_body tyOk Tryz.func58 rfl (by kernel_rfl) ⟨Nat.le_of_ble_eq_true rfl, Nat.le_of_ble_eq_true rfl⟩ fun w0 m0 F0 => ?_
    simp only [Tryz.ntmps58, envOf, Nat.reduceAdd]
    repeat' (first | ((first | with_reducible refine qV tyOk fun K hK => ?_ | (with_reducible first | refine qG ?_ | refine qH ?_ | refine qP ?_ | refine qGx ?_ | refine qHx ?_ | refine qPx ?_) | ((with_reducible first | refine qS ?_ ?_ | refine qT ?_ ?_ | refine qU ?_ ?_) <;> (intro h; try simp only [NM] at h)) | with_reducible refine yD tyOk mixed 6 (by kernel_rfl) fun K hK => ?_ | ((with_reducible refine CallJ.is ?_); (first | refine CallJ.pure (f1) ?_ | refine CallJ.pure (f2) ?_ | refine CallJ.pure (target_sat s.tables[i] a (by omega) h2) ?_ | refine CallJ.pure (target_sat s.tables[i] b (by omega) h3) ?_ | refine CallJ.pure (compareRows_sat (tgt s.tables[i] a) (tgt s.tables[i] b) (by omega) (by omega)) ?_ | ((apply CallJ.lentI); (focus (simp -dsimp (disch := (first | omega | (simp only [LN]; omega))) only [go_sem, ↓reduceIte, seval]; rfl)); (focus (first | exact (f1) | exact (f2) | exact (target_sat s.tables[i] a (by omega) h2) | exact (target_sat s.tables[i] b (by omega) h3) | exact (compareRows_sat (tgt s.tables[i] a) (tgt s.tables[i] b) (by omega) (by omega))))))) | ((with_reducible refine CallH.is ?_); (first | refine CallH.intro (f1) ?_ | refine CallH.intro (f2) ?_ | refine CallH.intro (target_sat s.tables[i] a (by omega) h2) ?_ | refine CallH.intro (target_sat s.tables[i] b (by omega) h3) ?_ | refine CallH.intro (compareRows_sat (tgt s.tables[i] a) (tgt s.tables[i] b) (by omega) (by omega)) ?_))) <;> simp -dsimp (disch := (first | omega | (simp only [LN]; omega))) only [go_sem, ↓reduceIte, seval]) | ((with_reducible refine hK _ ?_); clear hK K) | (with_reducible first | refine qA ?_ | refine qB ?_ | refine qC ?_ | refine qD ?_ | refine qE ?_ | refine qF ?_ | refine qL ?_ | refine qM ?_ | refine qN ?_ | refine qO ?_ | refine qQ ?_) | refine qR rfl ?_ | (with_reducible refine AI ?_) | ((with_reducible refine qW (T := TT) (b := ?_) ?_ ?_); rotate_left; exact rfl) | (with_reducible first | refine qX ?_ | refine qY ?_ | refine qZ ?_) | (with_reducible first | refine qI ?_ | refine qIx ?_ | fail) | ((with_reducible refine yS ?_ ?_) <;> (intro h; try simp only [NM] at h)))
    all_goals simp -dsimp (disch := (first | omega | (simp only [LN]; omega))) only [retQ, Tryz.results58, resVals, cellRV, resOf, St.rest, St.freeze, RT, go_sem, ↓reduceIte, seval]
  · have hik' : ¬ (i : Int) = (k : Int) := by omega
    rw [if_neg hik']
    refine sat_of_body tyOk Tryz.func58 rfl (by kernel_rfl) ⟨Nat.le_of_ble_eq_true rfl, Nat.le_of_ble_eq_true rfl⟩ fun w0 m0 F0 => ?_
    simp only [Tryz.ntmps58, envOf, Nat.reduceAdd]
    repeat' (first | ((first | with_reducible refine qV tyOk fun K hK => ?_ | (with_reducible first | refine qG ?_ | refine qH ?_ | refine qP ?_ | refine qGx ?_ | refine qHx ?_ | refine qPx ?_) | ((with_reducible first | refine qS ?_ ?_ | refine qT ?_ ?_ | refine qU ?_ ?_) <;> (intro h; try simp only [NM] at h)) | with_reducible refine yD tyOk mixed 6 (by kernel_rfl) fun K hK => ?_ | ((with_reducible refine CallJ.is ?_); (first | refine CallJ.pure (f1) ?_ | refine CallJ.pure (f2) ?_ | ((apply CallJ.lentI); (focus (simp -dsimp (disch := (first | omega | (simp only [LN]; omega))) only [go_sem, ↓reduceIte, seval, hik']; rfl)); (focus (first | exact (f1) | exact (f2)))))) | ((with_reducible refine CallH.is ?_); (first | refine CallH.intro (f1) ?_ | refine CallH.intro (f2) ?_))) <;> simp -dsimp (disch := (first | omega | (simp only [LN]; omega))) only [go_sem, ↓reduceIte, seval, hik']) | ((with_reducible refine hK _ ?_); clear hK K) | (with_reducible first | refine qA ?_ | refine qB ?_ | refine qC ?_ | refine qD ?_ | refine qE ?_ | refine qF ?_ | refine qL ?_ | refine qM ?_ | refine qN ?_ | refine qO ?_ | refine qQ ?_) | refine qR rfl ?_ | (with_reducible refine AI ?_) | ((with_reducible refine qW (T := TT) (b := ?_) ?_ ?_); rotate_left; exact rfl) | (with_reducible first | refine qX ?_ | refine qY ?_ | refine qZ ?_) | (with_reducible first | refine qI ?_ | refine qIx ?_ | fail) | ((with_reducible refine yS ?_ ?_) <;> (intro h; try simp only [NM] at h)))
    all_goals simp -dsimp (disch := (first | omega | (simp only [LN]; omega))) only [retQ, Tryz.results58, resVals, cellRV, resOf, St.rest, St.freeze, RT, go_sem, ↓reduceIte, seval]
end Go.Bw
