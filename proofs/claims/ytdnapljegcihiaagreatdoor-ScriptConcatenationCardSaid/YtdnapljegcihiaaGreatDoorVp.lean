/-
  WHAT IS PROVED HERE, of this translation: validateTable_sat, conformsRow_sat, compareRows_sat, find_sat, conforms_sat, default_sat, splitTable_err.
  A theorem that ends in sat says what the function it names returns, whatever the state it is called in; the bounds on its arguments stand ahead of it.
-/
import Derived.Test.YtdnapljegcihiaaGreatDoorVg
import Derived.Test.YtdnapljegcihiaaGreatDoorVh
import Derived.Test.YtdnapljegcihiaaGreatDoorVi
set_option linter.unusedSimpArgs false
set_option linter.unusedVariables false
namespace Go.Bw
open Go.Proofs
set_option maxHeartbeats 8000000 in
theorem validateTable_sat (t : Tbl) (h1 : t.cols.length ≤ 140737488355328) (h2 : t.pk.length ≤ 140737488355328) : Sat Tryz.prog 40 [.agg (eTbl t)] (.v (oI (tblE t))) := by
  refine ZE Tryz.func40 Tryz.ntmps40 fun w0 m0 F0 => ?_
  refine ZWp Z0 (Z1 @validName_sat) ?_; repeat' (first | apply Zb | apply Zn | (apply Zm; intro h))
  all_goals first
    | (
       refine ZR (Z1 Tryz.results40) ?_
       simp [tblE, *]
       done)
    | (
       refine ZR (Z1 Tryz.results40) ?_
       first
         | (have : t.cols.length = 0 := by omega
            simp [tblE, *]
            done)
         | (have h0 : t.cols.length ≠ 0 := by omega
            have : 6 < t.cols.length := by omega
            simp [tblE, *]
            done))
    | skip
  have h0 : t.cols.length ≠ 0 := by omega
  have h6 : ¬ 6 < t.cols.length := by omega
  have spec : tblE t = match scan (colE t) t.cols 0 with
    | some e => e
    | none => match scan (pkE t) t.pk 0 with
      | some e => e
      | none => if t.pk.length = 0 then 9 else 0 := by simp [tblE, *] <;> rfl
  rw [spec]
  refine AWP.loop (ι := {k : Nat // k ≤ t.cols.length ∧ scan (colE t) (t.cols.drop k) k = scan (colE t) t.cols 0}) (fun k => ⟨96, [(1, .v (.one (.ptr 1 0))), (22, .v (.one (eCols t.cols))), (23, .v (oI t.cols.length)), (24, .v (oI k.1))], [(1, eTbl t)], []⟩) (fun k => t.cols.length - k.1) ⟨0, Nat.zero_le _, rfl⟩ ?_ fun ⟨k, hkl, hi⟩ => ?_
  · exact ZL Z0
  repeat' (first | ((first | with_reducible refine qV tyOk fun K hK => ?_ | refine Q2 ?_ | ((with_reducible refine qS ?_ ?_) <;> (intro h; try simp only [NM] at h)) | ((with_reducible refine CallJ.is ?_); (first | refine CallJ.pure (validName_sat _) ?_ | refine CallJ.pure (findColumn_sat t _ h1) ?_))) <;> simp -dsimp (disch := first | exact D | fail) only [go_sem, ↓reduceIte, seval]) | ((with_reducible refine hK _ ?_); clear hK K) | refine Q1 ?_ | ((with_reducible refine qW (T := TT) (b := ?_) ?_ ?_); rotate_left; exact rfl) | ((with_reducible refine yS ?_ ?_) <;> (intro h; try simp only [NM] at h)) | fail)
  all_goals try (
    first
      | (have hs : (colE t) k t.cols[k] = none := by
           (simp (disch := omega) only [colE, getD_lt]; (repeat' split) <;> first | rfl | with_reducible assumption | omega | (exfalso; omega) | (simp_all; done) | (simp_all; omega))
         refine ⟨⟨k + 1, by omega, by rw [scan_step (by omega) hs, hi]⟩, by simp only; omega, ?_⟩
         exact ZL (Z1 @eTbl.eq_1)
         done)
      | (simp -dsimp (disch := first | exact D | fail) only [retQ, Tryz.results40, resVals, cellRV, resOf, St.rest, St.freeze, RT, go_sem, ↓reduceIte, seval]
         rw [scan_leaf (by omega) ?_ hi]
         all_goals first | with_reducible rfl | ((simp (disch := omega) only [colE, getD_lt]; (repeat' split) <;> first | rfl | with_reducible assumption | omega | (exfalso; omega) | (simp_all; done) | (simp_all; omega)); done) | rfl
         done)
    )
  have hi0 : scan (colE t) t.cols 0 = none := by rw [← hi, scan_end (by omega)]
  refine AWP.loop (ι := {k : Nat // k ≤ t.pk.length ∧ scan (pkE t) (t.pk.drop k) k = scan (pkE t) t.pk 0}) (fun k => ⟨96, [(1, .v (.one (.ptr 1 0))), (53, .v (.one (eInts t.pk))), (54, .v (oI t.pk.length)), (55, .v (oI k.1))], [(1, eTbl t)], []⟩) (fun k => t.pk.length - k.1) ⟨0, Nat.zero_le _, rfl⟩ ?_ fun ⟨k, hkl, hi⟩ => ?_
  · exact ZL (Z1 @eTbl.eq_1)
  refine ZWp Z0 Z0 ?_; repeat' (first | apply Zb | apply Zn | (apply Zm; intro h))
  all_goals try rw [hi0]
  all_goals simp only
  all_goals try (
    first
      | (have hs : (pkE t) k t.pk[k] = none := by
           (simp (disch := omega) only [pkE, getD_lt]; (repeat' split) <;> first | rfl | with_reducible assumption | omega | (exfalso; omega) | (simp_all; done) | (simp_all; omega))
         refine ⟨⟨k + 1, by omega, by rw [scan_step (by omega) hs, hi]⟩, by simp only; omega, ?_⟩
         exact ZL (Z1 @eTbl.eq_1)
         done)
      | (simp -dsimp (disch := first | exact D | fail) only [retQ, Tryz.results40, resVals, cellRV, resOf, St.rest, St.freeze, RT, go_sem, ↓reduceIte, seval]
         rw [scan_leaf (by omega) ?_ hi]
         all_goals first | with_reducible rfl | ((simp (disch := omega) only [pkE, getD_lt]; (repeat' split) <;> first | rfl | with_reducible assumption | omega | (exfalso; omega) | (simp_all; done) | (simp_all; omega)); done) | rfl
         done)
    )
  all_goals
    have hi1 : scan (pkE t) t.pk 0 = none := by rw [← hi, scan_end (by omega)]
    rw [hi1]
    refine ZR (Z1 Tryz.results40) ?_
    first
      | (rw [if_pos (by omega)])
      | (rw [if_neg (by omega)])

set_option maxHeartbeats 8000000 in
theorem conformsRow_sat (t : Tbl) (r : Row) (h1 : r.length ≤ 140737488355328) (h2 : t.cols.length ≤ 140737488355328) : Sat Tryz.prog 55 [.agg (eTbl t), .one (eRow r)] (.v (oI (rowE t r))) := by
  refine ZE Tryz.func55 Tryz.ntmps55 fun w0 m0 F0 => ?_
  refine ZWpy Z0 (Z1 @validate_sat) ?_; repeat' (first | apply Zb | apply Zn | (apply Zm; intro h))
  rotate_left
  · refine ZR (Z1 Tryz.results55) ?_
    have : r.length ≠ t.cols.length := by omega
    simp [rowE, this]
  have hl : r.length = t.cols.length := by omega
  have spec : rowE t r = match scan (cellE t) r 0 with
    | some e => e
    | none => 0 := by simp [rowE, hl] <;> rfl
  rw [spec]
  refine AWP.loop (ι := {k : Nat // k ≤ r.length ∧ scan (cellE t) (r.drop k) k = scan (cellE t) r 0}) (fun k => ⟨53, [(2, .v (.one (.ptr 2 0))), (14, .v (.one (eRow r))), (15, .v (oI r.length)), (16, .v (oI k.1))], [(2, eTbl t)], []⟩) (fun k => r.length - k.1) ⟨0, Nat.zero_le _, rfl⟩ ?_ fun ⟨k, hkl, hi⟩ => ?_
  · exact ZL (Z1 @eTbl.eq_1)
  rcases Nat.lt_or_ge k r.length with hc | hc
  · refine ZWpy Z0 (Z1 @validate_sat) ?_; repeat' (first | apply Zb | apply Zn | (apply Zm; intro h))
    all_goals
      first
        | (have hs : (cellE t) k r[k] = none := by
             (simp (disch := omega) only [cellE, getD_lt]; (repeat' split) <;> first | rfl | with_reducible assumption | omega | (exfalso; omega) | (simp_all; done) | (simp_all; omega))
           refine ⟨⟨k + 1, by omega, by rw [scan_step (by omega) hs, hi]⟩, by simp only; omega, ?_⟩
           exact ZL (Z1 @eTbl.eq_1)
           done)
        | (simp -dsimp (disch := first | exact D | fail) only [retQ, Tryz.results55, resVals, cellRV, resOf, St.rest, St.freeze, RT, go_sem, ↓reduceIte, seval]
           rw [scan_leaf (by omega) ?_ hi]
           all_goals first | with_reducible rfl | ((simp (disch := omega) only [cellE, getD_lt]; (repeat' split) <;> first | rfl | with_reducible assumption | omega | (exfalso; omega) | (simp_all; done) | (simp_all; omega)); done) | rfl
           done)
  · rw [scan_end (by omega)] at hi
    refine ZWpy Z0 Z0 ?_; repeat' (first | apply Zb | apply Zn | (apply Zm; intro h))
    refine ZR (Z1 Tryz.results55) ?_
    rw [← hi]

set_option maxHeartbeats 8000000 in
theorem compareRows_sat (a b : Row) (h1 : a.length ≤ 140737488355328) (h2 : b.length ≤ 140737488355328) : Sat Tryz.prog 56 [.one (eRow a), .one (eRow b)] (.v (oI (cmpRows a b))) := by
  refine ZE Tryz.func56 Tryz.ntmps56 fun w0 m0 F0 => ?_
  refine ZWpy Z0 (Z1 @compare_sat) ?_; repeat' (first | apply Zb | apply Zn | (apply Zm; intro h))
  refine AWP.loop (ι := {k : Nat // k ≤ a.length ∧ k ≤ b.length ∧ scan (cmpCell b) (a.drop k) k = scan (cmpCell b) a 0}) (fun k => ⟨33, [(0, .v (.one (eRow a))), (1, .v (.one (eRow b))), (11, .v (oI (if (b.length : Int) < (a.length : Int) then (b.length : Int) else (a.length : Int)))), (12, .v (oI k.1))], [], []⟩) (fun k => a.length - k.1) ⟨0, Nat.zero_le _, Nat.zero_le _, rfl⟩ ?_ fun ⟨k, hkl, hkb, hi⟩ => ?_
  · exact ZL Z0
  by_cases hc : k < a.length ∧ k < b.length
  · obtain ⟨hc1, hc2⟩ := hc
    have hm : (k : Int) < (if (b.length : Int) < (a.length : Int) then (b.length : Int) else (a.length : Int)) := by split <;> omega
    refine ZWpy (Z1 @hm) (Z1 @compare_sat) ?_; repeat' (first | apply Zb | apply Zn | (apply Zm; intro h))
    all_goals first
      | (have hs : cmpCell b k a[k] = none := by
           (simp (disch := omega) only [cmpCell, getD_lt]; rw [if_neg]; omega)
         refine ⟨⟨k + 1, by omega, by omega, by rw [scan_step (by omega) hs, hi]⟩, by simp only; omega, ?_⟩
         exact ZL Z0
         done)
      | (have hs : cmpCell b k a[k] = some (cmpV a[k] b[k]) := by
           (simp (disch := omega) only [cmpCell, getD_lt]; rw [if_pos]; omega)
         refine ZR (Z1 Tryz.results56) ?_
         rw [cmpRows, scan_leaf (by omega) hs hi]
         done)
  · have hm : ¬ (k : Int) < (if (b.length : Int) < (a.length : Int) then (b.length : Int) else (a.length : Int)) := by split <;> omega
    have hn : scan (cmpCell b) a 0 = none := by
      rw [← hi]
      rcases Nat.lt_or_ge k a.length with h | h
      · exact scan_all_none fun j x hj => if_neg (by omega)
      · rw [scan_end (by omega)]
    refine ZWpy (Z1 @hm) (Z1 @compareInts_sat) ?_; repeat' (first | apply Zb | apply Zn | (apply Zm; intro h))
    refine ZR (Z1 Tryz.results56) ?_
    rw [cmpRows, hn]

set_option maxHeartbeats 8000000 in
theorem find_sat (t:Tbl) (rows:List Row) (key:Row) (h1:t.pk.length≤1099511627776) (h2:rows.length≤140737488355328) (h3:key.length≤140737488355328) :
  Sat Tryz.prog 183 [.agg (eTbl t),.one (eRows rows),.one (eRow key)] (.tup [oI (findI t rows key),oB (findB t rows key)]):=by
 refine ZE Tryz.func183 Tryz.ntmps183 fun w0 m0 F0=>?_
 refine ZWpy Z0 Z0 ?_;repeat' (first|apply Zb|apply Zn|(apply Zm;intro h))
 refine AWP.loop (ι:={k:Nat // k≤rows.length∧idx (atKey t key) (rows.drop k) k=findPos t rows key}) (fun k=>⟨31,[(3,.v (.one (.ptr 3 0))),(1,.v (.one (eRows rows))),(2,.v (.one (eRow key))),(11,.v (.one (eRows rows))),(12,.v (oI rows.length)),(13,.v (oI k.1))],[(3,eTbl t)],[]⟩) (fun k=>rows.length - k.1) ⟨0,Nat.zero_le _,rfl⟩ ?_ fun ⟨k,hkl,hi⟩=>?_
 ·exact ZL (Z1 @eTbl.eq_1)
 rcases Nat.lt_or_ge k rows.length with hc|hc
 ·have b1:(keyOf t.pk rows[k]).length≤140737488355328:=by rw [keyOf_length];omega
  refine ZWpy Z0 (Z2 (key_sat t rows[k] h1) (compareRows_sat (keyOf t.pk rows[k]) key b1 h3)) ?_;repeat' (first|apply Zb|apply Zn|(apply Zm;intro h))
  ·have hp:atKey t key rows[k]=true:=by simp only [atKey,decide_eq_true_eq];omega
   have hq:findPos t rows key=(k:Int):=by rw [←hi,idx_hit hc hp]
   refine ZR (Z1 Tryz.results183) ?_
   simp only [findI,findB,hq,Int.toNat_natCast,getD_lt _ hc]
   rw [if_neg (by omega),if_neg (by omega)]
  ·have hp:atKey t key rows[k]=false:=by simp only [atKey,decide_eq_false_iff_not];omega
   refine ⟨⟨k+1,by omega,by rw [idx_step hc hp,hi]⟩,by simp only;omega,?_⟩
   exact ZL (Z1 @eTbl.eq_1)
 ·rw [idx_end (by omega)] at hi
  refine ZWpy Z0 Z0 ?_;repeat' (first|apply Zb|apply Zn|(apply Zm;intro h))
  refine ZR (Z1 Tryz.results183) ?_
  simp [findI,findB,←hi]
set_option maxHeartbeats 16000000 in
theorem conforms_sat (s : Sch) (i : Inst) (hB : Bounds0 s i) (hi : i.length ≤ 140737488355328) : Sat Tryz.prog 23 [.agg (eSch s), .one (eInst i)] (.v (oI (confE s i))) := by
  refine ZE Tryz.func23 Tryz.ntmps23 fun w0 m0 F0 => ?_
  refine ZWpy Z0 Z0 ?_; repeat' (first | apply Zb | apply Zn | (apply Zm; intro h))
  rotate_left
  · refine ZR (Z1 Tryz.results23) ?_
    have : i.length ≠ s.tables.length := by omega
    simp [confE, this]
  have hl : i.length = s.tables.length := by omega
  have spec : confE s i = match scan (relE s) i 0 with
    | some e => e
    | none => 0 := by simp [confE, hl] <;> rfl
  rw [spec]
  refine AWP.loop (ι := {k : Nat // k ≤ i.length ∧ scan (relE s) (i.drop k) k = scan (relE s) i 0}) (fun k => ⟨75, [(2, .v (.one (.ptr 2 0))), (18, .v (.one (eInst i))), (19, .v (oI i.length)), (20, .v (oI k.1))], [(2, eSch s)], []⟩) (fun k => i.length - k.1) ⟨0, Nat.zero_le _, rfl⟩ ?_ fun ⟨k, hkl, hi⟩ => ?_
  · exact ZL (Z1 @eSch.eq_1)
  rcases Nat.lt_or_ge k i.length with hc | hc
  · have hcs : k < s.tables.length := by omega
    refine ZWpy Z0 Z0 ?_; repeat' (first | apply Zb | apply Zn | (apply Zm; intro h))
    rotate_left
    rotate_left
    · have hs : relE s k i[k] = some 3 := by
        simp (disch := omega) only [relE, getD_lt]
        rw [if_pos]
        simp_all [sEq]
      refine ZR (Z1 Tryz.results23) ?_
      rw [scan_leaf (by omega) hs hi]
    · have hs : relE s k i[k] = some 2 := by
        simp (disch := omega) only [relE, getD_lt]
        rw [if_neg (by simp_all [sEq]), if_pos (by omega)]
      refine ZR (Z1 Tryz.results23) ?_
      rw [scan_leaf (by omega) hs hi]
    have hrel : relE s k i[k] = scan (pairE s.tables[k] i[k].rows) i[k].rows 0 := by
      simp (disch := omega) only [relE, getD_lt]
      rw [if_neg (by simp_all [sEq]), if_neg (by omega)]
    obtain ⟨t1, t2⟩ := hB.table _ (List.getElem_mem hcs)
    obtain ⟨r1, r2⟩ := hB.rel _ (List.getElem_mem hc)
    refine AWP.loop (ι := {j : Nat // j ≤ i[k].rows.length ∧ scan (pairE s.tables[k] i[k].rows) (i[k].rows.drop j) j = scan (pairE s.tables[k] i[k].rows) i[k].rows 0}) (fun j => ⟨75, [(2, .v (.one (.ptr 2 0))), (18, .v (.one (eInst i))), (19, .v (oI i.length)), (20, .v (oI k)), (6, .v (.one (.ptr 6 0))), (7, .v (.one (.ptr 7 0))), (40, .v (.one (eRows i[k].rows))), (41, .v (oI i[k].rows.length)), (42, .v (oI j.1))], [(7, eTbl s.tables[k]), (6, eRel i[k]), (2, eSch s)], []⟩) (fun j => i[k].rows.length - j.1) ⟨0, Nat.zero_le _, rfl⟩ ?_ fun ⟨j, hjl, hj⟩ => ?_
    · exact ZL (Z3 @eSch.eq_1 @eTbl.eq_1 @eRel.eq_1)
    rcases Nat.lt_or_ge j i[k].rows.length with hcj | hcj
    · have x1 := r2 _ (List.getElem_mem hcj)
      rcases Nat.eq_zero_or_pos j with hj0 | hj0
      · refine ZWpy Z0 (Z1 (conformsRow_sat s.tables[k] i[k].rows[j] (by omega) (by omega))) ?_; repeat' (first | apply Zb | apply Zn | (apply Zm; intro h))
        all_goals first
          | (have hs : pairE s.tables[k] i[k].rows j i[k].rows[j] = none := by
               (simp (disch := omega) only [pairE, getD_lt]; (repeat' split) <;> first | rfl | with_reducible assumption | omega | (exfalso; omega) | (simp_all; done) | (simp_all; omega))
             refine ⟨⟨j + 1, by omega, by rw [scan_step hcj hs, hj]⟩, by simp only; omega, ?_⟩
             exact ZL (Z3 @eSch.eq_1 @eTbl.eq_1 @eRel.eq_1)
             done)
          | (
             refine ZR (Z1 Tryz.results23) ?_
             rw [scan_leaf hc (hrel.trans (scan_leaf hcj ?_ hj)) hi]
             all_goals first
               | with_reducible rfl
               | (
                  (simp (disch := omega) only [pairE, getD_lt]; (repeat' split) <;> first | rfl | with_reducible assumption | omega | (exfalso; omega) | (simp_all; done) | (simp_all; omega))
                  done)
               | rfl
             done)
      · have hjp : j - 1 < i[k].rows.length := by omega
        repeat' (first | ((first | with_reducible refine qV tyOk fun K hK => ?_ | refine Q2 ?_ | ((with_reducible first | refine qS ?_ ?_ | refine qT ?_ ?_ | refine qU ?_ ?_) <;> (intro h; try simp only [NM] at h)) | with_reducible refine yD tyOk mixed 6 (by kernel_rfl) fun K hK => ?_ | ((with_reducible refine CallJ.is ?_); (first | refine CallJ.pure (conformsRow_sat s.tables[k] i[k].rows[j] (by omega) (by omega)) ?_ | refine CallJ.pure (key_sat s.tables[k] _ t2) ?_ | refine CallJ.pure (compareRows_sat _ _ (by rw [keyOf_length]; omega) (by rw [keyOf_length]; omega)) ?_ | ((apply CallJ.lentI); (focus (simp -dsimp (disch := first | exact D | fail) only [go_sem, ↓reduceIte, seval]; rfl)); (focus (first | exact (conformsRow_sat s.tables[k] i[k].rows[j] (by omega) (by omega)) | exact (key_sat s.tables[k] _ t2) | exact (compareRows_sat _ _ (by rw [keyOf_length]; omega) (by rw [keyOf_length]; omega))))))) | ((with_reducible refine CallH.is ?_); (first | refine CallH.intro (conformsRow_sat s.tables[k] i[k].rows[j] (by omega) (by omega)) ?_ | refine CallH.intro (key_sat s.tables[k] _ t2) ?_ | refine CallH.intro (compareRows_sat _ _ (by rw [keyOf_length]; omega) (by rw [keyOf_length]; omega)) ?_))) <;> simp -dsimp (disch := first | exact D | fail) only [go_sem, ↓reduceIte, seval]) | ((with_reducible refine hK _ ?_); clear hK K) | refine Q1 ?_ | ((with_reducible refine qW (T := TT) (b := ?_) ?_ ?_); rotate_left; exact rfl) | ((with_reducible refine yS ?_ ?_) <;> (intro h; try simp only [NM] at h)))
        all_goals first
          | (have hs : pairE s.tables[k] i[k].rows j i[k].rows[j] = none := by
               (simp (disch := omega) only [pairE, getD_lt]; (repeat' split) <;> first | rfl | with_reducible assumption | omega | (exfalso; omega) | (simp_all; done) | (simp_all; omega))
             refine ⟨⟨j + 1, by omega, by rw [scan_step hcj hs, hj]⟩, by simp only; omega, ?_⟩
             exact ZL (Z3 @eSch.eq_1 @eTbl.eq_1 @eRel.eq_1)
             done)
          | (
             refine ZR (Z1 Tryz.results23) ?_
             rw [scan_leaf hc (hrel.trans (scan_leaf hcj ?_ hj)) hi]
             all_goals first
               | with_reducible rfl
               | (
                  (simp (disch := omega) only [pairE, getD_lt]; (repeat' split) <;> first | rfl | with_reducible assumption | omega | (exfalso; omega) | (simp_all; done) | (simp_all; omega))
                  done)
               | rfl
             done)
    · rw [scan_end (by omega)] at hj
      refine ZWpy Z0 Z0 ?_; repeat' (first | apply Zb | apply Zn | (apply Zm; intro h))
      have hs : relE s k i[k] = none := by rw [hrel, ← hj]
      refine ⟨⟨k + 1, by omega, by rw [scan_step hc hs, hi]⟩, by simp only; omega, ?_⟩
      exact ZL (Z1 @eSch.eq_1)
  · rw [scan_end (by omega)] at hi
    refine ZWpy Z0 Z0 ?_; repeat' (first | apply Zb | apply Zn | (apply Zm; intro h))
    refine ZR (Z1 Tryz.results23) ?_
    rw [← hi]

set_option maxHeartbeats 8000000 in
theorem default_sat (v:Val) (c:Col):Sat Tryz.prog 136 [.agg (eVal v),.agg (eCol c)] (.v (oI (defaultE v c))):=by
 refine ZE Tryz.func136 Tryz.ntmps136 fun w0 m0 F0=>?_
 refine ZWp Z0 (Z1 (validate_sat v)) ?_;repeat' (first|apply Zb|apply Zn|(apply Zm;intro h))
 all_goals simp -dsimp (disch:=first|exact D|fail) only [retQ,Tryz.results136,resVals,cellRV,resOf,St.rest,St.freeze,RT,go_sem,↓reduceIte,seval]
 all_goals simp_all [defaultE]
set_option maxHeartbeats 32000000 in
theorem splitTable_err (s:Sch) (i:Nat) (st:Stp) (hi:i<s.tables.length) (sm:SmallS s) (hst:st.cols.length≤140737488355328) (hE:splitE s (tAt s i) st≠0) :
  SatM Tryz.prog 82 [.one (.ptr 1000 0),oI i,.agg (eStp st)] (iB s) (iR s) (.v (oI (rE (splitT s i st)))) (oBE (splitT s i st)) (oRE (splitT s i st)):=by
 have b1:=sm.tables
 have b2:=sm.table s.tables[i] (List.getElem_mem hi)
 have b3:=sm.fks
 have b4:=sm.cons
 obtain ⟨t,ht⟩:∃t,s.tables[i]=t:=⟨_,rfl⟩
 have htA:tAt s i=t:=by unfold tAt;rw [getD_lt _ hi,ht]
 rw [ht] at b2
 rw [htA] at hE
 have cs:=checkSplit_satX s t st (by omega) (by omega) (by omega) hst
 have lm:(s.tables.map eTbl).length=s.tables.length:=List.length_map ..
 have gi:(s.tables.map eTbl).getD i []=eTbl t:=by rw [getD_map_lt _ _ _ hi,ht]
 have spec:splitT s i st=.error (splitE s t st):=by unfold splitT;simp only [htA];rw [if_pos hE]
 obtain ⟨q,hq⟩:∃q,splitE s t st=q:=⟨_,rfl⟩
 rw [hq] at spec hE cs
 rw [spec]
 unfold iB iR oBE oRE rE
 simp only
 refine ZM [1000] [1,2,3] Tryz.func82 Tryz.ntmps82 fun w0 m0 F0=>?_
 refine AWP.frzR 1000 rfl ?_
 refine ZU (Z3 @frzR_mk @frzTblO @frzFKO) ?_
 refine AWP.frzR 1001 rfl ?_
 refine ZU (Z3 @frzR_mk @frzTblO @frzFKO) ?_
 refine ZV (Z4 @eStp.eq_1 @gi @lm @hE) (Z1 (cs)) (Z1 (Zd 2 [(0,5)] [(5,[(6,1)],[])] [5] 8)) Z0 ?_
 exact ZQ (Z1 Tryz.results82)
end Go.Bw
