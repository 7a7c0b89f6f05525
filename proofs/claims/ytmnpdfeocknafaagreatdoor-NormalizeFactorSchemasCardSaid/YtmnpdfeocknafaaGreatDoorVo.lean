/- Proved: contracts of functions of this translation, for every state, and what they rest on; bounds stand ahead. -/
import Derived.Test.YtmnpdfeocknafaaGreatDoorVg
import Derived.Test.YtmnpdfeocknafaaGreatDoorVh
import Derived.Test.YtmnpdfeocknafaaGreatDoorVj
set_option maxHeartbeats 64000000
set_option linter.unusedSimpArgs false
set_option linter.unusedVariables false
namespace Go.Bw
open Go.Proofs
theorem I4 (t : au) (h1 : t.ae.length ≤ 140737488355328) (h2 : t.pk.length ≤ 140737488355328) : Sat Tryz.prog 74 [.agg (ap t)] (.v (oI (xi t))) := by
  refine ZE Tryz.func74 Tryz.ntmps74 fun w0 m0 F0 => ?_
  refine pK Z0 (Z1 @HA) ?_; repeat' (first | apply Zb | apply Zn | (apply Zm; intro h))
  all_goals first
    | (
       refine ZR (Z1 Tryz.results74) ?_
       simp [xi, *]
       done)
    | (
       refine ZR (Z1 Tryz.results74) ?_
       first
         | (have : t.ae.length = 0 := by omega
            simp [xi, *]
            done)
         | (have h0 : t.ae.length ≠ 0 := by omega
            have : 6 < t.ae.length := by omega
            simp [xi, *]
            done))
    | skip
  have h0 : t.ae.length ≠ 0 := by omega
  have h6 : ¬ 6 < t.ae.length := by omega
  have spec : xi t = match scan (xj t) t.ae 0 with
    | some e => e
    | none => match scan (xk t) t.pk 0 with
      | some e => e
      | none => if t.pk.length = 0 then 9 else 0 := by simp [xi, *] <;> rfl
  rw [spec]
  refine ab.loop (ι := {k : Nat // k ≤ t.ae.length ∧ scan (xj t) (t.ae.drop k) k = scan (xj t) t.ae 0}) (fun k => ⟨96, [(1, .v (.one (.ptr 1 0))), (22, .v (.one (cS t.ae))), (23, .v (oI t.ae.length)), (24, .v (oI k.1))], [(1, ap t)], []⟩) (fun k => t.ae.length - k.1) ⟨0, bg _, rfl⟩ ?_ fun ⟨k, hkl, hi⟩ => ?_
  · exact ZL Z0
  repeat' (first | ((first | with_reducible refine qV ah fun K hK => ?_ | refine Q2 ?_ | ((with_reducible refine qS ?_ ?_) <;> (intro h; try simp only [NM] at h)) | ((with_reducible refine ai.is ?_); (first | refine ai.pure (HA _) ?_ | refine ai.pure (zb t _ h1) ?_))) <;> simp -dsimp (disch := first | exact D | fail) only [go_sem, ↓reduceIte, seval]) | ((with_reducible refine hK _ ?_); clear hK K) | refine Q1 ?_ | ((with_reducible refine qW (T := TT) (b := ?_) ?_ ?_); rotate_left; exact rfl) | ((with_reducible refine yS ?_ ?_) <;> (intro h; try simp only [NM] at h)) | fail)
  all_goals try (
    first
      | (have hs : (xj t) k t.ae[k] = none := by
           (simp (disch := omega) only [xj, bE]; (repeat' split) <;> first | rfl | with_reducible assumption | omega | (exfalso; omega) | (simp_all; done) | (simp_all; omega))
         refine ⟨⟨k + 1, by omega, by rw [wG (by omega) hs, hi]⟩, by simp only; omega, ?_⟩
         exact ZL (Z1 @ap.eq_1)
         done)
      | (simp -dsimp (disch := first | exact D | fail) only [aR, Tryz.results74, aQ, aS, aO, St.rest, St.freeze, RT, go_sem, ↓reduceIte, seval]
         rw [vB (by omega) ?_ hi]
         all_goals first | with_reducible rfl | ((simp (disch := omega) only [xj, bE]; (repeat' split) <;> first | rfl | with_reducible assumption | omega | (exfalso; omega) | (simp_all; done) | (simp_all; omega)); done) | rfl
         done)
    )
  have hi0 : scan (xj t) t.ae 0 = none := by rw [← hi, xL (by omega)]
  refine ab.loop (ι := {k : Nat // k ≤ t.pk.length ∧ scan (xk t) (t.pk.drop k) k = scan (xk t) t.pk 0}) (fun k => ⟨96, [(1, .v (.one (.ptr 1 0))), (53, .v (.one (bj t.pk))), (54, .v (oI t.pk.length)), (55, .v (oI k.1))], [(1, ap t)], []⟩) (fun k => t.pk.length - k.1) ⟨0, bg _, rfl⟩ ?_ fun ⟨k, hkl, hi⟩ => ?_
  · exact ZL (Z1 @ap.eq_1)
  refine pK Z0 Z0 ?_; repeat' (first | apply Zb | apply Zn | (apply Zm; intro h))
  all_goals try rw [hi0]
  all_goals simp only
  all_goals try (
    first
      | (have hs : (xk t) k t.pk[k] = none := by
           (simp (disch := omega) only [xk, bE]; (repeat' split) <;> first | rfl | with_reducible assumption | omega | (exfalso; omega) | (simp_all; done) | (simp_all; omega))
         refine ⟨⟨k + 1, by omega, by rw [wG (by omega) hs, hi]⟩, by simp only; omega, ?_⟩
         exact ZL (Z1 @ap.eq_1)
         done)
      | (simp -dsimp (disch := first | exact D | fail) only [aR, Tryz.results74, aQ, aS, aO, St.rest, St.freeze, RT, go_sem, ↓reduceIte, seval]
         rw [vB (by omega) ?_ hi]
         all_goals first | with_reducible rfl | ((simp (disch := omega) only [xk, bE]; (repeat' split) <;> first | rfl | with_reducible assumption | omega | (exfalso; omega) | (simp_all; done) | (simp_all; omega)); done) | rfl
         done)
    )
  all_goals
    have hi1 : scan (xk t) t.pk 0 = none := by rw [← hi, xL (by omega)]
    rw [hi1]
    refine ZR (Z1 Tryz.results74) ?_
    first
      | (rw [if_pos (by omega)])
      | (rw [if_neg (by omega)])
theorem Iw (a b:FK) (hl:a.ae.length≤140737488355328):Sat Tryz.prog 77 [.agg (aL a),.one (.fz (aL b))] (.v (oB (sK a b))):=by
 refine ZE Tryz.func77 Tryz.ntmps77 fun w0 m0 F0=>?_
 repeat' (first|((first|with_reducible refine qV ah fun K hK=>?_|((with_reducible refine ai.is ?_);(refine ai.pure (FU _ _ hl) ?_)))<;>simp -dsimp (disch:=first|exact D|fail) only [go_sem,↓reduceIte,seval])|((with_reducible refine hK _ ?_);clear hK K)|refine Q1 ?_|fail)
 exact ZQ (Z1 Tryz.results77)
theorem U' (l:List dN) (c:dN) (hlen:l.length≤140737488355328) :
  Sat Tryz.prog 79 [.one (dy l),.agg (aK c)] (.v (oB (decide (0≤idx (vg c) l 0)))):=by
 refine ZE Tryz.func79 Tryz.ntmps79 fun w0 m0 F0=>?_
 repeat' (first|((first|with_reducible refine qV ah fun K hK=>?_|((with_reducible refine ai.is ?_);(refine ai.pure (J2 l _ hlen) ?_)))<;>simp -dsimp (disch:=first|exact D|fail) only [go_sem,↓reduceIte,seval])|((with_reducible refine hK _ ?_);clear hK K)|refine Q1 ?_|fail)
 exact ZQ (Z1 Tryz.results79)
theorem I3 (l:List dN) (k:Nat) (c:dN) (hlen:l.length≤140737488355328) :
  Sat Tryz.prog 79 [.one (.sl 7 ((l.map aK).take k)),.agg (aK c)] (.v (oB (decide (0≤idx (vg c) (l.take k) 0)))):=by
 have h:=U' (l.take k) c (by rw [rV];omega)
 rw [dy,yF] at h
 exact h
theorem ED (t : au) (r : Row) (h1 : r.length ≤ 140737488355328) (h2 : t.ae.length ≤ 140737488355328) : Sat Tryz.prog 102 [.agg (ap t), .one (cT r)] (.v (oI (xw t r))) := by
  refine ZE Tryz.func102 Tryz.ntmps102 fun w0 m0 F0 => ?_
  refine rj Z0 (Z1 @u7) ?_; repeat' (first | apply Zb | apply Zn | (apply Zm; intro h))
  rotate_left
  · refine ZR (Z1 Tryz.results102) ?_
    have : r.length ≠ t.ae.length := by omega
    simp [xw, this]
  have hl : r.length = t.ae.length := by omega
  have spec : xw t r = match scan (zt t) r 0 with
    | some e => e
    | none => 0 := by simp [xw, hl] <;> rfl
  rw [spec]
  refine ab.loop (ι := {k : Nat // k ≤ r.length ∧ scan (zt t) (r.drop k) k = scan (zt t) r 0}) (fun k => ⟨53, [(2, .v (.one (.ptr 2 0))), (14, .v (.one (cT r))), (15, .v (oI r.length)), (16, .v (oI k.1))], [(2, ap t)], []⟩) (fun k => r.length - k.1) ⟨0, bg _, rfl⟩ ?_ fun ⟨k, hkl, hi⟩ => ?_
  · exact ZL (Z1 @ap.eq_1)
  rcases cV k r.length with hc | hc
  · refine rj Z0 (Z1 @u7) ?_; repeat' (first | apply Zb | apply Zn | (apply Zm; intro h))
    all_goals
      first
        | (have hs : (zt t) k r[k] = none := by
             (simp (disch := omega) only [zt, bE]; (repeat' split) <;> first | rfl | with_reducible assumption | omega | (exfalso; omega) | (simp_all; done) | (simp_all; omega))
           refine ⟨⟨k + 1, by omega, by rw [wG (by omega) hs, hi]⟩, by simp only; omega, ?_⟩
           exact ZL (Z1 @ap.eq_1)
           done)
        | (simp -dsimp (disch := first | exact D | fail) only [aR, Tryz.results102, aQ, aS, aO, St.rest, St.freeze, RT, go_sem, ↓reduceIte, seval]
           rw [vB (by omega) ?_ hi]
           all_goals first | with_reducible rfl | ((simp (disch := omega) only [zt, bE]; (repeat' split) <;> first | rfl | with_reducible assumption | omega | (exfalso; omega) | (simp_all; done) | (simp_all; omega)); done) | rfl
           done)
  · rw [xL (by omega)] at hi
    refine rj Z0 Z0 ?_; repeat' (first | apply Zb | apply Zn | (apply Zm; intro h))
    refine ZR (Z1 Tryz.results102) ?_
    rw [← hi]
theorem EE (a b : Row) (h1 : a.length ≤ 140737488355328) (h2 : b.length ≤ 140737488355328) : Sat Tryz.prog 103 [.one (cT a), .one (cT b)] (.v (oI (pX a b))) := by
  refine ZE Tryz.func103 Tryz.ntmps103 fun w0 m0 F0 => ?_
  refine rj Z0 (Z1 @D6) ?_; repeat' (first | apply Zb | apply Zn | (apply Zm; intro h))
  refine ab.loop (ι := {k : Nat // k ≤ a.length ∧ k ≤ b.length ∧ scan (ue b) (a.drop k) k = scan (ue b) a 0}) (fun k => ⟨33, [(0, .v (.one (cT a))), (1, .v (.one (cT b))), (11, .v (oI (if (b.length : Int) < (a.length : Int) then (b.length : Int) else (a.length : Int)))), (12, .v (oI k.1))], [], []⟩) (fun k => a.length - k.1) ⟨0, bg _, bg _, rfl⟩ ?_ fun ⟨k, hkl, hkb, hi⟩ => ?_
  · exact ZL Z0
  by_cases hc : k < a.length ∧ k < b.length
  · obtain ⟨hc1, hc2⟩ := hc
    have hm : (k : Int) < (if (b.length : Int) < (a.length : Int) then (b.length : Int) else (a.length : Int)) := by split <;> omega
    refine rj (Z1 @hm) (Z1 @D6) ?_; repeat' (first | apply Zb | apply Zn | (apply Zm; intro h))
    all_goals first
      | (have hs : ue b k a[k] = none := by
           (simp (disch := omega) only [ue, bE]; rw [if_neg]; omega)
         refine ⟨⟨k + 1, by omega, by omega, by rw [wG (by omega) hs, hi]⟩, by simp only; omega, ?_⟩
         exact ZL Z0
         done)
      | (have hs : ue b k a[k] = some (tY a[k] b[k]) := by
           (simp (disch := omega) only [ue, bE]; rw [if_pos]; omega)
         refine ZR (Z1 Tryz.results103) ?_
         rw [pX, vB (by omega) hs hi]
         done)
  · have hm : ¬ (k : Int) < (if (b.length : Int) < (a.length : Int) then (b.length : Int) else (a.length : Int)) := by split <;> omega
    have hn : scan (ue b) a 0 = none := by
      rw [← hi]
      rcases cV k a.length with h | h
      · exact I8 fun j x hj => if_neg (by omega)
      · rw [xL (by omega)]
    refine rj (Z1 @hm) (Z1 @Hs) ?_; repeat' (first | apply Zb | apply Zn | (apply Zm; intro h))
    refine ZR (Z1 Tryz.results103) ?_
    rw [pX, hn]
theorem AB (t:au) (rows:List Row) (key:Row) (h1:t.pk.length≤1099511627776) (h2:rows.length≤140737488355328) (h3:key.length≤140737488355328) :
  Sat Tryz.prog 171 [.agg (ap t),.one (bm rows),.one (cT key)] (.cR [oI (xP t rows key),oB (te t rows key)]):=by
 refine ZE Tryz.func171 Tryz.ntmps171 fun w0 m0 F0=>?_
 refine rj Z0 Z0 ?_;repeat' (first|apply Zb|apply Zn|(apply Zm;intro h))
 refine ab.loop (ι:={k:Nat // k≤rows.length∧idx (atKey t key) (rows.drop k) k=yv t rows key}) (fun k=>⟨31,[(3,.v (.one (.ptr 3 0))),(1,.v (.one (bm rows))),(2,.v (.one (cT key))),(11,.v (.one (bm rows))),(12,.v (oI rows.length)),(13,.v (oI k.1))],[(3,ap t)],[]⟩) (fun k=>rows.length - k.1) ⟨0,bg _,rfl⟩ ?_ fun ⟨k,hkl,hi⟩=>?_
 ·exact ZL (Z1 @ap.eq_1)
 rcases cV k rows.length with hc|hc
 ·have b1:(keyOf t.pk rows[k]).length≤140737488355328:=by rw [vD];omega
  refine rj Z0 (Z2 (yC t rows[k] h1) (EE (keyOf t.pk rows[k]) key b1 h3)) ?_;repeat' (first|apply Zb|apply Zn|(apply Zm;intro h))
  ·have hp:atKey t key rows[k]=true:=by simp only [atKey,uv];omega
   have hq:yv t rows key=(k:Int):=by rw [←hi,Bg hc hp]
   refine ZR (Z1 Tryz.results171) ?_
   simp only [xP,te,hq,bG,bE _ hc]
   rw [if_neg (by omega),if_neg (by omega)]
  ·have hp:atKey t key rows[k]=false:=by simp only [atKey,AK];omega
   refine ⟨⟨k+1,by omega,by rw [Bh hc hp,hi]⟩,by simp only;omega,?_⟩
   exact ZL (Z1 @ap.eq_1)
 ·rw [Bf (by omega)] at hi
  refine rj Z0 Z0 ?_;repeat' (first|apply Zb|apply Zn|(apply Zm;intro h))
  refine ZR (Z1 Tryz.results171) ?_
  simp [xP,te,←hi]
theorem IX (s : aq) (i : cZ) (hB : yI s i) (hi : i.length ≤ 140737488355328) : Sat Tryz.prog 64 [.agg (aC s), .one (bp i)] (.v (oI (sD s i))) := by
  refine ZE Tryz.func64 Tryz.ntmps64 fun w0 m0 F0 => ?_
  refine rj Z0 Z0 ?_; repeat' (first | apply Zb | apply Zn | (apply Zm; intro h))
  rotate_left
  · refine ZR (Z1 Tryz.results64) ?_
    have : i.length ≠ s.tables.length := by omega
    simp [sD, this]
  have hl : i.length = s.tables.length := by omega
  have spec : sD s i = match scan (xx s) i 0 with
    | some e => e
    | none => 0 := by simp [sD, hl] <;> rfl
  rw [spec]
  refine ab.loop (ι := {k : Nat // k ≤ i.length ∧ scan (xx s) (i.drop k) k = scan (xx s) i 0}) (fun k => ⟨75, [(2, .v (.one (.ptr 2 0))), (18, .v (.one (bp i))), (19, .v (oI i.length)), (20, .v (oI k.1))], [(2, aC s)], []⟩) (fun k => i.length - k.1) ⟨0, bg _, rfl⟩ ?_ fun ⟨k, hkl, hi⟩ => ?_
  · exact ZL (Z1 @aC.eq_1)
  rcases cV k i.length with hc | hc
  · have hcs : k < s.tables.length := by omega
    refine rj Z0 Z0 ?_; repeat' (first | apply Zb | apply Zn | (apply Zm; intro h))
    rotate_left
    rotate_left
    · have hs : xx s k i[k] = some 3 := by
        simp (disch := omega) only [xx, bE]
        rw [if_pos]
        simp_all [aw]
      refine ZR (Z1 Tryz.results64) ?_
      rw [vB (by omega) hs hi]
    · have hs : xx s k i[k] = some 2 := by
        simp (disch := omega) only [xx, bE]
        rw [if_neg (by simp_all [aw]), if_pos (by omega)]
      refine ZR (Z1 Tryz.results64) ?_
      rw [vB (by omega) hs hi]
    have hrel : xx s k i[k] = scan (xQ s.tables[k] i[k].rows) i[k].rows 0 := by
      simp (disch := omega) only [xx, bE]
      rw [if_neg (by simp_all [aw]), if_neg (by omega)]
    obtain ⟨t1, t2⟩ := hB.table _ (bl hcs)
    obtain ⟨r1, r2⟩ := hB.rel _ (bl hc)
    refine ab.loop (ι := {j : Nat // j ≤ i[k].rows.length ∧ scan (xQ s.tables[k] i[k].rows) (i[k].rows.drop j) j = scan (xQ s.tables[k] i[k].rows) i[k].rows 0}) (fun j => ⟨75, [(2, .v (.one (.ptr 2 0))), (18, .v (.one (bp i))), (19, .v (oI i.length)), (20, .v (oI k)), (6, .v (.one (.ptr 6 0))), (7, .v (.one (.ptr 7 0))), (40, .v (.one (bm i[k].rows))), (41, .v (oI i[k].rows.length)), (42, .v (oI j.1))], [(7, ap s.tables[k]), (6, aH i[k]), (2, aC s)], []⟩) (fun j => i[k].rows.length - j.1) ⟨0, bg _, rfl⟩ ?_ fun ⟨j, hjl, hj⟩ => ?_
    · exact ZL (Z3 @aC.eq_1 @ap.eq_1 @aH.eq_1)
    rcases cV j i[k].rows.length with hcj | hcj
    · have x1 := r2 _ (bl hcj)
      rcases vi j with hj0 | hj0
      · refine rj Z0 (Z1 (ED s.tables[k] i[k].rows[j] (by omega) (by omega))) ?_; repeat' (first | apply Zb | apply Zn | (apply Zm; intro h))
        all_goals first
          | (have hs : xQ s.tables[k] i[k].rows j i[k].rows[j] = none := by
               (simp (disch := omega) only [xQ, bE]; (repeat' split) <;> first | rfl | with_reducible assumption | omega | (exfalso; omega) | (simp_all; done) | (simp_all; omega))
             refine ⟨⟨j + 1, by omega, by rw [wG hcj hs, hj]⟩, by simp only; omega, ?_⟩
             exact ZL (Z3 @aC.eq_1 @ap.eq_1 @aH.eq_1)
             done)
          | (
             refine ZR (Z1 Tryz.results64) ?_
             rw [vB hc (hrel.trans (vB hcj ?_ hj)) hi]
             all_goals first
               | with_reducible rfl
               | (
                  (simp (disch := omega) only [xQ, bE]; (repeat' split) <;> first | rfl | with_reducible assumption | omega | (exfalso; omega) | (simp_all; done) | (simp_all; omega))
                  done)
               | rfl
             done)
      · have hjp : j - 1 < i[k].rows.length := by omega
        repeat' (first | ((first | with_reducible refine qV ah fun K hK => ?_ | refine Q2 ?_ | ((with_reducible first | refine qS ?_ ?_ | refine qT ?_ ?_ | refine qU ?_ ?_) <;> (intro h; try simp only [NM] at h)) | with_reducible refine yD ah mixed 6 (by kernel_rfl) fun K hK => ?_ | ((with_reducible refine ai.is ?_); (first | refine ai.pure (ED s.tables[k] i[k].rows[j] (by omega) (by omega)) ?_ | refine ai.pure (yC s.tables[k] _ t2) ?_ | refine ai.pure (EE _ _ (by rw [vD]; omega) (by rw [vD]; omega)) ?_ | ((apply ai.cO); (focus (simp -dsimp (disch := first | exact D | fail) only [go_sem, ↓reduceIte, seval]; rfl)); (focus (first | exact (ED s.tables[k] i[k].rows[j] (by omega) (by omega)) | exact (yC s.tables[k] _ t2) | exact (EE _ _ (by rw [vD]; omega) (by rw [vD]; omega))))))) | ((with_reducible refine bH.is ?_); (first | refine bH.intro (ED s.tables[k] i[k].rows[j] (by omega) (by omega)) ?_ | refine bH.intro (yC s.tables[k] _ t2) ?_ | refine bH.intro (EE _ _ (by rw [vD]; omega) (by rw [vD]; omega)) ?_))) <;> simp -dsimp (disch := first | exact D | fail) only [go_sem, ↓reduceIte, seval]) | ((with_reducible refine hK _ ?_); clear hK K) | refine Q1 ?_ | ((with_reducible refine qW (T := TT) (b := ?_) ?_ ?_); rotate_left; exact rfl) | ((with_reducible refine yS ?_ ?_) <;> (intro h; try simp only [NM] at h)))
        all_goals first
          | (have hs : xQ s.tables[k] i[k].rows j i[k].rows[j] = none := by
               (simp (disch := omega) only [xQ, bE]; (repeat' split) <;> first | rfl | with_reducible assumption | omega | (exfalso; omega) | (simp_all; done) | (simp_all; omega))
             refine ⟨⟨j + 1, by omega, by rw [wG hcj hs, hj]⟩, by simp only; omega, ?_⟩
             exact ZL (Z3 @aC.eq_1 @ap.eq_1 @aH.eq_1)
             done)
          | (
             refine ZR (Z1 Tryz.results64) ?_
             rw [vB hc (hrel.trans (vB hcj ?_ hj)) hi]
             all_goals first
               | with_reducible rfl
               | (
                  (simp (disch := omega) only [xQ, bE]; (repeat' split) <;> first | rfl | with_reducible assumption | omega | (exfalso; omega) | (simp_all; done) | (simp_all; omega))
                  done)
               | rfl
             done)
    · rw [xL (by omega)] at hj
      refine rj Z0 Z0 ?_; repeat' (first | apply Zb | apply Zn | (apply Zm; intro h))
      have hs : xx s k i[k] = none := by rw [hrel, ← hj]
      refine ⟨⟨k + 1, by omega, by rw [wG hc hs, hi]⟩, by simp only; omega, ?_⟩
      exact ZL (Z1 @aC.eq_1)
  · rw [xL (by omega)] at hi
    refine rj Z0 Z0 ?_; repeat' (first | apply Zb | apply Zn | (apply Zm; intro h))
    refine ZR (Z1 Tryz.results64) ?_
    rw [← hi]
theorem Ob {a b:aG}:a=b↔a.kind=b.kind∧a.table.toList=b.table.toList∧a.other.toList=b.other.toList∧a.dm.toList=b.dm.toList∧a.cW.toList=b.cW.toList∧a.uy=b.uy∧a.ae=b.ae∧a.op.toList=b.op.toList ∧
  (a.value.kind=b.value.kind∧a.value.int=b.value.int∧a.value.text.toList=b.value.text.toList)∧a.pZ=b.pZ ∧
  (a.qH.table.toList=b.qH.table.toList∧a.qH.left=b.qH.left∧a.qH.op.toList=b.qH.op.toList∧a.qH.right=b.qH.right∧a.qH.value.kind=b.qH.value.kind∧a.qH.value.int=b.qH.value.int∧a.qH.value.text.toList=b.qH.value.text.toList)∧a.fk=b.fk:=by
 constructor
 ·rintro rfl
  simp
 ·rintro ⟨h1,h2,h3,h4,h5,h6,h7,h8,h9,h10,h11,h12⟩
  have h9:=GV.2 h9
  have h11:=I'.2 h11
  cases a
  cases b
  simp only at *
  subst h1 h6 h7 h9 h10 h11 h12
  rw [Bd h2,Bd h3,Bd h4,Bd h5,Bd h8]
theorem M6 (v:fM) (c:gK):Sat Tryz.prog 149 [.agg (bd v),.agg (aT c)] (.v (oI (Ac v c))):=by
 refine ZE Tryz.func149 Tryz.ntmps149 fun w0 m0 F0=>?_
 refine pK Z0 (Z1 (u7 v)) ?_;repeat' (first|apply Zb|apply Zn|(apply Zm;intro h))
 all_goals simp -dsimp (disch:=first|exact D|fail) only [aR,Tryz.results149,aQ,aS,aO,St.rest,St.freeze,RT,go_sem,↓reduceIte,seval]
 all_goals simp_all [Ac]
theorem UU (s:aq) (i:Nat) (st:aG) (hi:i<s.tables.length) (sm:sR s) (hst:st.ae.length≤140737488355328) (hE:xg s (bq s i) st≠0) :
  db Tryz.prog 85 [.one (.ptr 1000 0),oI i,.agg (aj st)] (iB s) (iR s) (.v (oI (rE (td s i st)))) (dh (td s i st)) (di (td s i st)):=by
 have b1:=sm.tables
 have b2:=sm.table s.tables[i] (bl hi)
 have b3:=sm.ak
 have b4:=sm.cons
 obtain ⟨t,ht⟩:∃t,s.tables[i]=t:=⟨_,rfl⟩
 have htA:bq s i=t:=by unfold bq;rw [bE _ hi,ht]
 rw [ht] at b2
 rw [htA] at hE
 have cs:=M' s t st (by omega) (by omega) (by omega) hst
 have lm:(s.tables.map ap).length=s.tables.length:=bw ..
 have gi:(s.tables.map ap).getD i []=ap t:=by rw [bJ _ _ _ hi,ht]
 have spec:td s i st=.error (xg s t st):=by unfold td;simp only [htA];rw [if_pos hE]
 obtain ⟨q,hq⟩:∃q,xg s t st=q:=⟨_,rfl⟩
 rw [hq] at spec hE cs
 rw [spec]
 unfold iB iR dh di rE
 simp only
 refine ZM [1000] [1,2,3] Tryz.func85 Tryz.ntmps85 fun w0 m0 F0=>?_
 refine ab.eM 1000 rfl ?_
 refine ZU (Z3 @fG @eW @fH) ?_
 refine ab.eM 1001 rfl ?_
 refine ZU (Z3 @fG @eW @fH) ?_
 refine ZV (Z4 @aj.eq_1 @gi @lm @hE) (Z1 (cs)) (Z1 (Zd 2 [(0,5)] [(5,[(6,1)],[])] [5] 8)) Z0 ?_
 exact ZQ (Z1 Tryz.results85)
end Go.Bw
