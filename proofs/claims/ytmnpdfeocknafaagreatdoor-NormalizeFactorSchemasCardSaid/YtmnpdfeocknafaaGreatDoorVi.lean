/- Proved: contracts of functions of this translation, for every state, and what they rest on; bounds stand ahead. -/
import Derived.Test.YtmnpdfeocknafaaGreatDoorVd
import Derived.Test.YtmnpdfeocknafaaGreatDoorVe
set_option maxHeartbeats 64000000
set_option linter.unusedSimpArgs false
set_option linter.unusedVariables false
namespace Go.Bw
open Go.Proofs
theorem vD (pk:List Int) (r:Row):(keyOf pk r).length=pk.length:=by simp [keyOf]
theorem PN (t : au) (r : Row) (hpk : t.pk.length ≤ 1099511627776) : db Tryz.prog 104 [.agg (ap t), .one (cT r)] [] [] (.v (.one (.ref 4 0 t.pk.length))) [] [(4, ⟨3, (keyOf t.pk r).map bd, []⟩)] := by
  refine ZM [] [4] Tryz.func104 Tryz.ntmps104 fun w0 m0 F0 => ?_
  refine rj Z0 Z0 ?_; repeat' (first | apply Zb | apply Zn | (apply Zm; intro h))
  refine ab.loop (ι := {k : Nat // k ≤ t.pk.length}) (fun k => ⟨35, [(1, .v (.one (cT r))), (5, .v (.one (.ref 5 0 k.1))), (10, .v (.one (bj t.pk))), (11, .v (oI t.pk.length)), (12, .v (oI k.1))], [], [(5, ⟨3, (keyOf (t.pk.take k.1) r).map bd, []⟩)]⟩) (fun k => t.pk.length - k.1) ⟨0, bg _⟩ ?_ fun ⟨k, hkl⟩ => ?_
  · exact ZL (Z1 @keyOf.eq_1)
  have hlen : (keyOf (t.pk.take k) r).length = k := by rw [vD]; simp; omega
  refine rj (Z1 @hlen) Z0 ?_; repeat' (first | apply Zb | apply Zn | (apply Zm; intro h))
  all_goals first
    | (refine ⟨⟨k + 1, by omega⟩, by simp only; omega, ?_⟩
       have hk : k < t.pk.length := by omega
       have e : keyOf (t.pk.take (k + 1)) r = keyOf (t.pk.take k) r ++ [wS r t.pk[k]] := by
         unfold keyOf
         rw [qd _ _ hk, dn]
         rfl
       first
         | (have h2 : t.pk[k].toNat < r.length := by omega
            have e2 : wS r t.pk[k] = r[t.pk[k].toNat]'h2 := by
              rw [wS, if_pos ⟨by omega, by omega⟩]
              exact bE _ h2
            exact ZL (Z2 @e @e2)
            )
         | (have e2 : wS r t.pk[k] = zV := by rw [wS, if_neg (by omega)]
            exact ZL (Z3 @e @e2 @zV.eq_1)
            )
         )
    | (have hk : k = t.pk.length := by omega
       refine ZR (Z1 Tryz.results104) ?_
       subst hk
       rfl)
theorem IS (s : aq) (fk : FK) (h1 : s.tables.length ≤ 140737488355328) (h2 : fk.ae.length ≤ 140737488355328) (hok : ∀ t ∈ s.tables, uD t) :
    Sat Tryz.prog 75 [.agg (aC s), .agg (aL fk)] (.v (oI (ye s fk))) := by
  rcases qn (fun t => aw t.name fk.table) s.tables 0 with ⟨e1, _⟩ | ⟨i, hi, e1, _⟩
  · have e1 : aY s.tables fk.table = -1 := e1
    refine ZE Tryz.func75 Tryz.ntmps75 fun w0 m0 F0 => ?_
    repeat' (first | ((first | with_reducible refine qV ah fun K hK => ?_ | ((with_reducible refine ai.is ?_); (refine ai.pure (qP _ _ h1) ?_))) <;> simp -dsimp (disch := first | exact D | fail) only [go_sem, ↓reduceIte, seval, e1, ux]) | ((with_reducible refine hK _ ?_); clear hK K) | refine Q1 ?_ | ((with_reducible refine qW (T := TT) (b := ?_) ?_ ?_); rotate_left; exact rfl) | fail)
    refine ZR (Z1 Tryz.results75) ?_
    simp [ye, e1]
  have e1 : aY s.tables fk.table = (i : Int) := by unfold aY; simpa using e1
  rcases qn (fun t => aw t.name fk.ref) s.tables 0 with ⟨e2, _⟩ | ⟨q, hq, e2, _⟩
  · have e2 : aY s.tables fk.ref = -1 := e2
    refine ZE Tryz.func75 Tryz.ntmps75 fun w0 m0 F0 => ?_
    repeat' (first | ((first | with_reducible refine qV ah fun K hK => ?_ | refine Q2 ?_ | ((with_reducible refine ai.is ?_); (refine ai.pure (qP _ _ h1) ?_))) <;> simp -dsimp (disch := first | exact D | fail) only [go_sem, ↓reduceIte, seval, e1, e2, ux, rZ]) | ((with_reducible refine hK _ ?_); clear hK K) | refine Q1 ?_ | ((with_reducible refine qW (T := TT) (b := ?_) ?_ ?_); rotate_left; exact rfl) | fail)
    refine ZR (Z1 Tryz.results75) ?_
    simp [ye, e2]
  have e2 : aY s.tables fk.ref = (q : Int) := by unfold aY; simpa using e2
  have g1 : s.tables.getD i tL = s.tables[i] := by simp [List.getD, hi]
  have g2 : s.tables.getD q tL = s.tables[q] := by simp [List.getD, hq]
  have spec : ye s fk = BI fk s.tables[i] s.tables[q] := by
    simp only [ye, e1, e2, bG, g1, g2]
    rw [if_neg (by omega)]
  have okr := hok _ (bl hq)
  rw [spec]
  refine ZE Tryz.func75 Tryz.ntmps75 fun w0 m0 F0 => ?_
  repeat' (first | ((first | ((fail_if_success (refine ab.bC 5 ?_)); (with_reducible refine qV ah fun K hK => ?_)) | refine Q2 ?_ | ((with_reducible refine ai.is ?_); (refine ai.pure (qP _ _ h1) ?_))) <;> simp -dsimp (disch := first | exact D | fail) only [go_sem, ↓reduceIte, seval, e1, e2, ux, rZ]) | ((with_reducible refine hK _ ?_); clear hK K) | refine Q1 ?_ | ((with_reducible refine qW (T := TT) (b := ?_) ?_ ?_); rotate_left; exact rfl) | fail)
  refine ab.we ⟨85, [(3, .v (.one (.ptr 3 0))), (9, .v (.one (.ptr 9 0))), (10, .v (.one (.ptr 10 0)))], [(3, aL fk), (9, ap s.tables[i]), (10, ap s.tables[q])], []⟩ ?_ ?_
  · refine dY ah mixed [(0, 10)] (.cons 10 [] [(0, 10)] (.cons 11 [] [(0, 10)] (.cons 12 [] [(5, 5)] (.cons 13 [] [] .leaf .none) .none) .none) (.cons 11 [] [(0, 10)] (.cons 10 [] [(0, 10)] (.cons 12 [] [(5, 5)] (.cons 13 [] [] .leaf .none) .none) .none) .none)) [10, 11, 12, 13] 8 fun K hK => ?_
    simp only [vT, vU, vV, bb, eo, dA, dV, c9, c8, dr, aW, aZ, bM] at hK ⊢
    refine ZU Z0 ?_
    refine ZV Z0 Z0 Z0 Z0 ?_; repeat' (first | apply Zb | apply Zn | (apply Zk; intro K hK))
    all_goals refine Gq.done ⟨rfl, ?_⟩
    all_goals refine St.bN ?_ ?_ ?_ <;> simp only [LE, EN, Nat.reduceEqDiff, reduceIte, Nat.reduceSub, ap, aL]
  refine pK Z0 Z0 ?_; repeat' (first | apply Zb | apply Zn | (apply Zm; intro h) | (apply Zk; intro K hK))
  rotate_left
  · refine ZR (Z1 Tryz.results75) ?_
    rename_i hl
    have hl' : ¬ fk.ae.length = s.tables[q].pk.length := by omega
    simp [BI, hl']
  have hl : fk.ae.length = s.tables[q].pk.length := by omega
  have spec : BI fk s.tables[i] s.tables[q] = match scan (xO s.tables[i] s.tables[q]) fk.ae 0 with | some e => e | none => 0 := by simp [BI, hl] <;> rfl
  rw [spec]
  refine ab.loop (ι := {k : Nat // k ≤ fk.ae.length ∧ scan (xO s.tables[i] s.tables[q]) (fk.ae.drop k) k = scan (xO s.tables[i] s.tables[q]) fk.ae 0}) (fun k => ⟨85, [(9, .v (.one (.ptr 9 0))), (10, .v (.one (.ptr 10 0))), (51, .v (.one (bj fk.ae))), (52, .v (oI fk.ae.length)), (53, .v (oI k.1))], [(9, ap s.tables[i]), (10, ap s.tables[q])], []⟩) (fun k => fk.ae.length - k.1) ⟨0, bg _, rfl⟩ ?_ fun ⟨k, hkl, hj⟩ => ?_
  · exact ZL (Z1 @ap.eq_1)
  rcases cV k fk.ae.length with hc | hc
  · have hcp : k < s.tables[q].pk.length := by omega
    obtain ⟨p1, p2, -, -⟩ := okr.key k hcp
    refine rj Z0 Z0 ?_; repeat' (first | apply Zb | apply Zn | (apply Zm; intro h) | (apply Zk; intro K hK))
    all_goals
      first
        | (have hs : (xO s.tables[i] s.tables[q]) k fk.ae[k] = none := by
             (simp (disch := omega) only [xO, bE]; (repeat' split) <;> first | rfl | with_reducible assumption | omega | (exfalso; omega) | (simp_all; done) | (simp_all; omega))
           refine ⟨⟨k + 1, by omega, by rw [wG (by omega) hs, hj]⟩, by simp only; omega, ?_⟩
           exact ZL (Z1 @ap.eq_1)
           done)
        | (simp -dsimp (disch := first | exact D | fail) only [aR, Tryz.results75, aQ, aS, aO, St.rest, St.freeze, RT, go_sem, ↓reduceIte, seval]
           rw [vB (by omega) ?_ hj]
           all_goals first | with_reducible rfl | ((simp (disch := omega) only [xO, bE]; (repeat' split) <;> first | rfl | with_reducible assumption | omega | (exfalso; omega) | (simp_all; done) | (simp_all; omega)); done) | rfl
           done)
  · rw [xL (by omega)] at hj
    refine ZW Z0 Z0 ?_; repeat' (first | apply Zb | apply Zn | (apply Zk; intro K hK))
    refine ZR (Z1 Tryz.results75) ?_
    rw [← hj]
theorem NQ {v:fM}:v=zV↔v.kind=0∧v.int=0∧v.text.toList=ByteArray.empty.toList:=by
 constructor
 ·rintro rfl
  exact ⟨rfl,rfl,rfl⟩
 ·rintro ⟨a,b,c⟩
  cases v
  simp only at a b c
  subst a b
  rw [Bd c]
  rfl
theorem Lf (l:List Row) (h1:l.length≤1099511627776) (h2:∀r∈l,r.length≤1099511627776):db Tryz.prog 105 [.one (bm l)] [] [] (.v (.one (.ref 2 0 l.length))) [] [(2,⟨1,l.map cU,[]⟩)]:=by
 refine ZM [] [2] Tryz.func105 Tryz.ntmps105 fun w0 m0 F0=>?_
 refine rj Z0 Z0 ?_;repeat' (first|apply Zb|apply Zn|(apply Zm;intro h))
 refine ab.loop (ι:={k:Nat // k≤l.length}) (fun k=>⟨19,[(3,.v (.one (.ref 3 0 k.1))),(6,.v (.one (bm l))),(7,.v (oI l.length)),(8,.v (oI k.1))],[],[(3,⟨1,(l.take k.1).map cU,[]⟩)]⟩) (fun k=>l.length - k.1) ⟨0,bg _⟩ ?_ fun ⟨k,hkl⟩=>?_
 ·exact ZL Z0
 have hlen:(l.take k).length=k:=by simp;omega
 rcases cV k l.length with hc|hc
 ·have b1:=h2 l[k] (bl hc)
  repeat' (first|((first|with_reducible refine qV ah fun K hK=>?_|refine Q2 ?_|((with_reducible first|refine qS ?_ ?_|refine qT ?_ ?_|refine qU ?_ ?_)<;>(intro h;try simp only [NM] at h))|with_reducible refine yD ah mixed 6 (by kernel_rfl) fun K hK=>?_|((with_reducible refine ai.is ?_);(first|refine ai.pure (zq _ b1) ?_|((apply ai.cO);(focus (simp -dsimp (disch:=first|exact D|fail) only [go_sem,↓reduceIte,seval,hlen];rfl));(focus (first|exact (zq _ b1))))))|((with_reducible refine bH.is ?_);(first|refine bH.intro (zq _ b1) ?_)))<;>simp -dsimp (disch:=first|exact D|fail) only [go_sem,↓reduceIte,seval,hlen])|((with_reducible refine hK _ ?_);clear hK K)|refine Q1 ?_|((with_reducible refine qW (T:=TT) (b:=?_) ?_ ?_);rotate_left;exact rfl)|((with_reducible refine yS ?_ ?_)<;>(intro h;try simp only [NM] at h)))
  refine ⟨⟨k+1,by omega⟩,by simp only;omega,?_⟩
  have e:=qd l k hc
  exact ZL (Z3 @e @cU.eq_1 @cT.eq_1)
 ·have hk:k=l.length:=by omega
  subst hk
  refine rj Z0 Z0 ?_;repeat' (first|apply Zb|apply Zn|(apply Zm;intro h))
  exact ZQ (Z1 Tryz.results105)
theorem Vh (s:aG):Sat Tryz.prog 80 [.agg (aj s)] (.v (.agg (aj (uz s)))):=by
 refine ZE Tryz.func80 Tryz.ntmps80 fun w0 m0 F0=>?_
 repeat' (first|((first|with_reducible refine qV ah fun K hK=>?_|(refine ab.bC 4 ?_;refine dX ah mixed [(0,7)] [(7,[(8,1)],[(2,4)]),(9,[(10,1)],[(4,2)]),(11,[],[])] [7,9,11] 8 fun K hK=>?_;simp only [SG,bb] at hK ⊢)|(refine ab.bC 6 ?_;refine dX ah mixed [(0,5)] [(5,[(6,1)],[(2,2)]),(7,[],[])] [5,7] 8 fun K hK=>?_;simp only [SG,bb] at hK ⊢)|(refine ab.bC 8 ?_;refine dX ah mixed [(0,5)] [(5,[(6,1)],[(2,2)]),(7,[],[])] [5,7] 8 fun K hK=>?_;simp only [SG,bb] at hK ⊢)|(refine ab.bC 12 ?_;refine dX ah mixed [(0,5)] [(5,[(6,1)],[(2,2)]),(7,[],[])] [5,7] 8 fun K hK=>?_;simp only [SG,bb] at hK ⊢)|(refine ab.bC 14 ?_;refine dX ah mixed [(0,5)] [(5,[(6,1)],[(2,2)]),(7,[],[])] [5,7] 8 fun K hK=>?_;simp only [SG,bb] at hK ⊢)|(refine ab.bC 18 ?_;refine dX ah mixed [(0,9)] [(9,[(10,1)],[(2,6)]),(11,[(12,1)],[(4,4)]),(13,[(14,1)],[(6,2)]),(15,[],[])] [9,11,13,15] 8 fun K hK=>?_;simp only [SG,bb] at hK ⊢)|(refine ab.bC 20 ?_;refine dX ah mixed [(0,5)] [(5,[(6,1)],[(2,2)]),(7,[],[])] [5,7] 8 fun K hK=>?_;simp only [SG,bb] at hK ⊢)|(refine ab.bC 22 ?_;refine dX ah mixed [(0,3)] [(3,[(4,1)],[(0,2)]),(5,[],[])] [3,5] 8 fun K hK=>?_;simp only [SG,bb] at hK ⊢)|(refine ab.bC 24 ?_;refine dX ah mixed [(0,5)] [(5,[(6,1)],[(2,2)]),(7,[],[])] [5,7] 8 fun K hK=>?_;simp only [SG,bb] at hK ⊢)|(refine ab.bC 27 ?_;refine dX ah mixed [(0,3)] [(3,[(4,1)],[(0,2)]),(5,[],[])] [3,5] 8 fun K hK=>?_;simp only [SG,bb] at hK ⊢)|(refine ab.bC 30 ?_;refine dX ah mixed [(0,3)] [(3,[(4,1)],[(0,2)]),(5,[],[])] [3,5] 8 fun K hK=>?_;simp only [SG,bb] at hK ⊢)|(with_reducible first|refine an.some fun K hK=>?_|refine an.step fun K hK=>?_))<;>simp -dsimp (disch:=first|exact D|fail) only [go_sem,↓reduceIte,seval,aj])|((with_reducible refine hK _ ?_);clear hK K)|(with_reducible refine an.intro fun K0 hK0=>?_)|((with_reducible refine an.fin ?_);(refine hK0 _ ?_);clear hK0 K0)|(with_reducible first|refine an.quiet ?_|refine an.none ?_)|((with_reducible refine an.keep ?_ ?_);focus ((simp -dsimp (disch:=first|exact D|fail) only [go_sem,↓reduceIte,seval,gE,gD,gF,gG,aj]);first|done|exact E|fail))|refine Q1 ?_|((with_reducible refine qW (T:=TT) (b:=?_) ?_ ?_);rotate_left;exact rfl)|((with_reducible refine yS ?_ ?_)<;>(intro h;try simp only [NM] at h))|fail)
 all_goals simp -dsimp (disch:=first|exact D|fail) only [aR,Tryz.results80,aQ,aS,aO,St.rest,St.freeze,RT,go_sem,↓reduceIte,seval]
 all_goals try simp [uz,aj,rQ,J',Ka,bj,cS, *]
 all_goals rfl
theorem VD (l:List Row) (h1:l.length≤1048576) (h2:∀r∈l,r.length≤1048576):db Tryz.prog 105 [.one (bm l)] [] [] (.v (.one (.ref 2 0 l.length))) [] [(2,⟨1,l.map xm,[]⟩)]:=by
 refine ZM [] [2] Tryz.func105 Tryz.ntmps105 fun w0 m0 F0=>?_
 refine ZW Z0 Z0 ?_
 refine ab.loop (ι:={k:Nat // k≤l.length}) (fun k=>⟨19,[(3,.v (.one (.ref 3 0 k.1))),(6,.v (.one (bm l))),(7,.v (oI l.length)),(8,.v (oI k.1))],[],[(3,⟨1,(l.take k.1).map xm,[]⟩)]⟩) (fun k=>l.length - k.1) ⟨0,bg _⟩ ?_ fun ⟨k,hkl⟩=>?_
 ·exact ZL Z0
 simp only at hkl ⊢
 have hlen:(l.take k).length=k:=by simp;omega
 rcases cV k l.length with hc|hc
 ·have b1:=h2 l[k] (bl hc)
  have es:=qd l k hc
  refine ZV (Z4 @hlen @bh @bt @bu) Z0 (Z1 (Zs 6)) (Z1 (Zi [] [] [] [(2,14)] [] [14] [] [14] (JX l[k] (by omega)))) ?_
  refine ab.close 3 k 0 14 rfl rfl (by decide) (by simp [aP]) (by simp;omega) (by show 0<1;decide) rfl ?_
  refine ZU (Z3 @rG @rv @ru) ?_
  rw [ze xm _ k hlen.symm]
  refine ZW Z0 Z0 ?_
  refine ⟨⟨k+1,by omega⟩,by simp only;omega,?_⟩
  exact ZN (Z2 @es @xm.eq_1)
 ·have hk:k=l.length:=by omega
  subst hk
  refine ZW Z0 Z0 ?_
  simp -dsimp (disch:=first|exact D|fail) only [aR,Tryz.results105,aQ,aS,aO,St.rest,St.freeze,RT,go_sem,↓reduceIte,seval]
  all_goals rw [dw]
end Go.Bw
