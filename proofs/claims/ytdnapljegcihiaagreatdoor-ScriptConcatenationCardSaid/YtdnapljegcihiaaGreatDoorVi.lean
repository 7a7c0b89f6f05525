/-
  WHAT IS PROVED HERE, of this translation: keyOf_length, key_own, key_sat, validateFK_sat, zV_iff, relClone_own, relClone_sat, instClone_own, relClone_deep.
  A theorem that ends in sat says what the function it names returns, whatever the state it is called in; the bounds on its arguments stand ahead of it.
-/
import Derived.Test.YtdnapljegcihiaaGreatDoorVd
import Derived.Test.YtdnapljegcihiaaGreatDoorVe
set_option linter.unusedSimpArgs false
set_option linter.unusedVariables false
namespace Go.Bw
open Go.Proofs
theorem keyOf_length (pk:List Int) (r:Row):(keyOf pk r).length=pk.length:=by simp [keyOf]
set_option maxHeartbeats 4000000 in
theorem key_own (t : Tbl) (r : Row) (hpk : t.pk.length ≤ 1099511627776) : SatM Tryz.prog 57 [.agg (eTbl t), .one (eRow r)] [] [] (.v (.one (.ref 4 0 t.pk.length))) [] [(4, ⟨3, (keyOf t.pk r).map eVal, []⟩)] := by
  refine ZM [] [4] Tryz.func57 Tryz.ntmps57 fun w0 m0 F0 => ?_
  refine ZWpy Z0 Z0 ?_; repeat' (first | apply Zb | apply Zn | (apply Zm; intro h))
  refine AWP.loop (ι := {k : Nat // k ≤ t.pk.length}) (fun k => ⟨35, [(1, .v (.one (eRow r))), (5, .v (.one (.ref 5 0 k.1))), (10, .v (.one (eInts t.pk))), (11, .v (oI t.pk.length)), (12, .v (oI k.1))], [], [(5, ⟨3, (keyOf (t.pk.take k.1) r).map eVal, []⟩)]⟩) (fun k => t.pk.length - k.1) ⟨0, Nat.zero_le _⟩ ?_ fun ⟨k, hkl⟩ => ?_
  · exact ZL (Z1 @keyOf.eq_1)
  have hlen : (keyOf (t.pk.take k) r).length = k := by rw [keyOf_length]; simp; omega
  refine ZWpy (Z1 @hlen) Z0 ?_; repeat' (first | apply Zb | apply Zn | (apply Zm; intro h))
  all_goals first
    | (refine ⟨⟨k + 1, by omega⟩, by simp only; omega, ?_⟩
       have hk : k < t.pk.length := by omega
       have e : keyOf (t.pk.take (k + 1)) r = keyOf (t.pk.take k) r ++ [keyCell r t.pk[k]] := by
         unfold keyOf
         rw [take_snoc _ _ hk, List.map_append]
         rfl
       first
         | (have h2 : t.pk[k].toNat < r.length := by omega
            have e2 : keyCell r t.pk[k] = r[t.pk[k].toNat]'h2 := by
              rw [keyCell, if_pos ⟨by omega, by omega⟩]
              exact getD_lt _ h2
            exact ZL (Z2 @e @e2)
            )
         | (have e2 : keyCell r t.pk[k] = zV := by rw [keyCell, if_neg (by omega)]
            exact ZL (Z3 @e @e2 @zV.eq_1)
            )
         )
    | (have hk : k = t.pk.length := by omega
       refine ZR (Z1 Tryz.results57) ?_
       subst hk
       rfl)
theorem key_sat (t:Tbl) (r:Row) (hpk:t.pk.length≤1099511627776):Sat Tryz.prog 57 [.agg (eTbl t),.one (eRow r)] (.v (.one (eRow (keyOf t.pk r)))) :=
 (key_own t r hpk).frz (by
  have hl:=keyOf_length t.pk r
  simp -dsimp (disch:=first|exact D|fail) only [go_sem,↓reduceIte,seval,topL_ref,St.rest,roots,dropL_nil,eRow,keyOf_length]
  )
set_option maxHeartbeats 8000000 in
theorem validateFK_sat (s : Sch) (fk : FK) (h1 : s.tables.length ≤ 140737488355328) (h2 : fk.cols.length ≤ 140737488355328) (hok : ∀ t ∈ s.tables, OkTbl t) :
    Sat Tryz.prog 41 [.agg (eSch s), .agg (eFK fk)] (.v (oI (fkE s fk))) := by
  rcases idx_cases (fun t => sEq t.name fk.table) s.tables 0 with ⟨e1, _⟩ | ⟨i, hi, e1, _⟩
  · have e1 : tblAt s.tables fk.table = -1 := e1
    refine ZE Tryz.func41 Tryz.ntmps41 fun w0 m0 F0 => ?_
    repeat' (first | ((first | with_reducible refine qV tyOk fun K hK => ?_ | ((with_reducible refine CallJ.is ?_); (refine CallJ.pure (findTable_sat _ _ h1) ?_))) <;> simp -dsimp (disch := first | exact D | fail) only [go_sem, ↓reduceIte, seval, e1, mx0_neg]) | ((with_reducible refine hK _ ?_); clear hK K) | refine Q1 ?_ | ((with_reducible refine qW (T := TT) (b := ?_) ?_ ?_); rotate_left; exact rfl) | fail)
    refine ZR (Z1 Tryz.results41) ?_
    simp [fkE, e1]
  have e1 : tblAt s.tables fk.table = (i : Int) := by unfold tblAt; simpa using e1
  rcases idx_cases (fun t => sEq t.name fk.ref) s.tables 0 with ⟨e2, _⟩ | ⟨q, hq, e2, _⟩
  · have e2 : tblAt s.tables fk.ref = -1 := e2
    refine ZE Tryz.func41 Tryz.ntmps41 fun w0 m0 F0 => ?_
    repeat' (first | ((first | with_reducible refine qV tyOk fun K hK => ?_ | refine Q2 ?_ | ((with_reducible refine CallJ.is ?_); (refine CallJ.pure (findTable_sat _ _ h1) ?_))) <;> simp -dsimp (disch := first | exact D | fail) only [go_sem, ↓reduceIte, seval, e1, e2, mx0_neg, mx0_nat]) | ((with_reducible refine hK _ ?_); clear hK K) | refine Q1 ?_ | ((with_reducible refine qW (T := TT) (b := ?_) ?_ ?_); rotate_left; exact rfl) | fail)
    refine ZR (Z1 Tryz.results41) ?_
    simp [fkE, e2]
  have e2 : tblAt s.tables fk.ref = (q : Int) := by unfold tblAt; simpa using e2
  have g1 : s.tables.getD i zTbl = s.tables[i] := by simp [List.getD, hi]
  have g2 : s.tables.getD q zTbl = s.tables[q] := by simp [List.getD, hq]
  have spec : fkE s fk = fkTE fk s.tables[i] s.tables[q] := by
    simp only [fkE, e1, e2, Int.toNat_natCast, g1, g2]
    rw [if_neg (by omega)]
  have okr := hok _ (List.getElem_mem hq)
  rw [spec]
  refine ZE Tryz.func41 Tryz.ntmps41 fun w0 m0 F0 => ?_
  repeat' (first | ((first | ((fail_if_success (refine AWP.isRegion 5 ?_)); (with_reducible refine qV tyOk fun K hK => ?_)) | refine Q2 ?_ | ((with_reducible refine CallJ.is ?_); (refine CallJ.pure (findTable_sat _ _ h1) ?_))) <;> simp -dsimp (disch := first | exact D | fail) only [go_sem, ↓reduceIte, seval, e1, e2, mx0_neg, mx0_nat]) | ((with_reducible refine hK _ ?_); clear hK K) | refine Q1 ?_ | ((with_reducible refine qW (T := TT) (b := ?_) ?_ ?_); rotate_left; exact rfl) | fail)
  refine AWP.mid ⟨85, [(3, .v (.one (.ptr 3 0))), (9, .v (.one (.ptr 9 0))), (10, .v (.one (.ptr 10 0)))], [(3, eFK fk), (9, eTbl s.tables[i]), (10, eTbl s.tables[q])], []⟩ ?_ ?_
  · refine dY tyOk mixed [(0, 10)] (.cons 10 [] [(0, 10)] (.cons 11 [] [(0, 10)] (.cons 12 [] [(5, 5)] (.cons 13 [] [] .leaf .none) .none) .none) (.cons 11 [] [(0, 10)] (.cons 10 [] [(0, 10)] (.cons 12 [] [(5, 5)] (.cons 13 [] [] .leaf .none) .none) .none) .none)) [10, 11, 12, 13] 8 fun K hK => ?_
    simp only [segt_leaf, segt_none, segt_cons, segs, List.drop_succ_cons, List.drop_zero, List.take_succ_cons, List.take_zero, List.getElem?_cons_zero, List.getElem?_cons_succ, List.cons_append, List.nil_append, List.append_nil] at hK ⊢
    refine ZU Z0 ?_
    refine ZV Z0 Z0 Z0 Z0 ?_; repeat' (first | apply Zb | apply Zn | (apply Zk; intro K hK))
    all_goals refine Gq.done ⟨rfl, ?_⟩
    all_goals refine St.le_mk ?_ ?_ ?_ <;> simp only [LE, EN, Nat.reduceEqDiff, reduceIte, Nat.reduceSub, eTbl, eFK]
  refine ZWp Z0 Z0 ?_; repeat' (first | apply Zb | apply Zn | (apply Zm; intro h) | (apply Zk; intro K hK))
  rotate_left
  · refine ZR (Z1 Tryz.results41) ?_
    rename_i hl
    have hl' : ¬ fk.cols.length = s.tables[q].pk.length := by omega
    simp [fkTE, hl']
  have hl : fk.cols.length = s.tables[q].pk.length := by omega
  have spec : fkTE fk s.tables[i] s.tables[q] = match scan (fkColE s.tables[i] s.tables[q]) fk.cols 0 with | some e => e | none => 0 := by simp [fkTE, hl] <;> rfl
  rw [spec]
  refine AWP.loop (ι := {k : Nat // k ≤ fk.cols.length ∧ scan (fkColE s.tables[i] s.tables[q]) (fk.cols.drop k) k = scan (fkColE s.tables[i] s.tables[q]) fk.cols 0}) (fun k => ⟨85, [(9, .v (.one (.ptr 9 0))), (10, .v (.one (.ptr 10 0))), (51, .v (.one (eInts fk.cols))), (52, .v (oI fk.cols.length)), (53, .v (oI k.1))], [(9, eTbl s.tables[i]), (10, eTbl s.tables[q])], []⟩) (fun k => fk.cols.length - k.1) ⟨0, Nat.zero_le _, rfl⟩ ?_ fun ⟨k, hkl, hj⟩ => ?_
  · exact ZL (Z1 @eTbl.eq_1)
  rcases Nat.lt_or_ge k fk.cols.length with hc | hc
  · have hcp : k < s.tables[q].pk.length := by omega
    obtain ⟨p1, p2, -, -⟩ := okr.key k hcp
    refine ZWpy Z0 Z0 ?_; repeat' (first | apply Zb | apply Zn | (apply Zm; intro h) | (apply Zk; intro K hK))
    all_goals
      first
        | (have hs : (fkColE s.tables[i] s.tables[q]) k fk.cols[k] = none := by
             (simp (disch := omega) only [fkColE, getD_lt]; (repeat' split) <;> first | rfl | with_reducible assumption | omega | (exfalso; omega) | (simp_all; done) | (simp_all; omega))
           refine ⟨⟨k + 1, by omega, by rw [scan_step (by omega) hs, hj]⟩, by simp only; omega, ?_⟩
           exact ZL (Z1 @eTbl.eq_1)
           done)
        | (simp -dsimp (disch := first | exact D | fail) only [retQ, Tryz.results41, resVals, cellRV, resOf, St.rest, St.freeze, RT, go_sem, ↓reduceIte, seval]
           rw [scan_leaf (by omega) ?_ hj]
           all_goals first | with_reducible rfl | ((simp (disch := omega) only [fkColE, getD_lt]; (repeat' split) <;> first | rfl | with_reducible assumption | omega | (exfalso; omega) | (simp_all; done) | (simp_all; omega)); done) | rfl
           done)
  · rw [scan_end (by omega)] at hj
    refine ZW Z0 Z0 ?_; repeat' (first | apply Zb | apply Zn | (apply Zk; intro K hK))
    refine ZR (Z1 Tryz.results41) ?_
    rw [← hj]

theorem zV_iff {v:Val}:v=zV↔v.kind=0∧v.int=0∧v.text.toList=ByteArray.empty.toList:=by
 constructor
 ·rintro rfl
  exact ⟨rfl,rfl,rfl⟩
 ·rintro ⟨a,b,c⟩
  cases v
  simp only at a b c
  subst a b
  rw [bytes_ext c]
  rfl
set_option maxHeartbeats 8000000 in
theorem relClone_own (l:List Row) (h1:l.length≤1099511627776) (h2:∀r∈l,r.length≤1099511627776):SatM Tryz.prog 139 [.one (eRows l)] [] [] (.v (.one (.ref 2 0 l.length))) [] [(2,⟨1,l.map eRow1,[]⟩)]:=by
 refine ZM [] [2] Tryz.func139 Tryz.ntmps139 fun w0 m0 F0=>?_
 refine ZWpy Z0 Z0 ?_;repeat' (first|apply Zb|apply Zn|(apply Zm;intro h))
 refine AWP.loop (ι:={k:Nat // k≤l.length}) (fun k=>⟨19,[(3,.v (.one (.ref 3 0 k.1))),(6,.v (.one (eRows l))),(7,.v (oI l.length)),(8,.v (oI k.1))],[],[(3,⟨1,(l.take k.1).map eRow1,[]⟩)]⟩) (fun k=>l.length - k.1) ⟨0,Nat.zero_le _⟩ ?_ fun ⟨k,hkl⟩=>?_
 ·exact ZL Z0
 have hlen:(l.take k).length=k:=by simp;omega
 rcases Nat.lt_or_ge k l.length with hc|hc
 ·have b1:=h2 l[k] (List.getElem_mem hc)
  repeat' (first|((first|with_reducible refine qV tyOk fun K hK=>?_|refine Q2 ?_|((with_reducible first|refine qS ?_ ?_|refine qT ?_ ?_|refine qU ?_ ?_)<;>(intro h;try simp only [NM] at h))|with_reducible refine yD tyOk mixed 6 (by kernel_rfl) fun K hK=>?_|((with_reducible refine CallJ.is ?_);(first|refine CallJ.pure (cloneRow_sat _ b1) ?_|((apply CallJ.lentI);(focus (simp -dsimp (disch:=first|exact D|fail) only [go_sem,↓reduceIte,seval,hlen];rfl));(focus (first|exact (cloneRow_sat _ b1))))))|((with_reducible refine CallH.is ?_);(first|refine CallH.intro (cloneRow_sat _ b1) ?_)))<;>simp -dsimp (disch:=first|exact D|fail) only [go_sem,↓reduceIte,seval,hlen])|((with_reducible refine hK _ ?_);clear hK K)|refine Q1 ?_|((with_reducible refine qW (T:=TT) (b:=?_) ?_ ?_);rotate_left;exact rfl)|((with_reducible refine yS ?_ ?_)<;>(intro h;try simp only [NM] at h)))
  refine ⟨⟨k+1,by omega⟩,by simp only;omega,?_⟩
  have e:=take_snoc l k hc
  exact ZL (Z3 @e @eRow1.eq_1 @eRow.eq_1)
 ·have hk:k=l.length:=by omega
  subst hk
  refine ZWpy Z0 Z0 ?_;repeat' (first|apply Zb|apply Zn|(apply Zm;intro h))
  exact ZQ (Z1 Tryz.results139)
theorem relClone_sat (l:List Row) (h1:l.length≤1099511627776) (h2:∀r∈l,r.length≤1099511627776):Sat Tryz.prog 139 [.one (eRows l)] (.v (.one (eRows l))) :=
 (relClone_own l h1 h2).frz (by
  simp -dsimp (disch:=first|exact D|fail) only [go_sem,↓reduceIte,seval,topL_ref,St.rest,roots,dropL_nil,eRows]
  )
def atKey (t:Tbl) (key:Row) (r:Row):Bool:=decide (0≤cmpRows (keyOf t.pk r) key)
def findPos (t:Tbl) (rows:List Row) (key:Row):Int:=idx (atKey t key) rows 0
def findI (t:Tbl) (rows:List Row) (key:Row):Int:=if findPos t rows key<0 then rows.length else findPos t rows key
def findB (t:Tbl) (rows:List Row) (key:Row):Bool:=if findPos t rows key<0 then false else cmpRows (keyOf t.pk (rows.getD (findPos t rows key).toNat [])) key==0
def pairE (t:Tbl) (rows:List Row) (j:Nat) (x:Row):Option Int :=
 if rowE t x≠0 then some (rowE t x) else if j=0 then none else
 if cmpRows (keyOf t.pk (rows.getD ((j:Int) - 1).toNat [])) (keyOf t.pk x)=0 then some 9 else if 0<cmpRows (keyOf t.pk (rows.getD ((j:Int) - 1).toNat [])) (keyOf t.pk x) then some 6 else none
def relE (s:Sch) (k:Nat) (r:Rel):Option Int :=
 if sEq r.table (s.tables.getD k zTbl).name=false then some 3 else if 24<r.rows.length then some 2 else scan (pairE (s.tables.getD k zTbl) r.rows) r.rows 0
def confE (s:Sch) (i:Inst):Int :=
 if i.length≠s.tables.length then 3 else match scan (relE s) i 0 with
  | some e=>e
  | none=>0
set_option maxHeartbeats 8000000 in
theorem instClone_own (i:Inst) (h1:i.length≤1099511627776) (h2:∀r∈i,r.rows.length≤1099511627776∧∀x∈r.rows,x.length≤1099511627776):SatM Tryz.prog 104 [.one (eInst i)] [] [] (.v (.one (.ref 2 0 i.length))) [] [(2,⟨2,i.map eRel,[]⟩)]:=by
 refine ZM [] [2] Tryz.func104 Tryz.ntmps104 fun w0 m0 F0=>?_
 refine ZWpy Z0 Z0 ?_;repeat' (first|apply Zb|apply Zn|(apply Zm;intro h)|(apply Zk;intro K hK))
 refine AWP.loop (ι:={k:Nat // k≤i.length}) (fun k=>⟨23,[(3,.v (.one (.ref 3 0 k.1))),(6,.v (.one (eInst i))),(7,.v (oI i.length)),(8,.v (oI k.1))],[],[(3,⟨2,(i.take k.1).map eRel,[]⟩)]⟩) (fun k=>i.length - k.1) ⟨0,Nat.zero_le _⟩ ?_ fun ⟨k,hkl⟩=>?_
 ·exact ZL Z0
 have hlen:(i.take k).length=k:=by simp;omega
 rcases Nat.lt_or_ge k i.length with hc|hc
 ·obtain ⟨b1,b2⟩:=h2 i[k] (List.getElem_mem hc)
  refine ZWp (Z1 @hlen) Z0 ?_;repeat' (first|apply Zb|apply Zn|(apply Zm;intro h)|(apply Zk;intro K hK))
  refine AWP.drawT tyOk mixed 8 8 (by kernel_rfl) rfl rfl fun K hK=>?_
  refine ZU (Z1 @hlen) ?_
  refine ZWp (Z1 @hlen) (Z1 (relClone_sat i[k].rows b1 b2)) ?_;repeat' (first|apply Zb|apply Zn|(apply Zm;intro h)|(apply Zk;intro K hK))
  intro K hK
  refine ZU (Z1 @hlen) ?_
  refine ZWp (Z1 @hlen) Z0 ?_;repeat' (first|apply Zb|apply Zn|(apply Zm;intro h)|(apply Zk;intro K hK))
  refine ⟨⟨k+1,by omega⟩,by simp only;omega,?_⟩
  have e:=take_snoc i k hc
  exact ZL (Z3 @e @eRel.eq_1 @eRows.eq_1)
 ·have hk:k=i.length:=by omega
  subst hk
  refine ZWpy Z0 Z0 ?_;repeat' (first|apply Zb|apply Zn|(apply Zm;intro h)|(apply Zk;intro K hK))
  exact ZQ (Z1 Tryz.results104)
set_option maxHeartbeats 8000000 in
theorem relClone_deep (l:List Row) (h1:l.length≤1048576) (h2:∀r∈l,r.length≤1048576):SatM Tryz.prog 139 [.one (eRows l)] [] [] (.v (.one (.ref 2 0 l.length))) [] [(2,⟨1,l.map eRowO,[]⟩)]:=by
 refine ZM [] [2] Tryz.func139 Tryz.ntmps139 fun w0 m0 F0=>?_
 refine ZW Z0 Z0 ?_
 refine AWP.loop (ι:={k:Nat // k≤l.length}) (fun k=>⟨19,[(3,.v (.one (.ref 3 0 k.1))),(6,.v (.one (eRows l))),(7,.v (oI l.length)),(8,.v (oI k.1))],[],[(3,⟨1,(l.take k.1).map eRowO,[]⟩)]⟩) (fun k=>l.length - k.1) ⟨0,Nat.zero_le _⟩ ?_ fun ⟨k,hkl⟩=>?_
 ·exact ZL Z0
 simp only at hkl ⊢
 have hlen:(l.take k).length=k:=by simp;omega
 rcases Nat.lt_or_ge k l.length with hc|hc
 ·have b1:=h2 l[k] (List.getElem_mem hc)
  have es:=take_snoc l k hc
  refine ZV (Z4 @hlen @dropL_nil @dropL_nil' @dropL_cons) Z0 (Z1 (Zs 6)) (Z1 (Zi [] [] [] [(2,14)] [] [14] [] [14] (cloneRow_own l[k] (by omega)))) ?_
  refine AWP.close 3 k 0 14 rfl rfl (by decide) (by simp [ovGet]) (by simp;omega) (by show 0<1;decide) rfl ?_
  refine ZU (Z3 @closeR_mk @ovCut_cons @ovCut_nil) ?_
  rw [setCell_last eRowO _ k hlen.symm]
  refine ZW Z0 Z0 ?_
  refine ⟨⟨k+1,by omega⟩,by simp only;omega,?_⟩
  exact ZN (Z2 @es @eRowO.eq_1)
 ·have hk:k=l.length:=by omega
  subst hk
  refine ZW Z0 Z0 ?_
  simp -dsimp (disch:=first|exact D|fail) only [retQ,Tryz.results139,resVals,cellRV,resOf,St.rest,St.freeze,RT,go_sem,↓reduceIte,seval]
  all_goals rw [List.take_length]
end Go.Bw
