/-
  WHAT IS PROVED HERE, of this translation: validateFK_sat, zV_iff, normalized_sat, schClone_own, evoE_ok, goS_ok, scrSchemas_ok, scrApply_ok, getD_edge, ancestors_sat, revTo_zero, revTo_all.
  A theorem that ends in sat says what the function it names returns, whatever the state it is called in; the bounds on its arguments stand ahead of it.
-/
import Derived.Test.YtjjnchbfjbjemaaGreatWd
import Derived.Test.YtjjnchbfjbjemaaGreatWe
set_option linter.unusedSimpArgs false
set_option linter.unusedVariables false
namespace Go.Bw
open Go.Proofs
set_option maxHeartbeats 8000000 in
theorem validateFK_sat (s : Sch) (fk : FK) (h1 : s.tables.length ≤ 140737488355328) (h2 : fk.cols.length ≤ 140737488355328) (hok : ∀ t ∈ s.tables, OkTbl t) :
    Sat Tryz.prog 47 [.agg (eSch s), .agg (eFK fk)] (.v (oI (fkE s fk))) := by
  rcases idx_cases (fun t => sEq t.name fk.table) s.tables 0 with ⟨e1, _⟩ | ⟨i, hi, e1, _⟩
  · have e1 : tblAt s.tables fk.table = -1 := e1
    refine sS tyOk Tryz.func47 fun w0 m0 F0 => ?_
    simp only [Tryz.ntmps47, envOf, Nat.reduceAdd]
    repeat' (first | ((first | with_reducible refine qV tyOk fun K hK => ?_ | ((with_reducible refine CallJ.is ?_); (refine CallJ.pure (findTable_sat _ _ h1) ?_))) <;> simp -dsimp (disch := first | exact D | fail) only [go_sem, ↓reduceIte, seval, e1, mx0_neg]) | ((with_reducible refine hK _ ?_); clear hK K) | refine Q1 ?_ | ((with_reducible refine qW (T := TT) (b := ?_) ?_ ?_); rotate_left; exact rfl) | fail)
    simp -dsimp (disch := first | exact D | fail) only [retQ, Tryz.results47, resVals, cellRV, resOf, St.rest, St.freeze, RT, go_sem, ↓reduceIte, seval]
    simp [fkE, e1]
  have e1 : tblAt s.tables fk.table = (i : Int) := by unfold tblAt; simpa using e1
  rcases idx_cases (fun t => sEq t.name fk.ref) s.tables 0 with ⟨e2, _⟩ | ⟨q, hq, e2, _⟩
  · have e2 : tblAt s.tables fk.ref = -1 := e2
    refine sS tyOk Tryz.func47 fun w0 m0 F0 => ?_
    simp only [Tryz.ntmps47, envOf, Nat.reduceAdd]
    repeat' (first | ((first | with_reducible refine qV tyOk fun K hK => ?_ | refine Q2 ?_ | ((with_reducible refine CallJ.is ?_); (refine CallJ.pure (findTable_sat _ _ h1) ?_))) <;> simp -dsimp (disch := first | exact D | fail) only [go_sem, ↓reduceIte, seval, e1, e2, mx0_neg, mx0_nat]) | ((with_reducible refine hK _ ?_); clear hK K) | refine Q1 ?_ | ((with_reducible refine qW (T := TT) (b := ?_) ?_ ?_); rotate_left; exact rfl) | fail)
    simp -dsimp (disch := first | exact D | fail) only [retQ, Tryz.results47, resVals, cellRV, resOf, St.rest, St.freeze, RT, go_sem, ↓reduceIte, seval]
    simp [fkE, e2]
  have e2 : tblAt s.tables fk.ref = (q : Int) := by unfold tblAt; simpa using e2
  have g1 : s.tables.getD i zTbl = s.tables[i] := by simp [List.getD, hi]
  have g2 : s.tables.getD q zTbl = s.tables[q] := by simp [List.getD, hq]
  have spec : fkE s fk = fkTE fk s.tables[i] s.tables[q] := by
    simp only [fkE, e1, e2, Int.toNat_natCast, g1, g2]
    rw [if_neg (by omega)]
  have okr := hok _ (List.getElem_mem hq)
  rw [spec]
  refine sS tyOk Tryz.func47 fun w0 m0 F0 => ?_
  simp only [Tryz.ntmps47, envOf, Nat.reduceAdd]
  repeat' (first | ((first | ((fail_if_success (refine AWP.isRegion 5 ?_)); (with_reducible refine qV tyOk fun K hK => ?_)) | refine Q2 ?_ | ((with_reducible refine CallJ.is ?_); (refine CallJ.pure (findTable_sat _ _ h1) ?_))) <;> simp -dsimp (disch := first | exact D | fail) only [go_sem, ↓reduceIte, seval, e1, e2, mx0_neg, mx0_nat]) | ((with_reducible refine hK _ ?_); clear hK K) | refine Q1 ?_ | ((with_reducible refine qW (T := TT) (b := ?_) ?_ ?_); rotate_left; exact rfl) | fail)
  refine AWP.mid ⟨85, [(3, .v (.one (.ptr 3 0))), (9, .v (.one (.ptr 9 0))), (10, .v (.one (.ptr 10 0)))], [(3, eFK fk), (9, eTbl s.tables[i]), (10, eTbl s.tables[q])], []⟩ ?_ ?_
  · refine dY tyOk mixed [(0, 10)] (.cons 10 [] [(0, 10)] (.cons 11 [] [(0, 10)] (.cons 12 [] [(5, 5)] (.cons 13 [] [] .leaf .none) .none) .none) (.cons 11 [] [(0, 10)] (.cons 10 [] [(0, 10)] (.cons 12 [] [(5, 5)] (.cons 13 [] [] .leaf .none) .none) .none) .none)) [10, 11, 12, 13] 8 fun K hK => ?_
    simp only [segt_leaf, segt_none, segt_cons, segs, List.drop_succ_cons, List.drop_zero, List.take_succ_cons, List.take_zero, List.getElem?_cons_zero, List.getElem?_cons_succ, List.cons_append, List.nil_append, List.append_nil] at hK ⊢
    simp -dsimp (disch := first | exact D | fail) only [go_sem, ↓reduceIte, seval, eTbl, eFK]
    repeat' (first | (((with_reducible refine VCt.step fun K hK => ?_)) <;> simp -dsimp (disch := first | exact D | fail) only [go_sem, ↓reduceIte, seval, eTbl, eFK]) | ((with_reducible refine hK _ ?_); clear hK K) | (with_reducible refine VCt.intro fun K0 hK0 => ?_) | ((with_reducible refine VCt.fin ?_); (refine hK0 _ ?_); clear hK0 K0) | (with_reducible first | refine VCy.quiet ?_ | refine VCt.none ?_) | ((with_reducible refine VCy.keep ?_ ?_); focus ((simp -dsimp (disch := first | exact D | fail) only [go_sem, ↓reduceIte, seval, Stable_cons, Stable_nil, sameA_some, sameA_none, eTbl, eFK]); first | done | exact E | fail)) | ((with_reducible refine VCt.fork (fun K hK => ?_) ?_); (focus (simp -dsimp (disch := first | exact D | fail) only [go_sem, ↓reduceIte, seval, eTbl, eFK]))) | refine Q1 ?_ | fail)
    all_goals refine Gq.done ⟨rfl, ?_⟩
    all_goals refine St.le_mk ?_ ?_ ?_ <;> simp only [LE, EN, Nat.reduceEqDiff, reduceIte, Nat.reduceSub, eTbl, eFK]
  repeat' (first | ((with_reducible refine qV tyOk fun K hK => ?_) <;> simp -dsimp (disch := first | exact D | fail) only [go_sem, ↓reduceIte, seval, eTbl, eFK]) | ((with_reducible refine hK _ ?_); clear hK K) | refine Q1 ?_ | ((with_reducible refine qW (T := TT) (b := ?_) ?_ ?_); rotate_left; exact rfl) | ((with_reducible refine yS ?_ ?_) <;> (intro h; try simp only [NM] at h)) | fail)
  rotate_left
  · simp -dsimp (disch := first | exact D | fail) only [retQ, Tryz.results47, resVals, cellRV, resOf, St.rest, St.freeze, RT, go_sem, ↓reduceIte, seval]
    rename_i hl
    have hl' : ¬ fk.cols.length = s.tables[q].pk.length := by omega
    simp [fkTE, hl']
  have hl : fk.cols.length = s.tables[q].pk.length := by omega
  have spec : fkTE fk s.tables[i] s.tables[q] = match scan (fkColE s.tables[i] s.tables[q]) fk.cols 0 with | some e => e | none => 0 := by simp [fkTE, hl] <;> rfl
  rw [spec]
  refine AWP.loop (ι := {k : Nat // k ≤ fk.cols.length ∧ scan (fkColE s.tables[i] s.tables[q]) (fk.cols.drop k) k = scan (fkColE s.tables[i] s.tables[q]) fk.cols 0}) (fun k => ⟨85, [(9, .v (.one (.ptr 9 0))), (10, .v (.one (.ptr 10 0))), (51, .v (.one (eInts fk.cols))), (52, .v (oI fk.cols.length)), (53, .v (oI k.1))], [(9, eTbl s.tables[i]), (10, eTbl s.tables[q])], []⟩) (fun k => fk.cols.length - k.1) ⟨0, Nat.zero_le _, rfl⟩ ?_ fun ⟨k, hkl, hj⟩ => ?_
  · refine St.le_mk ?_ ?_ ?_ <;> simp only [LE, EN, Nat.reduceEqDiff, reduceIte, Nat.reduceSub, eTbl]
  rcases Nat.lt_or_ge k fk.cols.length with hc | hc
  · have hcp : k < s.tables[q].pk.length := by omega
    obtain ⟨p1, p2, -, -⟩ := okr.key k hcp
    repeat' (first | ((first | with_reducible refine qV tyOk fun K hK => ?_ | refine Q2 ?_ | ((with_reducible refine qS ?_ ?_) <;> (intro h; try simp only [NM] at h)) | with_reducible refine yD tyOk mixed 6 (by kernel_rfl) fun K hK => ?_) <;> simp -dsimp (disch := first | exact D | fail) only [go_sem, ↓reduceIte, seval]) | ((with_reducible refine hK _ ?_); clear hK K) | refine Q1 ?_ | ((with_reducible refine qW (T := TT) (b := ?_) ?_ ?_); rotate_left; exact rfl) | ((with_reducible refine yS ?_ ?_) <;> (intro h; try simp only [NM] at h)) | fail)
    all_goals
      first
        | (have hs : (fkColE s.tables[i] s.tables[q]) k fk.cols[k] = none := by
             (simp (disch := omega) only [fkColE, getD_lt]; (repeat' split) <;> first | rfl | with_reducible assumption | omega | (exfalso; omega) | (simp_all; done) | (simp_all; omega))
           refine ⟨⟨k + 1, by omega, by rw [scan_step (by omega) hs, hj]⟩, by simp only; omega, ?_⟩
           refine St.le_mk ?_ ?_ ?_ <;> simp only [LE, EN, Nat.reduceEqDiff, reduceIte, Nat.reduceSub, eTbl]
           done)
        | (simp -dsimp (disch := first | exact D | fail) only [retQ, Tryz.results47, resVals, cellRV, resOf, St.rest, St.freeze, RT, go_sem, ↓reduceIte, seval]
           rw [scan_leaf (by omega) ?_ hj]
           all_goals first | with_reducible rfl | ((simp (disch := omega) only [fkColE, getD_lt]; (repeat' split) <;> first | rfl | with_reducible assumption | omega | (exfalso; omega) | (simp_all; done) | (simp_all; omega)); done) | rfl
           done)
  · rw [scan_end (by omega)] at hj
    repeat' (first | ((with_reducible refine qV tyOk fun K hK => ?_) <;> simp -dsimp (disch := first | exact D | fail) only [go_sem, ↓reduceIte, seval]) | ((with_reducible refine hK _ ?_); clear hK K) | refine Q1 ?_ | ((with_reducible refine qW (T := TT) (b := ?_) ?_ ?_); rotate_left; exact rfl) | fail)
    simp -dsimp (disch := first | exact D | fail) only [retQ, Tryz.results47, resVals, cellRV, resOf, St.rest, St.freeze, RT, go_sem, ↓reduceIte, seval]
    rw [← hj]

theorem zV_iff {v:Val}:v=zV↔v.kind=0∧v.int=0∧v.text.toList=ByteArray.empty.toList:=by
 constructor
 ·rintro rfl
  exact ⟨rfl,rfl,rfl⟩
 ·rintro ⟨a,b,c⟩
  cases v
  simp only at a b c
  subst a b
  rw [bytes_ext c]
  rfl
set_option maxHeartbeats 16000000 in
theorem normalized_sat (s:Stp):Sat Tryz.prog 94 [.agg (eStp s)] (.v (.agg (eStp (evNorm s)))):=by
 refine sS tyOk Tryz.func94 fun w0 m0 F0=>?_
 simp only [Tryz.ntmps94,envOf,Nat.reduceAdd]
 repeat' (first|((first|with_reducible refine qV tyOk fun K hK=>?_|(refine AWP.isRegion 4 ?_;refine dX tyOk mixed [(0,7)] [(7,[(8,1)],[(2,4)]),(9,[(10,1)],[(4,2)]),(11,[],[])] [7,9,11] 8 fun K hK=>?_;simp only [SG,segs] at hK ⊢)|(refine AWP.isRegion 6 ?_;refine dX tyOk mixed [(0,5)] [(5,[(6,1)],[(2,2)]),(7,[],[])] [5,7] 8 fun K hK=>?_;simp only [SG,segs] at hK ⊢)|(refine AWP.isRegion 8 ?_;refine dX tyOk mixed [(0,5)] [(5,[(6,1)],[(2,2)]),(7,[],[])] [5,7] 8 fun K hK=>?_;simp only [SG,segs] at hK ⊢)|(refine AWP.isRegion 12 ?_;refine dX tyOk mixed [(0,5)] [(5,[(6,1)],[(2,2)]),(7,[],[])] [5,7] 8 fun K hK=>?_;simp only [SG,segs] at hK ⊢)|(refine AWP.isRegion 14 ?_;refine dX tyOk mixed [(0,5)] [(5,[(6,1)],[(2,2)]),(7,[],[])] [5,7] 8 fun K hK=>?_;simp only [SG,segs] at hK ⊢)|(refine AWP.isRegion 18 ?_;refine dX tyOk mixed [(0,9)] [(9,[(10,1)],[(2,6)]),(11,[(12,1)],[(4,4)]),(13,[(14,1)],[(6,2)]),(15,[],[])] [9,11,13,15] 8 fun K hK=>?_;simp only [SG,segs] at hK ⊢)|(refine AWP.isRegion 20 ?_;refine dX tyOk mixed [(0,5)] [(5,[(6,1)],[(2,2)]),(7,[],[])] [5,7] 8 fun K hK=>?_;simp only [SG,segs] at hK ⊢)|(refine AWP.isRegion 22 ?_;refine dX tyOk mixed [(0,3)] [(3,[(4,1)],[(0,2)]),(5,[],[])] [3,5] 8 fun K hK=>?_;simp only [SG,segs] at hK ⊢)|(refine AWP.isRegion 24 ?_;refine dX tyOk mixed [(0,5)] [(5,[(6,1)],[(2,2)]),(7,[],[])] [5,7] 8 fun K hK=>?_;simp only [SG,segs] at hK ⊢)|(refine AWP.isRegion 27 ?_;refine dX tyOk mixed [(0,3)] [(3,[(4,1)],[(0,2)]),(5,[],[])] [3,5] 8 fun K hK=>?_;simp only [SG,segs] at hK ⊢)|(refine AWP.isRegion 30 ?_;refine dX tyOk mixed [(0,3)] [(3,[(4,1)],[(0,2)]),(5,[],[])] [3,5] 8 fun K hK=>?_;simp only [SG,segs] at hK ⊢)|(with_reducible first|refine VCy.some fun K hK=>?_|refine VCy.step fun K hK=>?_))<;>simp -dsimp (disch:=first|exact D|fail) only [go_sem,↓reduceIte,seval,eStp])|((with_reducible refine hK _ ?_);clear hK K)|(with_reducible refine VCy.intro fun K0 hK0=>?_)|((with_reducible refine VCy.fin ?_);(refine hK0 _ ?_);clear hK0 K0)|(with_reducible first|refine VCy.quiet ?_|refine VCy.none ?_)|((with_reducible refine VCy.keep ?_ ?_);focus ((simp -dsimp (disch:=first|exact D|fail) only [go_sem,↓reduceIte,seval,Stable_cons,Stable_nil,sameA_some,sameA_none,eStp]);first|done|exact E|fail))|refine Q1 ?_|((with_reducible refine qW (T:=TT) (b:=?_) ?_ ?_);rotate_left;exact rfl)|((with_reducible refine yS ?_ ?_)<;>(intro h;try simp only [NM] at h))|fail)
 all_goals simp -dsimp (disch:=first|exact D|fail) only [retQ,Tryz.results94,resVals,cellRV,resOf,St.rest,St.freeze,RT,go_sem,↓reduceIte,seval]
 all_goals try simp [evNorm,eStp,zStp,zCon,zFK,eInts,eCols, *]
 all_goals rfl
set_option maxHeartbeats 16000000 in
theorem schClone_own (s:Sch) (h1:s.tables.length≤1048576) (h2:s.fks.length≤1048576) (h3:s.cons.length≤1048576) (h4:∀t∈s.tables,t.cols.length≤1048576∧t.pk.length≤1048576) (h5:∀f∈s.fks,f.cols.length≤1048576) :
  SatM Tryz.prog 34 [.agg (eSch s)] [] [] (.v (.agg [.ref 24 0 s.tables.length,.ref 42 0 s.fks.length,.ref 10 0 s.cons.length])) [] [(24,⟨3,s.tables.map eTblO,[]⟩),(42,⟨3,s.fks.map eFKO,[]⟩),(10,⟨7,s.cons.map eCon,[]⟩)]:=by
 refine sM tyOk [] [24,42,10] Tryz.func34 fun w0 m0 F0=>?_
 simp only [Tryz.ntmps34,envOf,Nat.reduceAdd]
 repeat' (first|((first|((fail_if_success (refine AWP.isRegion 2 ?_));(with_reducible refine qV tyOk fun K hK=>?_))|((with_reducible refine CallJ.is ?_);refine CallJ.io [] [] [] [(2,10)] [] [10] [] [10] (cloneCons_own s.cons (by omega)) rfl ⟨rfl,rfl,rfl,rfl⟩ ?_ ?_ ?_))<;>simp -dsimp (disch:=first|exact D|fail) only [go_sem,↓reduceIte,seval,dropL_nil,dropL_nil',dropL_cons])|((with_reducible refine hK _ ?_);clear hK K)|refine Q1 ?_|fail)
 refine AWP.nilBox 3 0 24 rfl rfl (.inl (by show 24<46;decide)) ?_
 simp -dsimp (disch:=first|exact D|fail) only [go_sem,↓reduceIte,seval,nilBoxR_mk,List.set_cons_zero,List.set_cons_succ]
 repeat' (first|((with_reducible refine qV tyOk fun K hK=>?_)<;>simp -dsimp (disch:=first|exact D|fail) only [go_sem,↓reduceIte,seval])|((with_reducible refine hK _ ?_);clear hK K)|refine Q1 ?_|fail)
 refine AWP.loop (ι:={k:Nat // k≤s.tables.length}) (fun k=>⟨46,[(1,.v (.one (.ptr 1 0))),(2,.v (.one (.ptr 2 0))),(3,.v (.one (.ptr 3 0))),(13,.v (.one (.sl 3 (s.tables.map eTbl)))),(14,.v (oI s.tables.length)),(15,.v (oI k.1))],[(3,[.ref 24 0 k.1,.nil 3,.ref 10 0 s.cons.length]),(2,[.nil 3,.nil 3,.nil 7]),(1,eSch s)],[(24,⟨3,(s.tables.take k.1).map eTblO,[]⟩),(10,⟨7,s.cons.map eCon,[]⟩)]⟩) (fun k=>s.tables.length - k.1) ⟨0,Nat.zero_le _⟩ ?_ fun ⟨k,hkl⟩=>?_
 ·refine St.le_mk ?_ ?_ ?_<;>simp only [LE,EN,Nat.reduceEqDiff,reduceIte,Nat.reduceSub,eSch,List.map_nil]
 simp only at hkl ⊢
 have hlen:(s.tables.take k).length=k:=by simp;omega
 rcases Nat.lt_or_ge k s.tables.length with hc|hc
 ·have ht:=h4 s.tables[k] (List.getElem_mem hc)
  have es:=take_snoc s.tables k hc
  repeat' (first|((((fail_if_success (refine AWP.isRegion 5 ?_));(with_reducible refine qV tyOk fun K hK=>?_)))<;>simp -dsimp (disch:=first|exact D|fail) only [go_sem,↓reduceIte,seval])|((with_reducible refine hK _ ?_);clear hK K)|refine Q1 ?_|((with_reducible refine qW (T:=TT) (b:=?_) ?_ ?_);rotate_left;exact rfl)|fail)
  refine dX tyOk mixed [(0,3)] [(3,[],[(0,2)]),(4,[],[(0,2)]),(5,[(6,1)],[]),(7,[],[])] [3,4,5,7] 8 fun K hK=>?_
  simp only [SG,segs] at hK ⊢
  simp -dsimp (disch:=first|exact D|fail) only [go_sem,↓reduceIte,seval,hlen,Option.getD_none]
  repeat' (first|((first|((with_reducible refine CallJ.is ?_);refine CallJ.io [] [] [] [(7,22),(10,21)] [] [22,21] [] [22,21] (cloneTable_own s.tables[k] (by omega) (by omega)) rfl ⟨rfl,rfl,rfl,rfl⟩ ?_ ?_ ?_)|(with_reducible first|refine VCy.some fun K hK=>?_|refine VCy.step fun K hK=>?_))<;>simp -dsimp (disch:=first|exact D|fail) only [go_sem,↓reduceIte,seval,hlen,Option.getD_none,dropL_nil,dropL_nil',dropL_cons])|((with_reducible refine hK _ ?_);clear hK K)|(with_reducible refine VCy.intro fun K0 hK0=>?_)|((with_reducible refine VCy.fin ?_);(refine hK0 _ ?_);clear hK0 K0)|(with_reducible first|refine VCy.quiet ?_|refine VCy.none ?_)|((with_reducible refine VCy.keep ?_ ?_);focus ((simp -dsimp (disch:=first|exact D|fail) only [go_sem,↓reduceIte,seval,Stable_cons,Stable_nil,sameA_some,sameA_none,hlen,Option.getD_none,dropL_nil,dropL_nil',dropL_cons]);first|done|exact E|fail))|refine Q1 ?_|fail)
  refine AWP.close 24 k 1 22 rfl rfl (by decide) (by simp [ovGet]) (by simp;omega) (by show 1<3;decide) rfl ?_
  simp -dsimp (disch:=first|exact D|fail) only [go_sem,↓reduceIte,seval,closeR_mk,ovCut_cons,ovCut_nil]
  refine AWP.close 24 k 2 21 rfl rfl (by decide) (by simp [ovGet]) (by simp [setCell_length];omega) (by show 2<3;decide) rfl ?_
  simp -dsimp (disch:=first|exact D|fail) only [go_sem,↓reduceIte,seval,closeR_mk,ovCut_cons,ovCut_nil]
  rw [setCell_last eTblO _ k hlen.symm,setCell_last eTblO _ k hlen.symm]
  repeat' (first|((with_reducible refine qV tyOk fun K hK=>?_)<;>simp -dsimp (disch:=first|exact D|fail) only [go_sem,↓reduceIte,seval])|((with_reducible refine hK _ ?_);clear hK K)|refine Q1 ?_|fail)
  refine ⟨⟨k+1,by omega⟩,by simp only;omega,?_⟩
  refine St.le_mk ?_ ?_ ?_<;>simp only [LE,EN,Nat.reduceEqDiff,reduceIte,Nat.reduceSub,eSch,es,eTblO,List.map_append,List.map_cons,List.map_nil,List.set_cons_zero,List.set_cons_succ]
 ·have hk:k=s.tables.length:=by omega
  subst hk
  repeat' (first|((((fail_if_success (refine AWP.isRegion 7 ?_));(with_reducible refine qV tyOk fun K hK=>?_)))<;>simp -dsimp (disch:=first|exact D|fail) only [go_sem,↓reduceIte,seval])|((with_reducible refine hK _ ?_);clear hK K)|refine Q1 ?_|((with_reducible refine qW (T:=TT) (b:=?_) ?_ ?_);rotate_left;exact rfl)|fail)
  refine AWP.nilBox 3 1 42 rfl rfl (.inl (by show 42<46;decide)) ?_
  simp -dsimp (disch:=first|exact D|fail) only [go_sem,↓reduceIte,seval,nilBoxR_mk,List.set_cons_zero,List.set_cons_succ,List.take_length]
  repeat' (first|((with_reducible refine qV tyOk fun K hK=>?_)<;>simp -dsimp (disch:=first|exact D|fail) only [go_sem,↓reduceIte,seval])|((with_reducible refine hK _ ?_);clear hK K)|refine Q1 ?_|fail)
  refine AWP.loop (ι:={k:Nat // k≤s.fks.length}) (fun k=>⟨46,[(1,.v (.one (.ptr 1 0))),(2,.v (.one (.ptr 2 0))),(3,.v (.one (.ptr 3 0))),(28,.v (.one (.sl 3 (s.fks.map eFK)))),(29,.v (oI s.fks.length)),(30,.v (oI k.1))],[(3,[.ref 24 0 s.tables.length,.ref 42 0 k.1,.ref 10 0 s.cons.length]),(2,[.nil 3,.nil 3,.nil 7]),(1,eSch s)],[(42,⟨3,(s.fks.take k.1).map eFKO,[]⟩),(24,⟨3,s.tables.map eTblO,[]⟩),(10,⟨7,s.cons.map eCon,[]⟩)]⟩) (fun k=>s.fks.length - k.1) ⟨0,Nat.zero_le _⟩ ?_ fun ⟨k,hkl⟩=>?_
  ·refine St.le_mk ?_ ?_ ?_<;>simp only [LE,EN,Nat.reduceEqDiff,reduceIte,Nat.reduceSub,eSch,List.map_nil]
  simp only at hkl ⊢
  have hlen:(s.fks.take k).length=k:=by simp;omega
  rcases Nat.lt_or_ge k s.fks.length with hc|hc
  ·have hf:=h5 s.fks[k] (List.getElem_mem hc)
   have es:=take_snoc s.fks k hc
   repeat' (first|((first|((fail_if_success (refine AWP.isRegion 12 ?_));(with_reducible refine qV tyOk fun K hK=>?_))|((with_reducible refine CallJ.is ?_);refine CallJ.io [] [] [] [(2,36)] [] [36] [] [36] (cloneInts_own s.fks[k].cols (by omega)) rfl ⟨rfl,rfl,rfl,rfl⟩ ?_ ?_ ?_))<;>simp -dsimp (disch:=first|exact D|fail) only [go_sem,↓reduceIte,seval,hlen,dropL_nil,dropL_nil',dropL_cons])|((with_reducible refine hK _ ?_);clear hK K)|refine Q1 ?_|((with_reducible refine qW (T:=TT) (b:=?_) ?_ ?_);rotate_left;exact rfl)|fail)
   refine AWP.close 42 k 1 36 rfl rfl (by decide) (by simp [ovGet]) (by simp;omega) (by show 1<3;decide) rfl ?_
   simp -dsimp (disch:=first|exact D|fail) only [go_sem,↓reduceIte,seval,closeR_mk,ovCut_cons,ovCut_nil]
   rw [setCell_last eFKO _ k hlen.symm]
   repeat' (first|((with_reducible refine qV tyOk fun K hK=>?_)<;>simp -dsimp (disch:=first|exact D|fail) only [go_sem,↓reduceIte,seval])|((with_reducible refine hK _ ?_);clear hK K)|refine Q1 ?_|fail)
   refine ⟨⟨k+1,by omega⟩,by simp only;omega,?_⟩
   refine St.le_mk ?_ ?_ ?_<;>simp only [LE,EN,Nat.reduceEqDiff,reduceIte,Nat.reduceSub,eSch,es,eFKO,List.map_append,List.map_cons,List.map_nil,List.set_cons_zero,List.set_cons_succ]
  ·have hk:k=s.fks.length:=by omega
   subst hk
   repeat' (first|((with_reducible refine qV tyOk fun K hK=>?_)<;>simp -dsimp (disch:=first|exact D|fail) only [go_sem,↓reduceIte,seval])|((with_reducible refine hK _ ?_);clear hK K)|refine Q1 ?_|((with_reducible refine qW (T:=TT) (b:=?_) ?_ ?_);rotate_left;exact rfl)|fail)
   simp -dsimp (disch:=first|exact D|fail) only [retQ,Tryz.results34,resVals,cellRV,resOf,St.rest,St.freeze,RT,go_sem,↓reduceIte,seval]
   all_goals rw [List.take_length]
def eScr (l:List Stp):L:=.sl 24 (l.map eStp)
def goS:List Sch→List Stp→ResL
 | acc,[]=>.ok acc
 | acc,st::r=>match evoE (acc.getD (acc.length - 1) zSch) st with
  | .error e=>.error e
  | .ok t=>goS (acc++[t]) r
def scrSchemas (s:Sch) (l:List Stp):ResL:=if 6<l.length then .error 2 else if schE s≠0 then .error (schE s) else goS [s] l
def scrApply (s:Sch) (l:List Stp):Res:=match scrSchemas s l with
 | .error e=>.error e
 | .ok O=>.ok (O.getD (O.length - 1) zSch)
theorem evoE_ok {s t:Sch} {st:Stp} (h:evoE s st=.ok t):schE t=0:=by
 unfold evoE at h
 split at h
 ·cases h
 split at h
 ·cases h
 split at h
 ·cases h
 split at h
 ·cases h
 ·rename_i q
  injection h with h
  subst h
  exact Decidable.byContradiction q
theorem goS_ok:∀{l:List Stp} {acc O:List Sch},(∀x∈acc,schE x=0)→goS acc l=.ok O→(∀x∈O,schE x=0)∧O.length=acc.length+l.length
 | [],acc,O,ha,h=>by injection h with h;subst h;exact ⟨ha,by simp⟩
 | st::r,acc,O,ha,h=>by
  rw [goS] at h
  split at h
  ·cases h
  ·rename_i t q
   obtain ⟨h1,h2⟩:=goS_ok (fun x hx=>by
    rcases List.mem_append.1 hx with hx|hx
    ·exact ha x hx
    ·rw [List.mem_singleton.1 hx];exact evoE_ok q) h
   exact ⟨h1,by rw [h2];simp;omega⟩
theorem scrSchemas_ok {s:Sch} {l:List Stp} {O:List Sch} (h:scrSchemas s l=.ok O):(∀x∈O,schE x=0)∧O.length=1+l.length:=by
 unfold scrSchemas at h
 split at h
 ·cases h
 split at h
 ·cases h
 rename_i q
 have q:schE s=0:=Decidable.byContradiction q
 exact goS_ok (fun x hx=>by rw [List.mem_singleton.1 hx];exact q) h
theorem scrApply_ok {s u:Sch} {l:List Stp} (h:scrApply s l=.ok u):schE u=0:=by
 unfold scrApply at h
 split at h
 ·cases h
 ·rename_i O q
  obtain ⟨h1,h2⟩:=scrSchemas_ok q
  injection h with h
  rw [getD_lt _ (by omega)] at h
  rw [←h]
  exact h1 _ (List.getElem_mem _)
structure Edg where
 parent:Int
 steps:List Stp
structure Gr where
 base:Sch
 edges:List Edg
def eEdg (e:Edg):List L:=[.int .i64 e.parent,eScr e.steps]
def eEdgs (l:List Edg):L:=.sl 2 (l.map eEdg)
def eGr (g:Gr):List L:=[eTbls g.base.tables,eFKs g.base.fks,eCons g.base.cons,eEdgs g.edges]
def zEdg:Edg:=⟨0,[]⟩
def goG:List Sch→List Edg→ResL
 | acc,[]=>.ok acc
 | acc,e::r=>if e.parent<0∨(acc.length:Int) - 1<e.parent then .error 1 else match scrApply (acc.getD e.parent.toNat zSch) e.steps with
  | .error e=>.error e
  | .ok t=>goG (acc++[t]) r
def verSchemas (g:Gr):ResL:=if 8≤g.edges.length then .error 2 else if schE g.base≠0 then .error (schE g.base) else goG [g.base] g.edges
def parN (g:Gr) (v:Nat):Nat:=((g.edges.getD (v - 1) zEdg).parent).toNat
structure GrOk (g:Gr):Prop where
 par:∀v,0<v→v≤g.edges.length→parN g v<v
 int:∀k,∀h:k<g.edges.length,g.edges[k].parent=(parN g (k+1):Int)
theorem getD_edge {g:Gr} (ok:GrOk g) {v:Nat} (h0:0<v) (hv:v≤g.edges.length):(g.edges.map eEdg).getD (v - 1) []=[.int .i64 (parN g v:Int),eScr (g.edges.getD (v - 1) zEdg).steps]:=by
 have h1:v - 1<g.edges.length:=by omega
 have:=ok.int (v - 1) h1
 rw [show v - 1+1=v by omega] at this
 rw [getD_map_lt _ _ _ h1,getD_lt _ h1]
 unfold eEdg
 rw [this]
set_option maxHeartbeats 16000000 in
theorem ancestors_sat (g:Gr) (v:Nat) (ok:GrOk g) (hv:v≤g.edges.length) (hl:g.edges.length≤1048576):Sat Tryz.prog 32 [.agg (eGr g),oI v] (.v (.one (eInts (natI (anc (parN g) v))))):=by
 refine sS tyOk Tryz.func32 fun w0 m0 F0=>?_
 simp only [Tryz.ntmps32,envOf,Nat.reduceAdd]
 repeat' (first|((with_reducible refine qV tyOk fun K hK=>?_)<;>simp -dsimp (disch:=first|exact D|fail) only [go_sem,↓reduceIte,seval,eGr,eEdgs])|((with_reducible refine hK _ ?_);clear hK K)|refine Q1 ?_|fail)
 refine AWP.loop (ι:={p:Nat×List Nat // p.1≤g.edges.length∧p.2.length+p.1≤g.edges.length∧p.2++anc (parN g) p.1=anc (parN g) v}) (fun p=>⟨22,[(1,.v (oI p.1.1)),(2,.v (.one (.ptr 2 0))),(5,.v (.one (.ref 5 0 (p.1.2.length+1))))],[(2,eGr g)],[(5,⟨1,(natI (p.1.2++[p.1.1])).map eInt1,[]⟩)]⟩) (fun p=>p.1.1) ⟨(v,[]),hv,by simpa using hv,rfl⟩ ?_ fun ⟨⟨u,acc⟩,hu,hul,hua⟩=>?_
 ·refine St.le_mk ?_ ?_ ?_<;>simp only [LE,EN,Nat.reduceEqDiff,reduceIte,Nat.reduceSub,eGr,eEdgs,List.length_nil,Nat.zero_add,natI_snoc,natI,List.map_nil,List.nil_append]
 simp only at hu hul hua ⊢
 rcases Nat.eq_zero_or_pos u with h0|h0
 ·subst h0
  have e1:anc (parN g) 0=[0]:=by rw [anc,dif_neg (by omega)]
  rw [e1] at hua
  have l1:(natI (acc++[0])).length=acc.length+1:=by simp [natI]
  repeat' (first|((with_reducible refine qV tyOk fun K hK=>?_)<;>simp -dsimp (disch:=first|exact D|fail) only [go_sem,↓reduceIte,seval,eGr,eEdgs,l1])|((with_reducible refine hK _ ?_);clear hK K)|refine Q1 ?_|((with_reducible refine qW (T:=TT) (b:=?_) ?_ ?_);rotate_left;exact rfl)|fail)
  simp -dsimp (disch:=first|exact D|fail) only [retQ,Tryz.results32,resVals,cellRV,resOf,St.rest,St.freeze,RT,go_sem,↓reduceIte,seval]
  rw [hua,if_pos (by rw [natI_len,←hua];simp)]
 ·have hp:=ok.par u h0 hu
  have e1:anc (parN g) u=u::anc (parN g) (parN g u):=by rw [anc,dif_pos ⟨h0,hp⟩]
  have ge:=getD_edge ok h0 hu
  have w1:((u:Int) - 1).toNat=u - 1:=by omega
  have l1:(natI (acc++[u])).length=acc.length+1:=by simp [natI]
  repeat' (first|((with_reducible refine qV tyOk fun K hK=>?_)<;>simp -dsimp (disch:=first|exact D|fail) only [go_sem,↓reduceIte,seval,eGr,eEdgs,ge,w1,l1,Option.getD_none])|((with_reducible refine hK _ ?_);clear hK K)|refine Q1 ?_|((with_reducible refine qW (T:=TT) (b:=?_) ?_ ?_);rotate_left;exact rfl)|fail)
  refine ⟨⟨(parN g u,acc++[u]),by simp only;omega,by simp;omega,by rw [e1] at hua;simpa using hua⟩,by simp only;omega,?_⟩
  refine St.le_mk ?_ ?_ ?_<;>simp only [LE,EN,Nat.reduceEqDiff,reduceIte,Nat.reduceSub,eGr,eEdgs,List.length_append,List.length_cons,List.length_nil,Nat.zero_add,natI_snoc]
theorem revTo_zero (l:List Hp):revTo l 0=l:=by
 refine List.ext_getElem (revTo_len l 0) fun j h1 h2=>?_
 rw [revTo_at h2,if_neg (by omega),getD_lt _ h2]
theorem revTo_all (l:List Hp) {k:Nat} (h:l.length≤2 * k+1):revTo l k=l.reverse:=by
 refine List.ext_getElem (by rw [revTo_len,List.length_reverse]) fun j h1 h2=>?_
 rw [List.length_reverse] at h2
 rw [revTo_at h2,List.getElem_reverse]
 by_cases hj:j<k∨l.length≤j+k
 ·rw [if_pos hj,getD_lt _ (by omega)]
 ·rw [if_neg hj,getD_lt _ (by omega)]
  congr 1
  omega
end Go.Bw
