/-
  WHAT IS PROVED HERE, of this translation: evApply_1.
  A theorem that ends in sat says what the function it names returns, whatever the state it is called in; the bounds on its arguments stand ahead of it.
-/
import Derived.Test.YtdnapljegcihiaaGreatWl
set_option linter.unusedSimpArgs false
set_option linter.unusedVariables false
namespace Go.Bw
open Go.Proofs
set_option maxHeartbeats 32000000 in
theorem evApply_1 (s:Sch) (st:Stp) (sm:SmallS s) (hf:st.Fits) (hk:st.kind=13∨st.kind=14∨st.kind=15∨st.kind=16∨st.kind=10) :
  SatM Tryz.prog 46 [.one (.ptr 1000 0),.agg (eStp st)] (iB s) (iR s) (.v (oI (rE (evApply s st)))) (oBE (evApply s st)) (oRE (evApply s st)):=by
 have b1:=sm.tables
 have b3:=sm.fks
 have b4:=sm.cons
 have b5:∀f∈s.fks,f.cols.length≤1048576:=fun f hf=>by have:=(sm.fk f hf).1;omega
 have hc:=hf.cols
 rcases hk with hk|hk|hk|hk|hk
 ·have spec:evApply s st=.ok {s with cons:=s.cons++[st.con]}:=by unfold evApply;rw [if_pos hk]
  rw [spec]
  unfold iB iR oBE oRE oB1 oR1 rE
  simp only [List.length_append,List.length_cons,List.length_nil,Nat.zero_add]
  refine sM tyOk [1000] [1,2,3] Tryz.func46 fun w0 m0 F0=>?_
  simp only [Tryz.ntmps46,envOf,Nat.reduceAdd]
  refine AWP.gq ?_
  refine AWP.frzR 1000 rfl ?_
  simp -dsimp (disch:=first|exact D|fail) only [go_sem,↓reduceIte,seval,frzR_mk,frzTblO,frzFKO]
  refine AWP.frzR 1001 rfl ?_
  simp -dsimp (disch:=first|exact D|fail) only [go_sem,↓reduceIte,seval,frzR_mk,frzTblO,frzFKO]
  repeat' (first|((first|with_reducible refine qV tyOk fun K hK=>?_|(refine AWP.isRegion 3 ?_;refine dX tyOk mixed [(0,7)] [(7,[],[(0,5)]),(8,[(9,2)],[(0,1)]),(11,[],[])] [7,8,11] 8 fun K hK=>?_;simp only [SG,segs] at hK ⊢)|(with_reducible first|refine VCy.some fun K hK=>?_|refine VCy.step fun K hK=>?_))<;>simp -dsimp (disch:=first|exact D|fail) only [go_sem,↓reduceIte,seval,eStp,Option.getD_none])|((with_reducible refine hK _ ?_);clear hK K)|(with_reducible refine VCy.intro fun K0 hK0=>?_)|((with_reducible refine VCy.fin ?_);(refine hK0 _ ?_);clear hK0 K0)|(with_reducible first|refine VCy.quiet ?_|refine VCy.none ?_)|((with_reducible refine VCy.keep ?_ ?_);focus ((simp -dsimp (disch:=first|exact D|fail) only [go_sem,↓reduceIte,seval,Stable_cons,Stable_nil,sameA_some,sameA_none,eStp,Option.getD_none]);first|done|exact E|fail))|refine Q1 ?_|((with_reducible refine qW (T:=TT) (b:=?_) ?_ ?_);rotate_left;exact rfl)|fail)
  refine Gq.renR 1000 1 rfl rfl (by decide) (.inl (Nat.le_of_ble_eq_true rfl)) ?_
  simp -dsimp (disch:=first|exact D|fail) only [go_sem,↓reduceIte,seval,renR_mk,L.ren,L.ren0]
  refine Gq.renR 1001 2 rfl rfl (by decide) (.inl (Nat.le_of_ble_eq_true rfl)) ?_
  simp -dsimp (disch:=first|exact D|fail) only [go_sem,↓reduceIte,seval,renR_mk,L.ren,L.ren0]
  refine Gq.renR 19 3 rfl rfl (by decide) (.inl (Nat.le_of_ble_eq_true rfl)) ?_
  simp -dsimp (disch:=first|exact D|fail) only [go_sem,↓reduceIte,seval,renR_mk,L.ren,L.ren0]
  refine Gq.done ?_
  simp -dsimp (disch:=first|exact D|fail) only [retQ,Tryz.results46,resVals,cellRV,resOf,St.rest,St.freeze,RT,go_sem,↓reduceIte,seval]
  exact congrArg (fun x:List (List L)=>(⟨7,x,[]⟩:RowC)) (by rw [List.map_append];rfl)
 ·have spec:evApply s st=dropCon s st.con:=by unfold evApply;rw [if_neg (by omega),if_pos hk]
  have C:=dropConstraint_satM s st.con (by omega) (by omega) (by omega)
  rw [spec]
  generalize dropCon s st.con=r at C ⊢
  unfold iB iR at C ⊢
  refine sM tyOk [1000] [1,2,3] Tryz.func46 fun w0 m0 F0=>?_
  simp only [Tryz.ntmps46,envOf,Nat.reduceAdd]
  repeat' (first|((((fail_if_success (refine AWP.isRegion 6 ?_));(with_reducible refine qV tyOk fun K hK=>?_)))<;>simp -dsimp (disch:=first|exact D|fail) only [go_sem,↓reduceIte,seval,eStp,Option.getD_none,frz_eTblO,frz_eFKO])|((with_reducible refine hK _ ?_);clear hK K)|refine Q1 ?_|((with_reducible refine qW (T:=TT) (b:=?_) ?_ ?_);rotate_left;exact rfl)|fail)
  cases r with
  | error e =>
   unfold oBE oRE rE at C ⊢
   simp only [eStp] at C ⊢
   repeat' (first|((first|with_reducible refine qV tyOk fun K hK=>?_|((with_reducible refine CallJ.is ?_);refine CallJ.io [(1000,1000)] [(1000,1000),(1001,1001),(1002,1002)] [] [] [1000] [1000,1001,1002] [1000] [1000,1001,1002] (C) rfl ⟨rfl,rfl,rfl,rfl⟩ ?_ ?_ ?_))<;>simp -dsimp (disch:=first|exact D|fail) only [go_sem,↓reduceIte,seval,okIds_ref,Option.getD_none,eStp,eTbl,eFK,eCon,eInts,eCols,dropL_nil,dropL_nil',dropL_cons])|((with_reducible refine hK _ ?_);clear hK K)|refine Q1 ?_|fail)
   simp -dsimp (disch:=first|exact D|fail) only [retQ,Tryz.results46,resVals,cellRV,resOf,St.rest,St.freeze,RT,go_sem,↓reduceIte,seval]
  | ok R =>
   unfold oBE oRE oB1 oR1 rE at C ⊢
   simp only [eStp] at C ⊢
   repeat' (first|((first|with_reducible refine qV tyOk fun K hK=>?_|((with_reducible refine CallJ.is ?_);refine CallJ.io [(1000,1000)] [(1000,1000),(1001,1001),(1002,1002)] [(1000,1000)] [(1,1),(2,2),(3,3)] [] [1000,1001,1002,1,2,3] [1000,1000] [1000,1001,1002,1,2,3] (C) rfl ⟨rfl,rfl,rfl,rfl⟩ ?_ ?_ ?_))<;>simp -dsimp (disch:=first|exact D|fail) only [go_sem,↓reduceIte,seval,okIds_ref,Option.getD_none,eStp,eTbl,eFK,eCon,eInts,eCols,dropL_nil,dropL_nil',dropL_cons])|((with_reducible refine hK _ ?_);clear hK K)|refine Q1 ?_|fail)
   simp -dsimp (disch:=first|exact D|fail) only [retQ,Tryz.results46,resVals,cellRV,resOf,St.rest,St.freeze,RT,go_sem,↓reduceIte,seval]
 ·have spec:evApply s st=.ok {s with fks:=s.fks++[st.fk]}:=by unfold evApply;rw [if_neg (by omega),if_neg (by omega),if_pos hk]
  rw [spec]
  unfold iB iR oBE oRE oB1 oR1 rE
  simp only [List.length_append,List.length_cons,List.length_nil,Nat.zero_add]
  refine sM tyOk [1000] [1,2,3] Tryz.func46 fun w0 m0 F0=>?_
  simp only [Tryz.ntmps46,envOf,Nat.reduceAdd]
  refine AWP.gq ?_
  refine AWP.frzR 1000 rfl ?_
  simp -dsimp (disch:=first|exact D|fail) only [go_sem,↓reduceIte,seval,frzR_mk,frzTblO,frzFKO]
  refine AWP.frzR 1001 rfl ?_
  simp -dsimp (disch:=first|exact D|fail) only [go_sem,↓reduceIte,seval,frzR_mk,frzTblO,frzFKO]
  repeat' (first|((first|with_reducible refine qV tyOk fun K hK=>?_|(refine AWP.isRegion 8 ?_;refine dX tyOk mixed [(0,7)] [(7,[],[(0,5)]),(8,[(9,2)],[(0,1)]),(11,[],[])] [7,8,11] 8 fun K hK=>?_;simp only [SG,segs] at hK ⊢)|(with_reducible first|refine VCy.some fun K hK=>?_|refine VCy.step fun K hK=>?_))<;>simp -dsimp (disch:=first|exact D|fail) only [go_sem,↓reduceIte,seval,eStp,Option.getD_none])|((with_reducible refine hK _ ?_);clear hK K)|(with_reducible refine VCy.intro fun K0 hK0=>?_)|((with_reducible refine VCy.fin ?_);(refine hK0 _ ?_);clear hK0 K0)|(with_reducible first|refine VCy.quiet ?_|refine VCy.none ?_)|((with_reducible refine VCy.keep ?_ ?_);focus ((simp -dsimp (disch:=first|exact D|fail) only [go_sem,↓reduceIte,seval,Stable_cons,Stable_nil,sameA_some,sameA_none,eStp,Option.getD_none]);first|done|exact E|fail))|refine Q1 ?_|((with_reducible refine qW (T:=TT) (b:=?_) ?_ ?_);rotate_left;exact rfl)|fail)
  refine Gq.renR 1000 1 rfl rfl (by decide) (.inl (Nat.le_of_ble_eq_true rfl)) ?_
  simp -dsimp (disch:=first|exact D|fail) only [go_sem,↓reduceIte,seval,renR_mk,L.ren,L.ren0]
  refine Gq.renR 38 2 rfl rfl (by decide) (.inl (Nat.le_of_ble_eq_true rfl)) ?_
  simp -dsimp (disch:=first|exact D|fail) only [go_sem,↓reduceIte,seval,renR_mk,L.ren,L.ren0]
  refine Gq.renR 1002 3 rfl rfl (by decide) (.inl (Nat.le_of_ble_eq_true rfl)) ?_
  simp -dsimp (disch:=first|exact D|fail) only [go_sem,↓reduceIte,seval,renR_mk,L.ren,L.ren0]
  refine Gq.done ?_
  simp -dsimp (disch:=first|exact D|fail) only [retQ,Tryz.results46,resVals,cellRV,resOf,St.rest,St.freeze,RT,go_sem,↓reduceIte,seval]
  exact congrArg (fun x:List (List L)=>(⟨3,x,[]⟩:RowC)) (by rw [List.map_append];rfl)
 ·have spec:evApply s st=dropFK s st.fk:=by unfold evApply;rw [if_neg (by omega),if_neg (by omega),if_neg (by omega),if_pos hk]
  have C:=dropForeignKey_satM s st.fk (by omega) (by omega) (by omega) b5
  rw [spec]
  generalize dropFK s st.fk=r at C ⊢
  unfold iB iR at C ⊢
  refine sM tyOk [1000] [1,2,3] Tryz.func46 fun w0 m0 F0=>?_
  simp only [Tryz.ntmps46,envOf,Nat.reduceAdd]
  repeat' (first|((((fail_if_success (refine AWP.isRegion 11 ?_));(with_reducible refine qV tyOk fun K hK=>?_)))<;>simp -dsimp (disch:=first|exact D|fail) only [go_sem,↓reduceIte,seval,eStp,Option.getD_none,frz_eTblO,frz_eFKO])|((with_reducible refine hK _ ?_);clear hK K)|refine Q1 ?_|((with_reducible refine qW (T:=TT) (b:=?_) ?_ ?_);rotate_left;exact rfl)|fail)
  cases r with
  | error e =>
   unfold oBE oRE rE at C ⊢
   simp only [eStp] at C ⊢
   repeat' (first|((first|with_reducible refine qV tyOk fun K hK=>?_|((with_reducible refine CallJ.is ?_);refine CallJ.io [(1000,1000)] [(1000,1000),(1001,1001),(1002,1002)] [] [] [1000] [1000,1001,1002] [1000] [1000,1001,1002] (C) rfl ⟨rfl,rfl,rfl,rfl⟩ ?_ ?_ ?_))<;>simp -dsimp (disch:=first|exact D|fail) only [go_sem,↓reduceIte,seval,okIds_ref,Option.getD_none,eStp,eTbl,eFK,eCon,eInts,eCols,dropL_nil,dropL_nil',dropL_cons])|((with_reducible refine hK _ ?_);clear hK K)|refine Q1 ?_|fail)
   simp -dsimp (disch:=first|exact D|fail) only [retQ,Tryz.results46,resVals,cellRV,resOf,St.rest,St.freeze,RT,go_sem,↓reduceIte,seval]
  | ok R =>
   unfold oBE oRE oB1 oR1 rE at C ⊢
   simp only [eStp] at C ⊢
   repeat' (first|((first|with_reducible refine qV tyOk fun K hK=>?_|((with_reducible refine CallJ.is ?_);refine CallJ.io [(1000,1000)] [(1000,1000),(1001,1001),(1002,1002)] [(1000,1000)] [(1,1),(2,2),(3,3)] [] [1000,1001,1002,1,2,3] [1000,1000] [1000,1001,1002,1,2,3] (C) rfl ⟨rfl,rfl,rfl,rfl⟩ ?_ ?_ ?_))<;>simp -dsimp (disch:=first|exact D|fail) only [go_sem,↓reduceIte,seval,okIds_ref,Option.getD_none,eStp,eTbl,eFK,eCon,eInts,eCols,dropL_nil,dropL_nil',dropL_cons])|((with_reducible refine hK _ ?_);clear hK K)|refine Q1 ?_|fail)
   simp -dsimp (disch:=first|exact D|fail) only [retQ,Tryz.results46,resVals,cellRV,resOf,St.rest,St.freeze,RT,go_sem,↓reduceIte,seval]
 ·have spec:evApply s st=createT s st.newTable:=by unfold evApply;rw [if_neg (by omega),if_neg (by omega),if_neg (by omega),if_neg (by omega),if_pos hk]
  have C:=createTable_satM s st.newTable (by omega) (by omega) (by omega)
  rw [spec]
  generalize createT s st.newTable=r at C ⊢
  unfold iB iR at C ⊢
  refine sM tyOk [1000] [1,2,3] Tryz.func46 fun w0 m0 F0=>?_
  simp only [Tryz.ntmps46,envOf,Nat.reduceAdd]
  repeat' (first|((((fail_if_success (refine AWP.isRegion 13 ?_));(with_reducible refine qV tyOk fun K hK=>?_)))<;>simp -dsimp (disch:=first|exact D|fail) only [go_sem,↓reduceIte,seval,eStp,Option.getD_none,frz_eTblO,frz_eFKO])|((with_reducible refine hK _ ?_);clear hK K)|refine Q1 ?_|((with_reducible refine qW (T:=TT) (b:=?_) ?_ ?_);rotate_left;exact rfl)|fail)
  cases r with
  | error e =>
   unfold oBE oRE rE at C ⊢
   simp only [eStp] at C ⊢
   repeat' (first|((first|with_reducible refine qV tyOk fun K hK=>?_|((with_reducible refine CallJ.is ?_);refine CallJ.io [(1000,1000)] [(1000,1000),(1001,1001),(1002,1002)] [] [] [1000] [1000,1001,1002] [1000] [1000,1001,1002] (C) rfl ⟨rfl,rfl,rfl,rfl⟩ ?_ ?_ ?_))<;>simp -dsimp (disch:=first|exact D|fail) only [go_sem,↓reduceIte,seval,okIds_ref,Option.getD_none,eStp,eTbl,eFK,eCon,eInts,eCols,dropL_nil,dropL_nil',dropL_cons])|((with_reducible refine hK _ ?_);clear hK K)|refine Q1 ?_|fail)
   simp -dsimp (disch:=first|exact D|fail) only [retQ,Tryz.results46,resVals,cellRV,resOf,St.rest,St.freeze,RT,go_sem,↓reduceIte,seval]
  | ok R =>
   unfold oBE oRE oB1 oR1 rE at C ⊢
   simp only [eStp] at C ⊢
   repeat' (first|((first|with_reducible refine qV tyOk fun K hK=>?_|((with_reducible refine CallJ.is ?_);refine CallJ.io [(1000,1000)] [(1000,1000),(1001,1001),(1002,1002)] [(1000,1000)] [(1,1),(2,2),(3,3)] [] [1000,1001,1002,1,2,3] [1000,1000] [1000,1001,1002,1,2,3] (C) rfl ⟨rfl,rfl,rfl,rfl⟩ ?_ ?_ ?_))<;>simp -dsimp (disch:=first|exact D|fail) only [go_sem,↓reduceIte,seval,okIds_ref,Option.getD_none,eStp,eTbl,eFK,eCon,eInts,eCols,dropL_nil,dropL_nil',dropL_cons])|((with_reducible refine hK _ ?_);clear hK K)|refine Q1 ?_|fail)
   simp -dsimp (disch:=first|exact D|fail) only [retQ,Tryz.results46,resVals,cellRV,resOf,St.rest,St.freeze,RT,go_sem,↓reduceIte,seval]
end Go.Bw
