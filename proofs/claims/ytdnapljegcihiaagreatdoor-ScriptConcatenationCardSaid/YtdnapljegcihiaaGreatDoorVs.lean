/-
  WHAT IS PROVED HERE, of this translation: evApply_1.
  A theorem that ends in sat says what the function it names returns, whatever the state it is called in; the bounds on its arguments stand ahead of it.
-/
import Derived.Test.YtdnapljegcihiaaGreatDoorVn
set_option linter.unusedSimpArgs false
set_option linter.unusedVariables false
namespace Go.Bw
open Go.Proofs
set_option maxHeartbeats 32000000 in
theorem evApply_1 (s:Sch) (st:Stp) (sm:SmallS s) (hf:st.Fits) (hk:st.kind=13∨st.kind=14∨st.kind=15∨st.kind=16∨st.kind=10) :
  SatM Tryz.prog 38 [.one (.ptr 1000 0),.agg (eStp st)] (iB s) (iR s) (.v (oI (rE (evApply s st)))) (oBE (evApply s st)) (oRE (evApply s st)):=by
 have b1:=sm.tables
 have b3:=sm.fks
 have b4:=sm.cons
 have b5:∀f∈s.fks,f.cols.length≤1048576:=fun f hf=>by have:=(sm.fk f hf).1;omega
 have hc:=hf.cols
 rcases hk with hk|hk|hk|hk|hk
 ·have spec:evApply s st=.ok {s with cons:=s.cons++[st.con]}:=by unfold evApply;rw [if_pos hk]
  rw [spec]
  unfold iB iR oBE oRE oB1 oR1 rE
  simp only [List.length_append,List.length_cons,List.length_nil,Nat.zero_add]
  refine ZM [1000] [1,2,3] Tryz.func38 Tryz.ntmps38 fun w0 m0 F0=>?_
  refine AWP.gq ?_
  refine AWP.frzR 1000 rfl ?_
  refine ZU (Z3 @frzR_mk @frzTblO @frzFKO) ?_
  refine AWP.frzR 1001 rfl ?_
  refine ZU (Z3 @frzR_mk @frzTblO @frzFKO) ?_
  refine ZV (Z1 @eStp.eq_1) Z0 (Z1 (Zd 3 [(0,7)] [(7,[],[(0,5)]),(8,[(9,2)],[(0,1)]),(11,[],[])] [7,8,11] 8)) Z0 ?_
  refine Gq.renR 1000 1 rfl rfl (by decide) (.inl (Nat.le_of_ble_eq_true rfl)) ?_
  refine ZT Z0 ?_
  refine Gq.renR 1001 2 rfl rfl (by decide) (.inl (Nat.le_of_ble_eq_true rfl)) ?_
  refine ZT Z0 ?_
  refine Gq.renR 19 3 rfl rfl (by decide) (.inl (Nat.le_of_ble_eq_true rfl)) ?_
  refine ZT Z0 ?_
  refine Gq.done ?_
  refine ZR (Z1 Tryz.results38) ?_
  exact congrArg (fun x:List (List L)=>(⟨7,x,[]⟩:RowC)) (by rw [List.map_append];rfl)
 ·have spec:evApply s st=dropCon s st.con:=by unfold evApply;rw [if_neg (by omega),if_pos hk]
  have C:=dropConstraint_satM s st.con (by omega) (by omega) (by omega)
  rw [spec]
  generalize dropCon s st.con=r at C ⊢
  unfold iB iR at C ⊢
  refine ZM [1000] [1,2,3] Tryz.func38 Tryz.ntmps38 fun w0 m0 F0=>?_
  refine ZV (Z3 @eStp.eq_1 @frz_eTblO @frz_eFKO) Z0 (Z1 (Zs 6)) Z0 ?_
  cases r with
  | error e =>
   unfold oBE oRE rE at C ⊢
   simp only [eStp] at C ⊢
   refine ZV (Z5 @okIds_ref @eStp.eq_1 @dropL_nil @dropL_nil' @dropL_cons) Z0 Z0 (Z1 (Zi [(1000,1000)] [(1000,1000),(1001,1001),(1002,1002)] [] [] [1000] [1000,1001,1002] [1000] [1000,1001,1002] (C))) ?_
   exact ZQ (Z1 Tryz.results38)
  | ok R =>
   unfold oBE oRE oB1 oR1 rE at C ⊢
   simp only [eStp] at C ⊢
   refine ZV (Z5 @okIds_ref @eStp.eq_1 @dropL_nil @dropL_nil' @dropL_cons) Z0 Z0 (Z1 (Zi [(1000,1000)] [(1000,1000),(1001,1001),(1002,1002)] [(1000,1000)] [(1,1),(2,2),(3,3)] [] [1000,1001,1002,1,2,3] [1000,1000] [1000,1001,1002,1,2,3] (C))) ?_
   exact ZQ (Z1 Tryz.results38)
 ·have spec:evApply s st=.ok {s with fks:=s.fks++[st.fk]}:=by unfold evApply;rw [if_neg (by omega),if_neg (by omega),if_pos hk]
  rw [spec]
  unfold iB iR oBE oRE oB1 oR1 rE
  simp only [List.length_append,List.length_cons,List.length_nil,Nat.zero_add]
  refine ZM [1000] [1,2,3] Tryz.func38 Tryz.ntmps38 fun w0 m0 F0=>?_
  refine AWP.gq ?_
  refine AWP.frzR 1000 rfl ?_
  refine ZU (Z3 @frzR_mk @frzTblO @frzFKO) ?_
  refine AWP.frzR 1001 rfl ?_
  refine ZU (Z3 @frzR_mk @frzTblO @frzFKO) ?_
  refine ZV (Z1 @eStp.eq_1) Z0 (Z1 (Zd 8 [(0,7)] [(7,[],[(0,5)]),(8,[(9,2)],[(0,1)]),(11,[],[])] [7,8,11] 8)) Z0 ?_
  refine Gq.renR 1000 1 rfl rfl (by decide) (.inl (Nat.le_of_ble_eq_true rfl)) ?_
  refine ZT Z0 ?_
  refine Gq.renR 38 2 rfl rfl (by decide) (.inl (Nat.le_of_ble_eq_true rfl)) ?_
  refine ZT Z0 ?_
  refine Gq.renR 1002 3 rfl rfl (by decide) (.inl (Nat.le_of_ble_eq_true rfl)) ?_
  refine ZT Z0 ?_
  refine Gq.done ?_
  refine ZR (Z1 Tryz.results38) ?_
  exact congrArg (fun x:List (List L)=>(⟨3,x,[]⟩:RowC)) (by rw [List.map_append];rfl)
 ·have spec:evApply s st=dropFK s st.fk:=by unfold evApply;rw [if_neg (by omega),if_neg (by omega),if_neg (by omega),if_pos hk]
  have C:=dropForeignKey_satM s st.fk (by omega) (by omega) (by omega) b5
  rw [spec]
  generalize dropFK s st.fk=r at C ⊢
  unfold iB iR at C ⊢
  refine ZM [1000] [1,2,3] Tryz.func38 Tryz.ntmps38 fun w0 m0 F0=>?_
  refine ZV (Z3 @eStp.eq_1 @frz_eTblO @frz_eFKO) Z0 (Z1 (Zs 11)) Z0 ?_
  cases r with
  | error e =>
   unfold oBE oRE rE at C ⊢
   simp only [eStp] at C ⊢
   refine ZV (Z5 @okIds_ref @eStp.eq_1 @dropL_nil @dropL_nil' @dropL_cons) Z0 Z0 (Z1 (Zi [(1000,1000)] [(1000,1000),(1001,1001),(1002,1002)] [] [] [1000] [1000,1001,1002] [1000] [1000,1001,1002] (C))) ?_
   exact ZQ (Z1 Tryz.results38)
  | ok R =>
   unfold oBE oRE oB1 oR1 rE at C ⊢
   simp only [eStp] at C ⊢
   refine ZV (Z5 @okIds_ref @eStp.eq_1 @dropL_nil @dropL_nil' @dropL_cons) Z0 Z0 (Z1 (Zi [(1000,1000)] [(1000,1000),(1001,1001),(1002,1002)] [(1000,1000)] [(1,1),(2,2),(3,3)] [] [1000,1001,1002,1,2,3] [1000,1000] [1000,1001,1002,1,2,3] (C))) ?_
   exact ZQ (Z1 Tryz.results38)
 ·have spec:evApply s st=createT s st.newTable:=by unfold evApply;rw [if_neg (by omega),if_neg (by omega),if_neg (by omega),if_neg (by omega),if_pos hk]
  have C:=createTable_satM s st.newTable (by omega) (by omega) (by omega)
  rw [spec]
  generalize createT s st.newTable=r at C ⊢
  unfold iB iR at C ⊢
  refine ZM [1000] [1,2,3] Tryz.func38 Tryz.ntmps38 fun w0 m0 F0=>?_
  refine ZV (Z3 @eStp.eq_1 @frz_eTblO @frz_eFKO) Z0 (Z1 (Zs 13)) Z0 ?_
  cases r with
  | error e =>
   unfold oBE oRE rE at C ⊢
   simp only [eStp] at C ⊢
   refine ZV (Z5 @okIds_ref @eStp.eq_1 @dropL_nil @dropL_nil' @dropL_cons) Z0 Z0 (Z1 (Zi [(1000,1000)] [(1000,1000),(1001,1001),(1002,1002)] [] [] [1000] [1000,1001,1002] [1000] [1000,1001,1002] (C))) ?_
   exact ZQ (Z1 Tryz.results38)
  | ok R =>
   unfold oBE oRE oB1 oR1 rE at C ⊢
   simp only [eStp] at C ⊢
   refine ZV (Z5 @okIds_ref @eStp.eq_1 @dropL_nil @dropL_nil' @dropL_cons) Z0 Z0 (Z1 (Zi [(1000,1000)] [(1000,1000),(1001,1001),(1002,1002)] [(1000,1000)] [(1,1),(2,2),(3,3)] [] [1000,1001,1002,1,2,3] [1000,1000] [1000,1001,1002,1,2,3] (C))) ?_
   exact ZQ (Z1 Tryz.results38)
end Go.Bw
