/-
  WHAT IS PROVED HERE, of this translation: evApply_4.
  A theorem that ends in sat says what the function it names returns, whatever the state it is called in; the bounds on its arguments stand ahead of it.
-/
import Derived.Test.YtdnapljegcihiaaGreatDoorVm
import Derived.Test.YtdnapljegcihiaaGreatDoorVq
set_option linter.unusedSimpArgs false
set_option linter.unusedVariables false
namespace Go.Bw
open Go.Proofs
set_option maxHeartbeats 32000000 in
theorem evApply_4 (s:Sch) (st:Stp) (sm:SmallS s) (hf:st.Fits) (hpk:∀t∈s.tables,PkOk t) (hk:st.kind≠13∧st.kind≠14∧st.kind≠15∧st.kind≠16∧st.kind≠10) (j:Nat) (hj:j<s.tables.length) (h0:tblAt s.tables st.table=(j:Int)) (hq:st.kind=8∨st.kind=9∨st.kind=11) :
  SatM Tryz.prog 38 [.one (.ptr 1000 0),.agg (eStp st)] (iB s) (iR s) (.v (oI (rE (evApply s st)))) (oBE (evApply s st)) (oRE (evApply s st)):=by
 have b1:=sm.tables
 have b3:=sm.fks
 have b4:=sm.cons
 have b5:∀f∈s.fks,f.cols.length≤1048576:=fun f hf=>by have:=(sm.fk f hf).1;omega
 have hc:=hf.cols
 have fs:=findTable_sat s st.table (by omega)
 rw [h0,mx0_nat,decide_eq_true (show (0:Int)≤(j:Int) by omega)] at fs
 have s0:evApply s st=(if st.kind=4 then renameT s j st.newName else if st.kind=6 then splitT s j st else if st.kind=7 then joinT s j st.other else if st.kind=8 then partT s j st else if st.kind=9 then mergeT s j st else if st.kind=11 then dropT s st.table else if st.kind=12 then concatC s j st else if st.kind=1 then addC s j st else alterC s j st):=by
  unfold evApply;rw [if_neg hk.1,if_neg hk.2.1,if_neg hk.2.2.1,if_neg hk.2.2.2.1,if_neg hk.2.2.2.2];simp only [h0,Int.toNat_natCast];rw [if_neg (by omega)]
 obtain ⟨n1,n2,n3,n4,n5⟩:=hk
 rcases hq with hq|hq|hq
 ·have spec:evApply s st=partT s j st:=by rw [s0,if_neg (by omega),if_neg (by omega),if_neg (by omega),if_pos hq]
  have C:=partitionTable_satM s j st hj sm
  rw [spec]
  generalize partT s j st=r at C ⊢
  unfold iB iR at C ⊢
  refine ZM [1000] [1,2,3] Tryz.func38 Tryz.ntmps38 fun w0 m0 F0=>?_
  refine ZVp (Z3 @eStp.eq_1 @frz_eTblO @frz_eFKO) (Z1 (fs)) (Z2 (Zs 25) (Zd 14 [(0,5)] [(5,[(6,5)],[])] [5] 8)) Z0 ?_;repeat' (first|apply Zb|apply Zn|(apply Zm;intro h))
  cases r with
  | error e =>
   unfold oBE oRE rE at C ⊢
   simp only [eStp] at C ⊢
   refine ZVp (Z5 @okIds_ref @eStp.eq_1 @dropL_nil @dropL_nil' @dropL_cons) Z0 Z0 (Z1 (Zi [(1000,1000)] [(1000,1000),(1001,1001),(1002,1002)] [] [] [1000] [1000,1001,1002] [1000] [1000,1001,1002] (C))) ?_;repeat' (first|apply Zb|apply Zn|(apply Zm;intro h))
   exact ZQ (Z1 Tryz.results38)
  | ok R =>
   unfold oBE oRE oB1 oR1 rE at C ⊢
   simp only [eStp] at C ⊢
   refine ZVp (Z5 @okIds_ref @eStp.eq_1 @dropL_nil @dropL_nil' @dropL_cons) Z0 Z0 (Z1 (Zi [(1000,1000)] [(1000,1000),(1001,1001),(1002,1002)] [(1000,1000)] [(1,1),(2,2),(3,3)] [] [1000,1001,1002,1,2,3] [1000,1000] [1000,1001,1002,1,2,3] (C))) ?_;repeat' (first|apply Zb|apply Zn|(apply Zm;intro h))
   exact ZQ (Z1 Tryz.results38)
 ·have spec:evApply s st=mergeT s j st:=by rw [s0,if_neg (by omega),if_neg (by omega),if_neg (by omega),if_neg (by omega),if_pos hq]
  have C:=mergeTables_satM s j st hj sm
  rw [spec]
  generalize mergeT s j st=r at C ⊢
  unfold iB iR at C ⊢
  refine ZM [1000] [1,2,3] Tryz.func38 Tryz.ntmps38 fun w0 m0 F0=>?_
  refine ZVp (Z3 @eStp.eq_1 @frz_eTblO @frz_eFKO) (Z1 (fs)) (Z2 (Zs 27) (Zd 14 [(0,5)] [(5,[(6,5)],[])] [5] 8)) Z0 ?_;repeat' (first|apply Zb|apply Zn|(apply Zm;intro h))
  cases r with
  | error e =>
   unfold oBE oRE rE at C ⊢
   simp only [eStp] at C ⊢
   refine ZVp (Z5 @okIds_ref @eStp.eq_1 @dropL_nil @dropL_nil' @dropL_cons) Z0 Z0 (Z1 (Zi [(1000,1000)] [(1000,1000),(1001,1001),(1002,1002)] [] [] [1000] [1000,1001,1002] [1000] [1000,1001,1002] (C))) ?_;repeat' (first|apply Zb|apply Zn|(apply Zm;intro h))
   exact ZQ (Z1 Tryz.results38)
  | ok R =>
   unfold oBE oRE oB1 oR1 rE at C ⊢
   simp only [eStp] at C ⊢
   refine ZVp (Z5 @okIds_ref @eStp.eq_1 @dropL_nil @dropL_nil' @dropL_cons) Z0 Z0 (Z1 (Zi [(1000,1000)] [(1000,1000),(1001,1001),(1002,1002)] [(1000,1000)] [(1,1),(2,2),(3,3)] [] [1000,1001,1002,1,2,3] [1000,1000] [1000,1001,1002,1,2,3] (C))) ?_;repeat' (first|apply Zb|apply Zn|(apply Zm;intro h))
   exact ZQ (Z1 Tryz.results38)
 ·have spec:evApply s st=dropT s st.table:=by rw [s0,if_neg (by omega),if_neg (by omega),if_neg (by omega),if_neg (by omega),if_neg (by omega),if_pos hq]
  have C:=dropTable_satM s st.table (by omega) (by omega) (by omega)
  rw [spec]
  generalize dropT s st.table=r at C ⊢
  unfold iB iR at C ⊢
  refine ZM [1000] [1,2,3] Tryz.func38 Tryz.ntmps38 fun w0 m0 F0=>?_
  refine ZVp (Z3 @eStp.eq_1 @frz_eTblO @frz_eFKO) (Z1 (fs)) (Z2 (Zs 29) (Zd 14 [(0,5)] [(5,[(6,5)],[])] [5] 8)) Z0 ?_;repeat' (first|apply Zb|apply Zn|(apply Zm;intro h))
  cases r with
  | error e =>
   unfold oBE oRE rE at C ⊢
   simp only [eStp] at C ⊢
   refine ZVp (Z5 @okIds_ref @eStp.eq_1 @dropL_nil @dropL_nil' @dropL_cons) Z0 Z0 (Z1 (Zi [(1000,1000)] [(1000,1000),(1001,1001),(1002,1002)] [] [] [1000] [1000,1001,1002] [1000] [1000,1001,1002] (C))) ?_;repeat' (first|apply Zb|apply Zn|(apply Zm;intro h))
   exact ZQ (Z1 Tryz.results38)
  | ok R =>
   unfold oBE oRE oB1 oR1 rE at C ⊢
   simp only [eStp] at C ⊢
   refine ZVp (Z5 @okIds_ref @eStp.eq_1 @dropL_nil @dropL_nil' @dropL_cons) Z0 Z0 (Z1 (Zi [(1000,1000)] [(1000,1000),(1001,1001),(1002,1002)] [(1000,1000)] [(1,1),(2,2),(3,3)] [] [1000,1001,1002,1,2,3] [1000,1000] [1000,1001,1002,1,2,3] (C))) ?_;repeat' (first|apply Zb|apply Zn|(apply Zm;intro h))
   exact ZQ (Z1 Tryz.results38)
end Go.Bw
