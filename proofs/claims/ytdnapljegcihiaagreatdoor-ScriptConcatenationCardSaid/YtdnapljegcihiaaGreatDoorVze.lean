/-
  WHAT IS PROVED HERE, of this translation: splitTable_satM, evApply_3, evApply_satM, evoApply_sat, compSchema_sat, schemas_ok.
  A theorem that ends in sat says what the function it names returns, whatever the state it is called in; the bounds on its arguments stand ahead of it.
-/
import Derived.Test.YtdnapljegcihiaaGreatDoorVr
import Derived.Test.YtdnapljegcihiaaGreatDoorVs
import Derived.Test.YtdnapljegcihiaaGreatDoorVu
import Derived.Test.YtdnapljegcihiaaGreatDoorVy
import Derived.Test.YtdnapljegcihiaaGreatDoorVza
import Derived.Test.YtdnapljegcihiaaGreatDoorVzd
set_option linter.unusedSimpArgs false
set_option linter.unusedVariables false
namespace Go.Bw
open Go.Proofs
theorem splitTable_satM (s:Sch) (i:Nat) (st:Stp) (hi:i<s.tables.length) (sm:SmallS s) (hst:st.cols.length≤140737488355328) (hpk:∀c∈s.tables[i].pk,0≤c∧c<(s.tables[i].cols.length:Int)) :
  SatM Tryz.prog 82 [.one (.ptr 1000 0),oI i,.agg (eStp st)] (iB s) (iR s) (.v (oI (rE (splitT s i st)))) (oBE (splitT s i st)) (oRE (splitT s i st)):=by
 by_cases hE:splitE s (tAt s i) st=0
 ·exact splitTable_ok s i st hi sm hst hE hpk
 ·exact splitTable_err s i st hi sm hst hE
set_option maxHeartbeats 32000000 in
theorem evApply_3 (s:Sch) (st:Stp) (sm:SmallS s) (hf:st.Fits) (hpk:∀t∈s.tables,PkOk t) (hk:st.kind≠13∧st.kind≠14∧st.kind≠15∧st.kind≠16∧st.kind≠10) (j:Nat) (hj:j<s.tables.length) (h0:tblAt s.tables st.table=(j:Int)) (hq:st.kind=4∨st.kind=6∨st.kind=7) :
  SatM Tryz.prog 38 [.one (.ptr 1000 0),.agg (eStp st)] (iB s) (iR s) (.v (oI (rE (evApply s st)))) (oBE (evApply s st)) (oRE (evApply s st)):=by
 have b1:=sm.tables
 have b3:=sm.fks
 have b4:=sm.cons
 have b5:∀f∈s.fks,f.cols.length≤1048576:=fun f hf=>by have:=(sm.fk f hf).1;omega
 have hc:=hf.cols
 have fs:=findTable_sat s st.table (by omega)
 rw [h0,mx0_nat,decide_eq_true (show (0:Int)≤(j:Int) by omega)] at fs
 have s0:evApply s st=(if st.kind=4 then renameT s j st.newName else if st.kind=6 then splitT s j st else if st.kind=7 then joinT s j st.other else if st.kind=8 then partT s j st else if st.kind=9 then mergeT s j st else if st.kind=11 then dropT s st.table else if st.kind=12 then concatC s j st else if st.kind=1 then addC s j st else alterC s j st):=by
  unfold evApply;rw [if_neg hk.1,if_neg hk.2.1,if_neg hk.2.2.1,if_neg hk.2.2.2.1,if_neg hk.2.2.2.2];simp only [h0,Int.toNat_natCast];rw [if_neg (by omega)]
 obtain ⟨n1,n2,n3,n4,n5⟩:=hk
 rcases hq with hq|hq|hq
 ·have spec:evApply s st=renameT s j st.newName:=by rw [s0,if_pos hq]
  have C:=renameTable_satM s j st.newName hj sm
  rw [spec]
  generalize renameT s j st.newName=r at C ⊢
  unfold iB iR at C ⊢
  refine ZM [1000] [1,2,3] Tryz.func38 Tryz.ntmps38 fun w0 m0 F0=>?_
  refine ZVp (Z3 @eStp.eq_1 @frz_eTblO @frz_eFKO) (Z1 (fs)) (Z2 (Zs 19) (Zd 14 [(0,5)] [(5,[(6,5)],[])] [5] 8)) Z0 ?_;repeat' (first|apply Zb|apply Zn|(apply Zm;intro h))
  cases r with
  | error e =>
   unfold oBE oRE rE at C ⊢
   simp only [eStp] at C ⊢
   refine ZVp (Z5 @okIds_ref @eStp.eq_1 @dropL_nil @dropL_nil' @dropL_cons) Z0 Z0 (Z1 (Zi [(1000,1000)] [(1000,1000),(1001,1001),(1002,1002)] [] [] [1000] [1000,1001,1002] [1000] [1000,1001,1002] (C))) ?_;repeat' (first|apply Zb|apply Zn|(apply Zm;intro h))
   exact ZQ (Z1 Tryz.results38)
  | ok R =>
   unfold oBE oRE oB1 oR1 rE at C ⊢
   simp only [eStp] at C ⊢
   refine ZVp (Z5 @okIds_ref @eStp.eq_1 @dropL_nil @dropL_nil' @dropL_cons) Z0 Z0 (Z1 (Zi [(1000,1000)] [(1000,1000),(1001,1001),(1002,1002)] [(1000,1000)] [(1,1),(2,2),(3,3)] [] [1000,1001,1002,1,2,3] [1000,1000] [1000,1001,1002,1,2,3] (C))) ?_;repeat' (first|apply Zb|apply Zn|(apply Zm;intro h))
   exact ZQ (Z1 Tryz.results38)
 ·have spec:evApply s st=splitT s j st:=by rw [s0,if_neg (by omega),if_pos hq]
  have C:=splitTable_satM s j st hj sm (by omega) (hpk _ (List.getElem_mem hj))
  rw [spec]
  generalize splitT s j st=r at C ⊢
  unfold iB iR at C ⊢
  refine ZM [1000] [1,2,3] Tryz.func38 Tryz.ntmps38 fun w0 m0 F0=>?_
  refine ZVp (Z3 @eStp.eq_1 @frz_eTblO @frz_eFKO) (Z1 (fs)) (Z2 (Zs 21) (Zd 14 [(0,5)] [(5,[(6,5)],[])] [5] 8)) Z0 ?_;repeat' (first|apply Zb|apply Zn|(apply Zm;intro h))
  cases r with
  | error e =>
   unfold oBE oRE rE at C ⊢
   simp only [eStp] at C ⊢
   refine ZVp (Z5 @okIds_ref @eStp.eq_1 @dropL_nil @dropL_nil' @dropL_cons) Z0 Z0 (Z1 (Zi [(1000,1000)] [(1000,1000),(1001,1001),(1002,1002)] [] [] [1000] [1000,1001,1002] [1000] [1000,1001,1002] (C))) ?_;repeat' (first|apply Zb|apply Zn|(apply Zm;intro h))
   exact ZQ (Z1 Tryz.results38)
  | ok R =>
   unfold oBE oRE oB1 oR1 rE at C ⊢
   simp only [eStp] at C ⊢
   refine ZVp (Z5 @okIds_ref @eStp.eq_1 @dropL_nil @dropL_nil' @dropL_cons) Z0 Z0 (Z1 (Zi [(1000,1000)] [(1000,1000),(1001,1001),(1002,1002)] [(1000,1000)] [(1,1),(2,2),(3,3)] [] [1000,1001,1002,1,2,3] [1000,1000] [1000,1001,1002,1,2,3] (C))) ?_;repeat' (first|apply Zb|apply Zn|(apply Zm;intro h))
   exact ZQ (Z1 Tryz.results38)
 ·have spec:evApply s st=joinT s j st.other:=by rw [s0,if_neg (by omega),if_neg (by omega),if_pos hq]
  have C:=joinTables_satM s j st.other hj sm hpk
  rw [spec]
  generalize joinT s j st.other=r at C ⊢
  unfold iB iR at C ⊢
  refine ZM [1000] [1,2,3] Tryz.func38 Tryz.ntmps38 fun w0 m0 F0=>?_
  refine ZVp (Z3 @eStp.eq_1 @frz_eTblO @frz_eFKO) (Z1 (fs)) (Z2 (Zs 23) (Zd 14 [(0,5)] [(5,[(6,5)],[])] [5] 8)) Z0 ?_;repeat' (first|apply Zb|apply Zn|(apply Zm;intro h))
  cases r with
  | error e =>
   unfold oBE oRE rE at C ⊢
   simp only [eStp] at C ⊢
   refine ZVp (Z5 @okIds_ref @eStp.eq_1 @dropL_nil @dropL_nil' @dropL_cons) Z0 Z0 (Z1 (Zi [(1000,1000)] [(1000,1000),(1001,1001),(1002,1002)] [] [] [1000] [1000,1001,1002] [1000] [1000,1001,1002] (C))) ?_;repeat' (first|apply Zb|apply Zn|(apply Zm;intro h))
   exact ZQ (Z1 Tryz.results38)
  | ok R =>
   unfold oBE oRE oB1 oR1 rE at C ⊢
   simp only [eStp] at C ⊢
   refine ZVp (Z5 @okIds_ref @eStp.eq_1 @dropL_nil @dropL_nil' @dropL_cons) Z0 Z0 (Z1 (Zi [(1000,1000)] [(1000,1000),(1001,1001),(1002,1002)] [(1000,1000)] [(1,1),(2,2),(3,3)] [] [1000,1001,1002,1,2,3] [1000,1000] [1000,1001,1002,1,2,3] (C))) ?_;repeat' (first|apply Zb|apply Zn|(apply Zm;intro h))
   exact ZQ (Z1 Tryz.results38)
theorem evApply_satM (s:Sch) (st:Stp) (sm:SmallS s) (hf:st.Fits) (hpk:∀t∈s.tables,PkOk t) :
  SatM Tryz.prog 38 [.one (.ptr 1000 0),.agg (eStp st)] (iB s) (iR s) (.v (oI (rE (evApply s st)))) (oBE (evApply s st)) (oRE (evApply s st)):=by
 by_cases hk:st.kind=13∨st.kind=14∨st.kind=15∨st.kind=16∨st.kind=10
 ·exact evApply_1 s st sm hf hk
 have hk:st.kind≠13∧st.kind≠14∧st.kind≠15∧st.kind≠16∧st.kind≠10:=by omega
 rcases idx_cases (fun u=>sEq u.name st.table) s.tables 0 with ⟨e1,_⟩|⟨j,hj,e1,_,_⟩
 ·exact evApply_2 s st sm hf hk e1
 have e1:tblAt s.tables st.table=(j:Int):=by unfold tblAt;simpa using e1
 by_cases h3:st.kind=4∨st.kind=6∨st.kind=7
 ·exact evApply_3 s st sm hf hpk hk j hj e1 h3
 by_cases h4:st.kind=8∨st.kind=9∨st.kind=11
 ·exact evApply_4 s st sm hf hpk hk j hj e1 h4
 by_cases h5:st.kind=12∨st.kind=1
 ·exact evApply_5 s st sm hf hpk hk j hj e1 h5
 ·exact evApply_6 s st sm hf hpk hk j hj e1 (by omega)
set_option maxHeartbeats 32000000 in
theorem evoApply_sat (s:Sch) (st:Stp) (hs:s.Fits) (hf:st.Fits):Sat Tryz.prog 13 [.agg (eSch s),.agg (eStp st)] (.tup [.agg (eSch (sOut (evoE s st))),oI (rE (evoE s st))]):=by
 have c1:=schValidate_sat s hs
 have c2:=evValidate_sat st hf
 have c3:=stpClone_sat st hf
 obtain ⟨f1,f2,f3,f4⟩:=hf
 by_cases h1:schE s=0
 case neg =>
  have spec:evoE s st=.error (schE s):=by unfold evoE;rw [if_pos h1]
  rw [spec]
  unfold sOut rE
  simp only
  refine ZE Tryz.func13 Tryz.ntmps13 fun w0 m0 F0=>?_
  refine ZWp (Z1 @h1) (Z1 (c1)) ?_;repeat' (first|apply Zb|apply Zn|(apply Zm;intro h))
  exact ZQ (Z1 Tryz.results13)
 rw [h1] at c1
 by_cases h2:evValE st=0
 case neg =>
  have spec:evoE s st=.error (evValE st):=by unfold evoE;rw [if_neg (by rw [h1];simp),if_pos h2]
  rw [spec]
  unfold sOut rE
  simp only
  obtain ⟨es,hes⟩:∃es,eStp st=es:=⟨_,rfl⟩
  refine ZE Tryz.func13 Tryz.ntmps13 fun w0 m0 F0=>?_
  refine ZWp (Z2 @eStp.eq_1 @h2) (Z2 (c1) (c2)) ?_;repeat' (first|apply Zb|apply Zn|(apply Zm;intro h))
  exact ZQ (Z1 Tryz.results13)
 rw [h2] at c2
 have sm:=smallS_of h1
 have b1:=sm.tables
 have b3:=sm.fks
 have b4:=sm.cons
 have cl:=schClone_own s (by omega) (by omega) (by omega) (fun t ht=>by have:=sm.table t ht;omega) (fun f hf=>by have:=(sm.fk f hf).1;omega)
 have C:=evApply_satM s st sm ⟨f1,f2,f3,f4⟩ (pkOk_of h1)
 cases hr:evApply s st with
 | error e =>
  have spec:evoE s st=.error e:=by unfold evoE;rw [if_neg (by rw [h1];simp),if_neg (by rw [h2];simp),hr]
  have he:=evApply_ne hr
  rw [hr] at C
  rw [spec]
  unfold iB iR oBE oRE rE at C
  unfold sOut rE
  simp only [eStp] at C ⊢
  refine ZE Tryz.func13 Tryz.ntmps13 fun w0 m0 F0=>?_
  refine ZVp (Z6 @okIds_ref @eStp.eq_1 @he @dropL_nil @dropL_nil' @dropL_cons) (Z3 (c1) (c2) (c3)) Z0 (Z2 (Zi [] [] [] [(24,36),(42,37),(10,35)] [] [36,37,35] [] [36,37,35] (cl)) (Zi [(1000,8)] [(1000,36),(1001,37),(1002,35)] [] [] [8] [36,37,35] [8] [36,37,35] (C))) ?_;repeat' (first|apply Zb|apply Zn|(apply Zm;intro h))
  exact ZQ (Z1 Tryz.results13)
 | ok R =>
  have sz:=evApply_sz sm (by omega) (by omega) (by omega) (by omega) hr
  have c4:=schValidate_sat R (sz.fits (by decide) (by decide))
  rw [hr] at C
  unfold iB iR oBE oRE oB1 oR1 rE at C
  simp only [eStp] at C
  by_cases h4:schE R=0
  case neg =>
   have spec:evoE s st=.error (schE R):=by unfold evoE;rw [if_neg (by rw [h1];simp),if_neg (by rw [h2];simp),hr];simp only;rw [if_pos h4]
   rw [spec]
   unfold sOut rE
   simp only
   refine ZE Tryz.func13 Tryz.ntmps13 fun w0 m0 F0=>?_
   refine ZVp (Z6 @okIds_ref @eStp.eq_1 @h4 @dropL_nil @dropL_nil' @dropL_cons) (Z4 (c1) (c2) (c3) (c4)) Z0 (Z2 (Zi [] [] [] [(24,36),(42,37),(10,35)] [] [36,37,35] [] [36,37,35] (cl)) (Zi [(1000,8)] [(1000,36),(1001,37),(1002,35)] [(1000,8)] [(1,30),(2,31),(3,33)] [] [36,37,35,30,31,33] [8,8] [36,37,35,30,31,33] (C))) ?_;repeat' (first|apply Zb|apply Zn|(apply Zm;intro h))
   exact ZQ (Z1 Tryz.results13)
  have spec:evoE s st=.ok R:=by unfold evoE;rw [if_neg (by rw [h1];simp),if_neg (by rw [h2];simp),hr];simp only;rw [if_neg (by rw [h4];simp)]
  rw [spec]
  unfold sOut rE
  simp only
  refine ZE Tryz.func13 Tryz.ntmps13 fun w0 m0 F0=>?_
  rw [h4] at c4
  refine ZVp (Z5 @okIds_ref @eStp.eq_1 @dropL_nil @dropL_nil' @dropL_cons) (Z4 (c1) (c2) (c3) (c4)) Z0 (Z2 (Zi [] [] [] [(24,36),(42,37),(10,35)] [] [36,37,35] [] [36,37,35] (cl)) (Zi [(1000,8)] [(1000,36),(1001,37),(1002,35)] [(1000,8)] [(1,30),(2,31),(3,33)] [] [36,37,35,30,31,33] [8,8] [36,37,35,30,31,33] (C))) ?_;repeat' (first|apply Zb|apply Zn|(apply Zm;intro h))
  exact ZQ (Z1 Tryz.results13)
set_option maxHeartbeats 32000000 in
theorem compSchema_sat (s:Sch) (st:Stp) (hs:s.Fits) (hf:st.Fits) (hk:K123 st):Sat Tryz.prog 21 [.agg (eSch s),.agg (eStp st)] (.tup [.agg (eSch (sOut (compE s st))),oI (rE (compE s st))]):=by
 have c1:=evoApply_sat s st hs hf
 cases hv:evoE s st with
 | error e =>
  have sp:compE s st=.error e:=by unfold compE;rw [hv]
  have he:=evoE_ne hv
  rw [hv] at c1
  rw [sp]
  unfold sOut rE at c1 ⊢
  simp only at c1 ⊢
  refine ZE Tryz.func21 Tryz.ntmps21 fun w0 m0 F0=>?_
  refine ZW (Z2 @eStp.eq_1 @he) (Z1 (c1)) ?_
  exact ZQ (Z1 Tryz.results21)
 | ok u =>
  rw [hv] at c1
  unfold sOut rE at c1
  simp only at c1
  by_cases h3:st.kind=3
  ·have sp:compE s st=.ok ⟨[],[],[]⟩:=by unfold compE;rw [hv];simp only;rw [if_neg (by omega),if_pos (.inl h3)]
   have e3:(st.kind==3)=true:=by simp [h3]
   have n1:(st.kind==13)=false:=by simp [h3]
   have n2:(st.kind==14)=false:=by simp [h3]
   have n3:(st.kind==15)=false:=by simp [h3]
   have n4:(st.kind==16)=false:=by simp [h3]
   rw [sp]
   unfold sOut rE
   try simp only
   refine ZE Tryz.func21 Tryz.ntmps21 fun w0 m0 F0=>?_
   refine ZW (Z6 @eStp.eq_1 @e3 @n1 @n2 @n3 @n4) (Z1 (c1)) ?_
   exact ZQ (Z1 Tryz.results21)
  ·have h12:st.kind=1∨st.kind=2:=by unfold K123 at hk;omega
   have sp:compE s st=.ok ⟨[compT s u st],[],[]⟩:=by unfold compE;rw [hv];simp only;rw [if_neg (by omega),if_neg (by omega)]
   obtain ⟨i,k,hi,hk2,ei,ek⟩:=tblAt_step hv h12
   have ct:=compTable12_sat s u st (evoE_parts hv).1 (evoE_ok hv) h12 hi ei hk2 ek
   have n1:(st.kind==13)=false:=by simp;omega
   have n2:(st.kind==14)=false:=by simp;omega
   have n3:(st.kind==15)=false:=by simp;omega
   have n4:(st.kind==16)=false:=by simp;omega
   have n5:(st.kind==3)=false:=by simp;omega
   have n6:(st.kind==4)=false:=by simp;omega
   have n7:(st.kind==9)=false:=by simp;omega
   rw [sp]
   unfold sOut rE
   simp only [eTblX,eTbls,eFKs,eCons,List.map_cons,List.map_nil,eSch] at ct ⊢
   refine ZE Tryz.func21 Tryz.ntmps21 fun w0 m0 F0=>?_
   refine ZW (Z8 @eStp.eq_1 @n1 @n2 @n3 @n4 @n5 @n6 @n7) (Z2 (c1) (ct)) ?_
   exact ZQ (Z1 Tryz.results21)
theorem schemas_ok (s:Sch) (st:Stp) (hs:s.Fits) (hf:st.Fits) (hk:K123 st) {u v:Sch} (h:evoE s st=.ok u) (h2:compE s st=.ok v) :
  Sat Tryz.prog 54 [.agg (eSch s),.agg (eStp st)] (.tup [.agg (eSch u),.agg (eSch v),oI 0]):=by
 have c1:=evoApply_sat s st hs hf
 have c2:=compSchema_sat s st hs hf hk
 rw [h] at c1
 rw [h2] at c2
 unfold sOut rE at c1 c2
 simp only at c1 c2
 refine ZE Tryz.func54 Tryz.ntmps54 fun w0 m0 F0=>?_
 refine ZV (Z1 @eStp.eq_1) (Z2 (c1) (c2)) (Z1 (Zd 5 [(0,3)] [(3,[],[(1,2)]),(4,[(5,1)],[(2,1)])] [3,4] 8)) Z0 ?_
 exact ZQ (Z1 Tryz.results54)
end Go.Bw
