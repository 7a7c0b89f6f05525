/-
  WHAT IS PROVED HERE, of this translation: splitTable_satM, evApply_3, evApply_satM, evoApply_sat.
  A theorem that ends in sat says what the function it names returns, whatever the state it is called in; the bounds on its arguments stand ahead of it.
-/
import Derived.Test.YtdnapljegcihiaaGreatWp
import Derived.Test.YtdnapljegcihiaaGreatWq
import Derived.Test.YtdnapljegcihiaaGreatWs
import Derived.Test.YtdnapljegcihiaaGreatWv
import Derived.Test.YtdnapljegcihiaaGreatWw
set_option linter.unusedSimpArgs false
set_option linter.unusedVariables false
namespace Go.Bw
open Go.Proofs
theorem splitTable_satM (s:Sch) (i:Nat) (st:Stp) (hi:i<s.tables.length) (sm:SmallS s) (hst:st.cols.length≤140737488355328) (hpk:∀c∈s.tables[i].pk,0≤c∧c<(s.tables[i].cols.length:Int)) :
  SatM Tryz.prog 72 [.one (.ptr 1000 0),oI i,.agg (eStp st)] (iB s) (iR s) (.v (oI (rE (splitT s i st)))) (oBE (splitT s i st)) (oRE (splitT s i st)):=by
 by_cases hE:splitE s (tAt s i) st=0
 ·exact splitTable_ok s i st hi sm hst hE hpk
 ·exact splitTable_err s i st hi sm hst hE
set_option maxHeartbeats 32000000 in
theorem evApply_3 (s:Sch) (st:Stp) (sm:SmallS s) (hf:st.Fits) (hpk:∀t∈s.tables,PkOk t) (hk:st.kind≠13∧st.kind≠14∧st.kind≠15∧st.kind≠16∧st.kind≠10) (j:Nat) (hj:j<s.tables.length) (h0:tblAt s.tables st.table=(j:Int)) (hq:st.kind=4∨st.kind=6∨st.kind=7) :
  SatM Tryz.prog 46 [.one (.ptr 1000 0),.agg (eStp st)] (iB s) (iR s) (.v (oI (rE (evApply s st)))) (oBE (evApply s st)) (oRE (evApply s st)):=by
 have b1:=sm.tables
 have b3:=sm.fks
 have b4:=sm.cons
 have b5:∀f∈s.fks,f.cols.length≤1048576:=fun f hf=>by have:=(sm.fk f hf).1;omega
 have hc:=hf.cols
 have fs:=findTable_sat s st.table (by omega)
 rw [h0,mx0_nat,decide_eq_true (show (0:Int)≤(j:Int) by omega)] at fs
 have s0:evApply s st=(if st.kind=4 then renameT s j st.newName else if st.kind=6 then splitT s j st else if st.kind=7 then joinT s j st.other else if st.kind=8 then partT s j st else if st.kind=9 then mergeT s j st else if st.kind=11 then dropT s st.table else if st.kind=12 then concatC s j st else if st.kind=1 then addC s j st else alterC s j st):=by
  unfold evApply;rw [if_neg hk.1,if_neg hk.2.1,if_neg hk.2.2.1,if_neg hk.2.2.2.1,if_neg hk.2.2.2.2];simp only [h0,Int.toNat_natCast];rw [if_neg (by omega)]
 obtain ⟨n1,n2,n3,n4,n5⟩:=hk
 rcases hq with hq|hq|hq
 ·have spec:evApply s st=renameT s j st.newName:=by rw [s0,if_pos hq]
  have C:=renameTable_satM s j st.newName hj sm
  rw [spec]
  generalize renameT s j st.newName=r at C ⊢
  unfold iB iR at C ⊢
  refine sM tyOk [1000] [1,2,3] Tryz.func46 fun w0 m0 F0=>?_
  simp only [Tryz.ntmps46,envOf,Nat.reduceAdd]
  repeat' (first|((first|((fail_if_success (refine AWP.isRegion 19 ?_));(with_reducible refine qV tyOk fun K hK=>?_))|(refine AWP.isRegion 14 ?_;refine dX tyOk mixed [(0,5)] [(5,[(6,5)],[])] [5] 8 fun K hK=>?_;simp only [SG,segs] at hK ⊢)|refine Q2 ?_|((with_reducible first|refine qS ?_ ?_|refine qT ?_ ?_|refine qU ?_ ?_)<;>(intro h;try simp only [NM] at h))|((with_reducible refine CallJ.is ?_);(first|refine CallJ.pure (fs) ?_|((apply CallJ.lentI);(focus (simp -dsimp (disch:=first|exact D|fail) only [go_sem,↓reduceIte,seval,eStp,Option.getD_none,frz_eTblO,frz_eFKO];rfl));(focus (first|exact (fs))))))|(with_reducible first|refine VCy.some fun K hK=>?_|refine VCy.step fun K hK=>?_))<;>simp -dsimp (disch:=first|exact D|fail) only [go_sem,↓reduceIte,seval,eStp,Option.getD_none,frz_eTblO,frz_eFKO])|((with_reducible refine hK _ ?_);clear hK K)|(with_reducible refine VCy.intro fun K0 hK0=>?_)|((with_reducible refine VCy.fin ?_);(refine hK0 _ ?_);clear hK0 K0)|(with_reducible first|refine VCy.quiet ?_|refine VCy.none ?_)|((with_reducible refine VCy.keep ?_ ?_);focus ((simp -dsimp (disch:=first|exact D|fail) only [go_sem,↓reduceIte,seval,Stable_cons,Stable_nil,sameA_some,sameA_none,eStp,Option.getD_none,frz_eTblO,frz_eFKO]);first|done|exact E|fail))|refine Q1 ?_|((with_reducible refine qW (T:=TT) (b:=?_) ?_ ?_);rotate_left;exact rfl)|((with_reducible refine yS ?_ ?_)<;>(intro h;try simp only [NM] at h)))
  cases r with
  | error e =>
   unfold oBE oRE rE at C ⊢
   simp only [eStp] at C ⊢
   repeat' (first|((first|with_reducible refine qV tyOk fun K hK=>?_|refine Q2 ?_|((with_reducible first|refine qS ?_ ?_|refine qT ?_ ?_|refine qU ?_ ?_)<;>(intro h;try simp only [NM] at h))|((with_reducible refine CallJ.is ?_);refine CallJ.io [(1000,1000)] [(1000,1000),(1001,1001),(1002,1002)] [] [] [1000] [1000,1001,1002] [1000] [1000,1001,1002] (C) rfl ⟨rfl,rfl,rfl,rfl⟩ ?_ ?_ ?_))<;>simp -dsimp (disch:=first|exact D|fail) only [go_sem,↓reduceIte,seval,okIds_ref,Option.getD_none,eStp,eTbl,eFK,eCon,eInts,eCols,dropL_nil,dropL_nil',dropL_cons])|((with_reducible refine hK _ ?_);clear hK K)|refine Q1 ?_|((with_reducible refine qW (T:=TT) (b:=?_) ?_ ?_);rotate_left;exact rfl)|((with_reducible refine yS ?_ ?_)<;>(intro h;try simp only [NM] at h)))
   simp -dsimp (disch:=first|exact D|fail) only [retQ,Tryz.results46,resVals,cellRV,resOf,St.rest,St.freeze,RT,go_sem,↓reduceIte,seval]
  | ok R =>
   unfold oBE oRE oB1 oR1 rE at C ⊢
   simp only [eStp] at C ⊢
   repeat' (first|((first|with_reducible refine qV tyOk fun K hK=>?_|refine Q2 ?_|((with_reducible first|refine qS ?_ ?_|refine qT ?_ ?_|refine qU ?_ ?_)<;>(intro h;try simp only [NM] at h))|((with_reducible refine CallJ.is ?_);refine CallJ.io [(1000,1000)] [(1000,1000),(1001,1001),(1002,1002)] [(1000,1000)] [(1,1),(2,2),(3,3)] [] [1000,1001,1002,1,2,3] [1000,1000] [1000,1001,1002,1,2,3] (C) rfl ⟨rfl,rfl,rfl,rfl⟩ ?_ ?_ ?_))<;>simp -dsimp (disch:=first|exact D|fail) only [go_sem,↓reduceIte,seval,okIds_ref,Option.getD_none,eStp,eTbl,eFK,eCon,eInts,eCols,dropL_nil,dropL_nil',dropL_cons])|((with_reducible refine hK _ ?_);clear hK K)|refine Q1 ?_|((with_reducible refine qW (T:=TT) (b:=?_) ?_ ?_);rotate_left;exact rfl)|((with_reducible refine yS ?_ ?_)<;>(intro h;try simp only [NM] at h)))
   simp -dsimp (disch:=first|exact D|fail) only [retQ,Tryz.results46,resVals,cellRV,resOf,St.rest,St.freeze,RT,go_sem,↓reduceIte,seval]
 ·have spec:evApply s st=splitT s j st:=by rw [s0,if_neg (by omega),if_pos hq]
  have C:=splitTable_satM s j st hj sm (by omega) (hpk _ (List.getElem_mem hj))
  rw [spec]
  generalize splitT s j st=r at C ⊢
  unfold iB iR at C ⊢
  refine sM tyOk [1000] [1,2,3] Tryz.func46 fun w0 m0 F0=>?_
  simp only [Tryz.ntmps46,envOf,Nat.reduceAdd]
  repeat' (first|((first|((fail_if_success (refine AWP.isRegion 21 ?_));(with_reducible refine qV tyOk fun K hK=>?_))|(refine AWP.isRegion 14 ?_;refine dX tyOk mixed [(0,5)] [(5,[(6,5)],[])] [5] 8 fun K hK=>?_;simp only [SG,segs] at hK ⊢)|refine Q2 ?_|((with_reducible first|refine qS ?_ ?_|refine qT ?_ ?_|refine qU ?_ ?_)<;>(intro h;try simp only [NM] at h))|((with_reducible refine CallJ.is ?_);(first|refine CallJ.pure (fs) ?_|((apply CallJ.lentI);(focus (simp -dsimp (disch:=first|exact D|fail) only [go_sem,↓reduceIte,seval,eStp,Option.getD_none,frz_eTblO,frz_eFKO];rfl));(focus (first|exact (fs))))))|(with_reducible first|refine VCy.some fun K hK=>?_|refine VCy.step fun K hK=>?_))<;>simp -dsimp (disch:=first|exact D|fail) only [go_sem,↓reduceIte,seval,eStp,Option.getD_none,frz_eTblO,frz_eFKO])|((with_reducible refine hK _ ?_);clear hK K)|(with_reducible refine VCy.intro fun K0 hK0=>?_)|((with_reducible refine VCy.fin ?_);(refine hK0 _ ?_);clear hK0 K0)|(with_reducible first|refine VCy.quiet ?_|refine VCy.none ?_)|((with_reducible refine VCy.keep ?_ ?_);focus ((simp -dsimp (disch:=first|exact D|fail) only [go_sem,↓reduceIte,seval,Stable_cons,Stable_nil,sameA_some,sameA_none,eStp,Option.getD_none,frz_eTblO,frz_eFKO]);first|done|exact E|fail))|refine Q1 ?_|((with_reducible refine qW (T:=TT) (b:=?_) ?_ ?_);rotate_left;exact rfl)|((with_reducible refine yS ?_ ?_)<;>(intro h;try simp only [NM] at h)))
  cases r with
  | error e =>
   unfold oBE oRE rE at C ⊢
   simp only [eStp] at C ⊢
   repeat' (first|((first|with_reducible refine qV tyOk fun K hK=>?_|refine Q2 ?_|((with_reducible first|refine qS ?_ ?_|refine qT ?_ ?_|refine qU ?_ ?_)<;>(intro h;try simp only [NM] at h))|((with_reducible refine CallJ.is ?_);refine CallJ.io [(1000,1000)] [(1000,1000),(1001,1001),(1002,1002)] [] [] [1000] [1000,1001,1002] [1000] [1000,1001,1002] (C) rfl ⟨rfl,rfl,rfl,rfl⟩ ?_ ?_ ?_))<;>simp -dsimp (disch:=first|exact D|fail) only [go_sem,↓reduceIte,seval,okIds_ref,Option.getD_none,eStp,eTbl,eFK,eCon,eInts,eCols,dropL_nil,dropL_nil',dropL_cons])|((with_reducible refine hK _ ?_);clear hK K)|refine Q1 ?_|((with_reducible refine qW (T:=TT) (b:=?_) ?_ ?_);rotate_left;exact rfl)|((with_reducible refine yS ?_ ?_)<;>(intro h;try simp only [NM] at h)))
   simp -dsimp (disch:=first|exact D|fail) only [retQ,Tryz.results46,resVals,cellRV,resOf,St.rest,St.freeze,RT,go_sem,↓reduceIte,seval]
  | ok R =>
   unfold oBE oRE oB1 oR1 rE at C ⊢
   simp only [eStp] at C ⊢
   repeat' (first|((first|with_reducible refine qV tyOk fun K hK=>?_|refine Q2 ?_|((with_reducible first|refine qS ?_ ?_|refine qT ?_ ?_|refine qU ?_ ?_)<;>(intro h;try simp only [NM] at h))|((with_reducible refine CallJ.is ?_);refine CallJ.io [(1000,1000)] [(1000,1000),(1001,1001),(1002,1002)] [(1000,1000)] [(1,1),(2,2),(3,3)] [] [1000,1001,1002,1,2,3] [1000,1000] [1000,1001,1002,1,2,3] (C) rfl ⟨rfl,rfl,rfl,rfl⟩ ?_ ?_ ?_))<;>simp -dsimp (disch:=first|exact D|fail) only [go_sem,↓reduceIte,seval,okIds_ref,Option.getD_none,eStp,eTbl,eFK,eCon,eInts,eCols,dropL_nil,dropL_nil',dropL_cons])|((with_reducible refine hK _ ?_);clear hK K)|refine Q1 ?_|((with_reducible refine qW (T:=TT) (b:=?_) ?_ ?_);rotate_left;exact rfl)|((with_reducible refine yS ?_ ?_)<;>(intro h;try simp only [NM] at h)))
   simp -dsimp (disch:=first|exact D|fail) only [retQ,Tryz.results46,resVals,cellRV,resOf,St.rest,St.freeze,RT,go_sem,↓reduceIte,seval]
 ·have spec:evApply s st=joinT s j st.other:=by rw [s0,if_neg (by omega),if_neg (by omega),if_pos hq]
  have C:=joinTables_satM s j st.other hj sm hpk
  rw [spec]
  generalize joinT s j st.other=r at C ⊢
  unfold iB iR at C ⊢
  refine sM tyOk [1000] [1,2,3] Tryz.func46 fun w0 m0 F0=>?_
  simp only [Tryz.ntmps46,envOf,Nat.reduceAdd]
  repeat' (first|((first|((fail_if_success (refine AWP.isRegion 23 ?_));(with_reducible refine qV tyOk fun K hK=>?_))|(refine AWP.isRegion 14 ?_;refine dX tyOk mixed [(0,5)] [(5,[(6,5)],[])] [5] 8 fun K hK=>?_;simp only [SG,segs] at hK ⊢)|refine Q2 ?_|((with_reducible first|refine qS ?_ ?_|refine qT ?_ ?_|refine qU ?_ ?_)<;>(intro h;try simp only [NM] at h))|((with_reducible refine CallJ.is ?_);(first|refine CallJ.pure (fs) ?_|((apply CallJ.lentI);(focus (simp -dsimp (disch:=first|exact D|fail) only [go_sem,↓reduceIte,seval,eStp,Option.getD_none,frz_eTblO,frz_eFKO];rfl));(focus (first|exact (fs))))))|(with_reducible first|refine VCy.some fun K hK=>?_|refine VCy.step fun K hK=>?_))<;>simp -dsimp (disch:=first|exact D|fail) only [go_sem,↓reduceIte,seval,eStp,Option.getD_none,frz_eTblO,frz_eFKO])|((with_reducible refine hK _ ?_);clear hK K)|(with_reducible refine VCy.intro fun K0 hK0=>?_)|((with_reducible refine VCy.fin ?_);(refine hK0 _ ?_);clear hK0 K0)|(with_reducible first|refine VCy.quiet ?_|refine VCy.none ?_)|((with_reducible refine VCy.keep ?_ ?_);focus ((simp -dsimp (disch:=first|exact D|fail) only [go_sem,↓reduceIte,seval,Stable_cons,Stable_nil,sameA_some,sameA_none,eStp,Option.getD_none,frz_eTblO,frz_eFKO]);first|done|exact E|fail))|refine Q1 ?_|((with_reducible refine qW (T:=TT) (b:=?_) ?_ ?_);rotate_left;exact rfl)|((with_reducible refine yS ?_ ?_)<;>(intro h;try simp only [NM] at h)))
  cases r with
  | error e =>
   unfold oBE oRE rE at C ⊢
   simp only [eStp] at C ⊢
   repeat' (first|((first|with_reducible refine qV tyOk fun K hK=>?_|refine Q2 ?_|((with_reducible first|refine qS ?_ ?_|refine qT ?_ ?_|refine qU ?_ ?_)<;>(intro h;try simp only [NM] at h))|((with_reducible refine CallJ.is ?_);refine CallJ.io [(1000,1000)] [(1000,1000),(1001,1001),(1002,1002)] [] [] [1000] [1000,1001,1002] [1000] [1000,1001,1002] (C) rfl ⟨rfl,rfl,rfl,rfl⟩ ?_ ?_ ?_))<;>simp -dsimp (disch:=first|exact D|fail) only [go_sem,↓reduceIte,seval,okIds_ref,Option.getD_none,eStp,eTbl,eFK,eCon,eInts,eCols,dropL_nil,dropL_nil',dropL_cons])|((with_reducible refine hK _ ?_);clear hK K)|refine Q1 ?_|((with_reducible refine qW (T:=TT) (b:=?_) ?_ ?_);rotate_left;exact rfl)|((with_reducible refine yS ?_ ?_)<;>(intro h;try simp only [NM] at h)))
   simp -dsimp (disch:=first|exact D|fail) only [retQ,Tryz.results46,resVals,cellRV,resOf,St.rest,St.freeze,RT,go_sem,↓reduceIte,seval]
  | ok R =>
   unfold oBE oRE oB1 oR1 rE at C ⊢
   simp only [eStp] at C ⊢
   repeat' (first|((first|with_reducible refine qV tyOk fun K hK=>?_|refine Q2 ?_|((with_reducible first|refine qS ?_ ?_|refine qT ?_ ?_|refine qU ?_ ?_)<;>(intro h;try simp only [NM] at h))|((with_reducible refine CallJ.is ?_);refine CallJ.io [(1000,1000)] [(1000,1000),(1001,1001),(1002,1002)] [(1000,1000)] [(1,1),(2,2),(3,3)] [] [1000,1001,1002,1,2,3] [1000,1000] [1000,1001,1002,1,2,3] (C) rfl ⟨rfl,rfl,rfl,rfl⟩ ?_ ?_ ?_))<;>simp -dsimp (disch:=first|exact D|fail) only [go_sem,↓reduceIte,seval,okIds_ref,Option.getD_none,eStp,eTbl,eFK,eCon,eInts,eCols,dropL_nil,dropL_nil',dropL_cons])|((with_reducible refine hK _ ?_);clear hK K)|refine Q1 ?_|((with_reducible refine qW (T:=TT) (b:=?_) ?_ ?_);rotate_left;exact rfl)|((with_reducible refine yS ?_ ?_)<;>(intro h;try simp only [NM] at h)))
   simp -dsimp (disch:=first|exact D|fail) only [retQ,Tryz.results46,resVals,cellRV,resOf,St.rest,St.freeze,RT,go_sem,↓reduceIte,seval]
theorem evApply_satM (s:Sch) (st:Stp) (sm:SmallS s) (hf:st.Fits) (hpk:∀t∈s.tables,PkOk t) :
  SatM Tryz.prog 46 [.one (.ptr 1000 0),.agg (eStp st)] (iB s) (iR s) (.v (oI (rE (evApply s st)))) (oBE (evApply s st)) (oRE (evApply s st)):=by
 by_cases hk:st.kind=13∨st.kind=14∨st.kind=15∨st.kind=16∨st.kind=10
 ·exact evApply_1 s st sm hf hk
 have hk:st.kind≠13∧st.kind≠14∧st.kind≠15∧st.kind≠16∧st.kind≠10:=by omega
 rcases idx_cases (fun u=>sEq u.name st.table) s.tables 0 with ⟨e1,_⟩|⟨j,hj,e1,_,_⟩
 ·exact evApply_2 s st sm hf hk e1
 have e1:tblAt s.tables st.table=(j:Int):=by unfold tblAt;simpa using e1
 by_cases h3:st.kind=4∨st.kind=6∨st.kind=7
 ·exact evApply_3 s st sm hf hpk hk j hj e1 h3
 by_cases h4:st.kind=8∨st.kind=9∨st.kind=11
 ·exact evApply_4 s st sm hf hpk hk j hj e1 h4
 by_cases h5:st.kind=12∨st.kind=1
 ·exact evApply_5 s st sm hf hpk hk j hj e1 h5
 ·exact evApply_6 s st sm hf hpk hk j hj e1 (by omega)
set_option maxHeartbeats 32000000 in
theorem evoApply_sat (s:Sch) (st:Stp) (hs:s.Fits) (hf:st.Fits):Sat Tryz.prog 29 [.agg (eSch s),.agg (eStp st)] (.tup [.agg (eSch (sOut (evoE s st))),oI (rE (evoE s st))]):=by
 have c1:=schValidate_sat s hs
 have c2:=evValidate_sat st hf
 have c3:=stpClone_sat st hf
 obtain ⟨f1,f2,f3,f4⟩:=hf
 by_cases h1:schE s=0
 case neg =>
  have spec:evoE s st=.error (schE s):=by unfold evoE;rw [if_pos h1]
  rw [spec]
  unfold sOut rE
  simp only
  refine sS tyOk Tryz.func29 fun w0 m0 F0=>?_
  simp only [Tryz.ntmps29,envOf,Nat.reduceAdd]
  repeat' (first|((first|with_reducible refine qV tyOk fun K hK=>?_|refine Q2 ?_|((with_reducible first|refine qS ?_ ?_|refine qT ?_ ?_|refine qU ?_ ?_)<;>(intro h;try simp only [NM] at h))|((with_reducible refine CallJ.is ?_);(first|refine CallJ.pure (c1) ?_|((apply CallJ.lentI);(focus (simp -dsimp (disch:=first|exact D|fail) only [go_sem,↓reduceIte,seval,eSch,h1];rfl));(focus (first|exact (c1)))))))<;>simp -dsimp (disch:=first|exact D|fail) only [go_sem,↓reduceIte,seval,eSch,h1])|((with_reducible refine hK _ ?_);clear hK K)|refine Q1 ?_|((with_reducible refine qW (T:=TT) (b:=?_) ?_ ?_);rotate_left;exact rfl)|((with_reducible refine yS ?_ ?_)<;>(intro h;try simp only [NM] at h)))
  simp -dsimp (disch:=first|exact D|fail) only [retQ,Tryz.results29,resVals,cellRV,resOf,St.rest,St.freeze,RT,go_sem,↓reduceIte,seval]
 rw [h1] at c1
 by_cases h2:evValE st=0
 case neg =>
  have spec:evoE s st=.error (evValE st):=by unfold evoE;rw [if_neg (by rw [h1];simp),if_pos h2]
  rw [spec]
  unfold sOut rE
  simp only
  obtain ⟨es,hes⟩:∃es,eStp st=es:=⟨_,rfl⟩
  refine sS tyOk Tryz.func29 fun w0 m0 F0=>?_
  simp only [Tryz.ntmps29,envOf,Nat.reduceAdd]
  repeat' (first|((first|with_reducible refine qV tyOk fun K hK=>?_|refine Q2 ?_|((with_reducible first|refine qS ?_ ?_|refine qT ?_ ?_|refine qU ?_ ?_)<;>(intro h;try simp only [NM] at h))|((with_reducible refine CallJ.is ?_);(first|refine CallJ.pure (c1) ?_|refine CallJ.pure (c2) ?_|((apply CallJ.lentI);(focus (simp -dsimp (disch:=first|exact D|fail) only [go_sem,↓reduceIte,seval,eSch,eStp,h2];rfl));(focus (first|exact (c1)|exact (c2)))))))<;>simp -dsimp (disch:=first|exact D|fail) only [go_sem,↓reduceIte,seval,eSch,eStp,h2])|((with_reducible refine hK _ ?_);clear hK K)|refine Q1 ?_|((with_reducible refine qW (T:=TT) (b:=?_) ?_ ?_);rotate_left;exact rfl)|((with_reducible refine yS ?_ ?_)<;>(intro h;try simp only [NM] at h)))
  simp -dsimp (disch:=first|exact D|fail) only [retQ,Tryz.results29,resVals,cellRV,resOf,St.rest,St.freeze,RT,go_sem,↓reduceIte,seval]
 rw [h2] at c2
 have sm:=smallS_of h1
 have b1:=sm.tables
 have b3:=sm.fks
 have b4:=sm.cons
 have cl:=schClone_own s (by omega) (by omega) (by omega) (fun t ht=>by have:=sm.table t ht;omega) (fun f hf=>by have:=(sm.fk f hf).1;omega)
 have C:=evApply_satM s st sm ⟨f1,f2,f3,f4⟩ (pkOk_of h1)
 cases hr:evApply s st with
 | error e =>
  have spec:evoE s st=.error e:=by unfold evoE;rw [if_neg (by rw [h1];simp),if_neg (by rw [h2];simp),hr]
  have he:=evApply_ne hr
  rw [hr] at C
  rw [spec]
  unfold iB iR oBE oRE rE at C
  unfold sOut rE
  simp only [eStp] at C ⊢
  refine sS tyOk Tryz.func29 fun w0 m0 F0=>?_
  simp only [Tryz.ntmps29,envOf,Nat.reduceAdd]
  repeat' (first|((first|with_reducible refine qV tyOk fun K hK=>?_|refine Q2 ?_|((with_reducible first|refine qS ?_ ?_|refine qT ?_ ?_|refine qU ?_ ?_)<;>(intro h;try simp only [NM] at h))|((with_reducible refine CallJ.is ?_);refine CallJ.io [] [] [] [(24,36),(42,37),(10,35)] [] [36,37,35] [] [36,37,35] (cl) rfl ⟨rfl,rfl,rfl,rfl⟩ ?_ ?_ ?_)|((with_reducible refine CallJ.is ?_);refine CallJ.io [(1000,8)] [(1000,36),(1001,37),(1002,35)] [] [] [8] [36,37,35] [8] [36,37,35] (C) rfl ⟨rfl,rfl,rfl,rfl⟩ ?_ ?_ ?_)|((with_reducible refine CallJ.is ?_);(first|refine CallJ.pure (c1) ?_|refine CallJ.pure (c2) ?_|refine CallJ.pure (c3) ?_|((apply CallJ.lentI);(focus (simp -dsimp (disch:=first|exact D|fail) only [go_sem,↓reduceIte,seval,okIds_ref,eSch,eStp,he,dropL_nil,dropL_nil',dropL_cons];rfl));(focus (first|exact (c1)|exact (c2)|exact (c3)))))))<;>simp -dsimp (disch:=first|exact D|fail) only [go_sem,↓reduceIte,seval,okIds_ref,eSch,eStp,he,dropL_nil,dropL_nil',dropL_cons])|((with_reducible refine hK _ ?_);clear hK K)|refine Q1 ?_|((with_reducible refine qW (T:=TT) (b:=?_) ?_ ?_);rotate_left;exact rfl)|((with_reducible refine yS ?_ ?_)<;>(intro h;try simp only [NM] at h)))
  simp -dsimp (disch:=first|exact D|fail) only [retQ,Tryz.results29,resVals,cellRV,resOf,St.rest,St.freeze,RT,go_sem,↓reduceIte,seval]
 | ok R =>
  have sz:=evApply_sz sm (by omega) (by omega) (by omega) (by omega) hr
  have c4:=schValidate_sat R (sz.fits (by decide) (by decide))
  rw [hr] at C
  unfold iB iR oBE oRE oB1 oR1 rE at C
  simp only [eStp] at C
  by_cases h4:schE R=0
  case neg =>
   have spec:evoE s st=.error (schE R):=by unfold evoE;rw [if_neg (by rw [h1];simp),if_neg (by rw [h2];simp),hr];simp only;rw [if_pos h4]
   rw [spec]
   unfold sOut rE
   simp only
   refine sS tyOk Tryz.func29 fun w0 m0 F0=>?_
   simp only [Tryz.ntmps29,envOf,Nat.reduceAdd]
   repeat' (first|((first|with_reducible refine qV tyOk fun K hK=>?_|refine Q2 ?_|((with_reducible first|refine qS ?_ ?_|refine qT ?_ ?_|refine qU ?_ ?_)<;>(intro h;try simp only [NM] at h))|((with_reducible refine CallJ.is ?_);refine CallJ.io [] [] [] [(24,36),(42,37),(10,35)] [] [36,37,35] [] [36,37,35] (cl) rfl ⟨rfl,rfl,rfl,rfl⟩ ?_ ?_ ?_)|((with_reducible refine CallJ.is ?_);refine CallJ.io [(1000,8)] [(1000,36),(1001,37),(1002,35)] [(1000,8)] [(1,30),(2,31),(3,33)] [] [36,37,35,30,31,33] [8,8] [36,37,35,30,31,33] (C) rfl ⟨rfl,rfl,rfl,rfl⟩ ?_ ?_ ?_)|((with_reducible refine CallJ.is ?_);(first|refine CallJ.pure (c1) ?_|refine CallJ.pure (c2) ?_|refine CallJ.pure (c3) ?_|refine CallJ.pure (c4) ?_|((apply CallJ.lentI);(focus (simp -dsimp (disch:=first|exact D|fail) only [go_sem,↓reduceIte,seval,okIds_ref,eSch,eStp,h4,dropL_nil,dropL_nil',dropL_cons];rfl));(focus (first|exact (c1)|exact (c2)|exact (c3)|exact (c4)))))))<;>simp -dsimp (disch:=first|exact D|fail) only [go_sem,↓reduceIte,seval,okIds_ref,eSch,eStp,h4,dropL_nil,dropL_nil',dropL_cons])|((with_reducible refine hK _ ?_);clear hK K)|refine Q1 ?_|((with_reducible refine qW (T:=TT) (b:=?_) ?_ ?_);rotate_left;exact rfl)|((with_reducible refine yS ?_ ?_)<;>(intro h;try simp only [NM] at h)))
   simp -dsimp (disch:=first|exact D|fail) only [retQ,Tryz.results29,resVals,cellRV,resOf,St.rest,St.freeze,RT,go_sem,↓reduceIte,seval]
  have spec:evoE s st=.ok R:=by unfold evoE;rw [if_neg (by rw [h1];simp),if_neg (by rw [h2];simp),hr];simp only;rw [if_neg (by rw [h4];simp)]
  rw [spec]
  unfold sOut rE
  simp only
  refine sS tyOk Tryz.func29 fun w0 m0 F0=>?_
  simp only [Tryz.ntmps29,envOf,Nat.reduceAdd]
  rw [h4] at c4
  repeat' (first|((first|with_reducible refine qV tyOk fun K hK=>?_|refine Q2 ?_|((with_reducible first|refine qS ?_ ?_|refine qT ?_ ?_|refine qU ?_ ?_)<;>(intro h;try simp only [NM] at h))|((with_reducible refine CallJ.is ?_);refine CallJ.io [] [] [] [(24,36),(42,37),(10,35)] [] [36,37,35] [] [36,37,35] (cl) rfl ⟨rfl,rfl,rfl,rfl⟩ ?_ ?_ ?_)|((with_reducible refine CallJ.is ?_);refine CallJ.io [(1000,8)] [(1000,36),(1001,37),(1002,35)] [(1000,8)] [(1,30),(2,31),(3,33)] [] [36,37,35,30,31,33] [8,8] [36,37,35,30,31,33] (C) rfl ⟨rfl,rfl,rfl,rfl⟩ ?_ ?_ ?_)|((with_reducible refine CallJ.is ?_);(first|refine CallJ.pure (c1) ?_|refine CallJ.pure (c2) ?_|refine CallJ.pure (c3) ?_|refine CallJ.pure (c4) ?_|((apply CallJ.lentI);(focus (simp -dsimp (disch:=first|exact D|fail) only [go_sem,↓reduceIte,seval,okIds_ref,eSch,eStp,dropL_nil,dropL_nil',dropL_cons];rfl));(focus (first|exact (c1)|exact (c2)|exact (c3)|exact (c4)))))))<;>simp -dsimp (disch:=first|exact D|fail) only [go_sem,↓reduceIte,seval,okIds_ref,eSch,eStp,dropL_nil,dropL_nil',dropL_cons])|((with_reducible refine hK _ ?_);clear hK K)|refine Q1 ?_|((with_reducible refine qW (T:=TT) (b:=?_) ?_ ?_);rotate_left;exact rfl)|((with_reducible refine yS ?_ ?_)<;>(intro h;try simp only [NM] at h)))
  simp -dsimp (disch:=first|exact D|fail) only [retQ,Tryz.results29,resVals,cellRV,resOf,St.rest,St.freeze,RT,go_sem,↓reduceIte,seval]
end Go.Bw
