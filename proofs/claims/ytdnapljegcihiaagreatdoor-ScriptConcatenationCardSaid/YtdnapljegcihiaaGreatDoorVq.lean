/-
  WHAT IS PROVED HERE, of this translation: mergeTables_satM.
  A theorem that ends in sat says what the function it names returns, whatever the state it is called in; the bounds on its arguments stand ahead of it.
-/
import Derived.Test.YtdnapljegcihiaaGreatDoorVj
import Derived.Test.YtdnapljegcihiaaGreatDoorVn
set_option linter.unusedSimpArgs false
set_option linter.unusedVariables false
namespace Go.Bw
open Go.Proofs
set_option maxHeartbeats 32000000 in
theorem mergeTables_satM (s:Sch) (i:Nat) (st:Stp) (hi:i<s.tables.length) (sm:SmallS s) :
  SatM Tryz.prog 85 [.one (.ptr 1000 0),oI i,.agg (eStp st)] (iB s) (iR s) (.v (oI (rE (mergeT s i st)))) (oBE (mergeT s i st)) (oRE (mergeT s i st)):=by
 have b1:=sm.tables
 have b2:=sm.table s.tables[i] (List.getElem_mem hi)
 have b3:=sm.fks
 have b4:=sm.cons
 have b5:∀f∈s.fks,f.cols.length≤1048576:=fun f hf=>by have:=(sm.fk f hf).1;omega
 obtain ⟨t,ht⟩:∃t,s.tables[i]=t:=⟨_,rfl⟩
 have htA:tAt s i=t:=by unfold tAt;rw [getD_lt _ hi,ht]
 rw [ht] at b2
 obtain ⟨b6,b7,_⟩:=b2
 have e0:s.tables.map eTblO=rowT s.tables i t:=by unfold rowT;rw [←ht,List.set_getElem_self]
 have ef:frzXs (rowT s.tables i t)=s.tables.map eTbl:=by rw [←e0];exact frzTblO _
 have fs:=findTable_sat s st.other (by omega)
 have lm:(s.tables.map eTbl).length=s.tables.length:=List.length_map ..
 have gi:(s.tables.map eTbl).getD i []=eTbl t:=by rw [getD_map_lt _ _ _ hi,ht]
 rcases idx_cases (fun u=>sEq u.name st.other) s.tables 0 with ⟨e1,_⟩|⟨j,hj,e1,_,_⟩
 ·have e1:tblAt s.tables st.other=-1:=e1
  rw [e1,mx0_neg] at fs
  have spec:mergeT s i st=.error 4:=by unfold mergeT;simp only [e1];rfl
  rw [spec]
  unfold iB iR oBE oRE rE
  simp only
  refine ZM [1000] [1,2,3] Tryz.func85 Tryz.ntmps85 fun w0 m0 F0=>?_
  refine AWP.frzR 1000 rfl ?_
  refine ZU (Z3 @frzR_mk @frzTblO @frzFKO) ?_
  refine AWP.frzR 1001 rfl ?_
  refine ZU (Z3 @frzR_mk @frzTblO @frzFKO) ?_
  refine ZV (Z1 @eStp.eq_1) (Z1 (fs)) (Z1 (Zd 1 [(0,5)] [(5,[(6,5)],[])] [5] 8)) Z0 ?_;repeat' (first|apply Zb|apply Zn|(apply Zk;intro K hK))
  exact ZQ (Z1 Tryz.results85)
 have e1:tblAt s.tables st.other=(j:Int):=by unfold tblAt;simpa using e1
 rw [e1,mx0_nat] at fs
 have j0:¬ (j:Int)<0:=by omega
 obtain ⟨o,ho⟩:∃o,s.tables[j]=o:=⟨_,rfl⟩
 have hoA:tAt s j=o:=by unfold tAt;rw [getD_lt _ hj,ho]
 have gj:(s.tables.map eTbl).getD j []=eTbl o:=by rw [getD_map_lt _ _ _ hj,ho]
 have b8:=sm.table s.tables[j] (List.getElem_mem hj)
 rw [ho] at b8
 by_cases hij:i=j
 ·subst hij
  have spec:mergeT s i st=.error 7:=by
   unfold mergeT
   simp only [e1,if_neg j0,Int.toNat_natCast]
   rw [if_pos (.inl trivial)]
  rw [spec]
  unfold iB iR oBE oRE rE
  simp only
  refine ZM [1000] [1,2,3] Tryz.func85 Tryz.ntmps85 fun w0 m0 F0=>?_
  refine AWP.frzR 1000 rfl ?_
  refine ZU (Z3 @frzR_mk @frzTblO @frzFKO) ?_
  refine AWP.frzR 1001 rfl ?_
  refine ZU (Z3 @frzR_mk @frzTblO @frzFKO) ?_
  refine ZV (Z3 @eStp.eq_1 @gi @lm) (Z1 (fs)) (Z2 (Zs 4) (Zd 1 [(0,5)] [(5,[(6,5)],[])] [5] 8)) Z0 ?_;repeat' (first|apply Zb|apply Zn|(apply Zk;intro K hK))
  refine dY tyOk mixed [(0,14)] (.cons 14 [] [(0,14)] (.cons 15 [] [(0,14)] (.cons 16 [] [(7,7)] (.cons 17 [] [] .leaf .none) .none) .none) (.cons 15 [] [(0,14)] (.cons 14 [] [(0,14)] (.cons 16 [] [(7,7)] (.cons 17 [] [] .leaf .none) .none) .none) .none)) [14,15,16,17] 8 fun K hK=>?_
  simp only [segt_leaf,segt_none,segt_cons,segs,List.drop_succ_cons,List.drop_zero,List.take_succ_cons,List.take_zero,List.getElem?_cons_zero,List.getElem?_cons_succ,List.cons_append,List.nil_append,List.append_nil] at hK ⊢
  refine ZU (Z3 @eStp.eq_1 @gi @lm) ?_
  refine ZV (Z3 @eStp.eq_1 @gi @lm) Z0 Z0 Z0 ?_;repeat' (first|apply Zb|apply Zn|(apply Zk;intro K hK))
  all_goals simp -dsimp (disch:=first|exact D|fail) only [retQ,Tryz.results85,resVals,cellRV,resOf,St.rest,St.freeze,RT,go_sem,↓reduceIte,seval]
 have hij':¬ (i:Int)=(j:Int):=by omega
 have ec:=equalCols_sat t.cols o.cols (by omega) (by omega)
 have ep:=equalInts_sat t.pk o.pk (by omega)
 by_cases hd:t.cols=o.cols∧t.pk=o.pk
 case neg =>
  have spec:mergeT s i st=.error 7:=by
   unfold mergeT
   simp only [e1,if_neg j0,Int.toNat_natCast,htA,hoA]
   rw [if_pos]
   by_cases q:t.cols=o.cols
   ·exact .inr (.inr fun q2=>hd ⟨q,q2⟩)
   ·exact .inr (.inl q)
  rw [spec]
  unfold iB iR oBE oRE rE
  simp only
  by_cases q:t.cols=o.cols
  ·have q2:¬ t.pk=o.pk:=fun q2=>hd ⟨q,q2⟩
   rw [decide_eq_true q] at ec
   rw [decide_eq_false q2] at ep
   refine ZM [1000] [1,2,3] Tryz.func85 Tryz.ntmps85 fun w0 m0 F0=>?_
   refine AWP.frzR 1000 rfl ?_
   refine ZU (Z3 @frzR_mk @frzTblO @frzFKO) ?_
   refine AWP.frzR 1001 rfl ?_
   refine ZU (Z3 @frzR_mk @frzTblO @frzFKO) ?_
   refine ZV (Z5 @eStp.eq_1 @gi @gj @lm @hij') (Z1 (fs)) (Z2 (Zs 4) (Zd 1 [(0,5)] [(5,[(6,5)],[])] [5] 8)) Z0 ?_;repeat' (first|apply Zb|apply Zn|(apply Zk;intro K hK))
   refine dY tyOk mixed [(0,14)] (.cons 14 [] [(0,14)] (.cons 15 [] [(0,14)] (.cons 16 [] [(7,7)] (.cons 17 [] [] .leaf .none) .none) .none) (.cons 15 [] [(0,14)] (.cons 14 [] [(0,14)] (.cons 16 [] [(7,7)] (.cons 17 [] [] .leaf .none) .none) .none) .none)) [14,15,16,17] 8 fun K hK=>?_
   simp only [segt_leaf,segt_none,segt_cons,segs,List.drop_succ_cons,List.drop_zero,List.take_succ_cons,List.take_zero,List.getElem?_cons_zero,List.getElem?_cons_succ,List.cons_append,List.nil_append,List.append_nil] at hK ⊢
   refine ZU (Z5 @eStp.eq_1 @gi @gj @lm @hij') ?_
   refine ZV (Z5 @eStp.eq_1 @gi @gj @lm @hij') (Z2 (ec) (ep)) Z0 Z0 ?_;repeat' (first|apply Zb|apply Zn|(apply Zk;intro K hK))
   all_goals simp -dsimp (disch:=first|exact D|fail) only [retQ,Tryz.results85,resVals,cellRV,resOf,St.rest,St.freeze,RT,go_sem,↓reduceIte,seval]
  ·rw [decide_eq_false q] at ec
   refine ZM [1000] [1,2,3] Tryz.func85 Tryz.ntmps85 fun w0 m0 F0=>?_
   refine AWP.frzR 1000 rfl ?_
   refine ZU (Z3 @frzR_mk @frzTblO @frzFKO) ?_
   refine AWP.frzR 1001 rfl ?_
   refine ZU (Z3 @frzR_mk @frzTblO @frzFKO) ?_
   refine ZV (Z5 @eStp.eq_1 @gi @gj @lm @hij') (Z1 (fs)) (Z2 (Zs 4) (Zd 1 [(0,5)] [(5,[(6,5)],[])] [5] 8)) Z0 ?_;repeat' (first|apply Zb|apply Zn|(apply Zk;intro K hK))
   refine dY tyOk mixed [(0,14)] (.cons 14 [] [(0,14)] (.cons 15 [] [(0,14)] (.cons 16 [] [(7,7)] (.cons 17 [] [] .leaf .none) .none) .none) (.cons 15 [] [(0,14)] (.cons 14 [] [(0,14)] (.cons 16 [] [(7,7)] (.cons 17 [] [] .leaf .none) .none) .none) .none)) [14,15,16,17] 8 fun K hK=>?_
   simp only [segt_leaf,segt_none,segt_cons,segs,List.drop_succ_cons,List.drop_zero,List.take_succ_cons,List.take_zero,List.getElem?_cons_zero,List.getElem?_cons_succ,List.cons_append,List.nil_append,List.append_nil] at hK ⊢
   refine ZU (Z5 @eStp.eq_1 @gi @gj @lm @hij') ?_
   refine ZV (Z5 @eStp.eq_1 @gi @gj @lm @hij') (Z1 (ec)) Z0 Z0 ?_;repeat' (first|apply Zb|apply Zn|(apply Zk;intro K hK))
   all_goals simp -dsimp (disch:=first|exact D|fail) only [retQ,Tryz.results85,resVals,cellRV,resOf,St.rest,St.freeze,RT,go_sem,↓reduceIte,seval]
 obtain ⟨hd1,hd2⟩:=hd
 rw [decide_eq_true hd1] at ec
 rw [decide_eq_true hd2] at ep
 obtain ⟨u,hu⟩:∃u,sameE s t.name o.name=u:=⟨_,rfl⟩
 have hnd:¬ ((i:Int)=(j:Int)∨t.cols≠o.cols∨t.pk≠o.pk):=by
  rintro (q|q|q)
  ·exact hij' q
  ·exact q hd1
  ·exact q hd2
 by_cases hu0:u=0
 case neg =>
  have spec:mergeT s i st=.error u:=by
   unfold mergeT
   simp only [e1,if_neg j0,Int.toNat_natCast,htA,hoA]
   rw [if_neg hnd,hu,if_pos hu0]
  rw [spec]
  unfold iB iR oBE oRE rE
  simp only
  refine ZM [1000] [1,2,3] Tryz.func85 Tryz.ntmps85 fun w0 m0 F0=>?_
  refine AWP.frzR 1000 rfl ?_
  refine ZU (Z3 @frzR_mk @frzTblO @frzFKO) ?_
  refine AWP.frzR 1001 rfl ?_
  refine ZU (Z3 @frzR_mk @frzTblO @frzFKO) ?_
  refine ZV (Z6 @eStp.eq_1 @gi @gj @lm @hij' @hu0) (Z1 (fs)) (Z2 (Zs 4) (Zd 1 [(0,5)] [(5,[(6,5)],[])] [5] 8)) Z0 ?_;repeat' (first|apply Zb|apply Zn|(apply Zk;intro K hK))
  refine dY tyOk mixed [(0,14)] (.cons 14 [] [(0,14)] (.cons 15 [] [(0,14)] (.cons 16 [] [(7,7)] (.cons 17 [] [] .leaf .none) .none) .none) (.cons 15 [] [(0,14)] (.cons 14 [] [(0,14)] (.cons 16 [] [(7,7)] (.cons 17 [] [] .leaf .none) .none) .none) .none)) [14,15,16,17] 8 fun K hK=>?_
  simp only [segt_leaf,segt_none,segt_cons,segs,List.drop_succ_cons,List.drop_zero,List.take_succ_cons,List.take_zero,List.getElem?_cons_zero,List.getElem?_cons_succ,List.cons_append,List.nil_append,List.append_nil] at hK ⊢
  refine ZU (Z6 @eStp.eq_1 @gi @gj @lm @hij' @hu0) ?_
  refine ZV (Z6 @eStp.eq_1 @gi @gj @lm @hij' @hu0) (Z2 (ec) (ep)) (Z1 (Zs 7)) Z0 ?_;repeat' (first|apply Zb|apply Zn|(apply Zk;intro K hK))
  ·
   repeat' (first|((first|with_reducible refine qV tyOk fun K hK=>?_|(refine AWP.isRegion 7 ?_;refine dX tyOk mixed [(0,7)] [(7,[(8,1)],[])] [7] 8 fun K hK=>?_;simp only [SG,segs] at hK ⊢)|((with_reducible refine CallJ.is ?_);(((apply CallJ.lentI);(focus (simp -dsimp (disch:=first|exact D|fail) only [go_sem,↓reduceIte,seval,eStp,Option.getD_none,gi,gj,lm,hij',hu0];rfl));(focus (first|exact ((hu▸same_satX _ s t.name o.name (by omega) b5 (by omega))))))))|(with_reducible first|refine VCy.some fun K hK=>?_|refine VCy.step fun K hK=>?_))<;>simp -dsimp (disch:=first|exact D|fail) only [go_sem,↓reduceIte,seval,eStp,Option.getD_none,gi,gj,lm,hij',hu0])|((with_reducible refine hK _ ?_);clear hK K)|(with_reducible refine VCy.intro fun K0 hK0=>?_)|((with_reducible refine VCy.fin ?_);(refine hK0 _ ?_);clear hK0 K0)|(with_reducible refine VCy.quiet ?_)|refine Q1 ?_|((with_reducible refine qW (T:=TT) (b:=?_) ?_ ?_);rotate_left;exact rfl)|fail)
   exact ZQ (Z1 Tryz.results85)
  ·
   repeat' (first|((first|with_reducible refine qV tyOk fun K hK=>?_|(refine AWP.isRegion 7 ?_;refine dX tyOk mixed [(0,7)] [(7,[(8,1)],[])] [7] 8 fun K hK=>?_;simp only [SG,segs] at hK ⊢)|((with_reducible refine CallJ.is ?_);(((apply CallJ.lentI);(focus (simp -dsimp (disch:=first|exact D|fail) only [go_sem,↓reduceIte,seval,eStp,Option.getD_none,gi,gj,lm,hij',hu0];rfl));(focus (first|exact ((hu▸same_satX _ s t.name o.name (by omega) b5 (by omega))))))))|(with_reducible first|refine VCy.some fun K hK=>?_|refine VCy.step fun K hK=>?_))<;>simp -dsimp (disch:=first|exact D|fail) only [go_sem,↓reduceIte,seval,eStp,Option.getD_none,gi,gj,lm,hij',hu0])|((with_reducible refine hK _ ?_);clear hK K)|(with_reducible refine VCy.intro fun K0 hK0=>?_)|((with_reducible refine VCy.fin ?_);(refine hK0 _ ?_);clear hK0 K0)|(with_reducible refine VCy.quiet ?_)|refine Q1 ?_|((with_reducible refine qW (T:=TT) (b:=?_) ?_ ?_);rotate_left;exact rfl)|fail)
   exact ZQ (Z1 Tryz.results85)
 subst hu0
 obtain ⟨t',ht'⟩:∃t':Tbl,(⟨t.name,t.cols++[⟨st.column,2,false⟩],t.pk++[(t.cols.length:Int)]⟩:Tbl)=t':=⟨_,rfl⟩
 have spec:mergeT s i st=.ok (removeT (setT s i t') o.name):=by
  unfold mergeT
  simp only [e1,if_neg j0,Int.toNat_natCast,htA,hoA]
  rw [if_neg hnd,hu,←ht']
  rfl
 rw [spec]
 have rm:=removeTable_satM (setT s i t') o.name (by show (s.tables.set i t').length≤_;rw [List.length_set];omega) (by show s.fks.length≤_;omega) (by show s.cons.length≤_;omega)
 unfold iB fR oB1 oR1 at rm
 have l1:(setT s i t').tables.length=s.tables.length:=by show (s.tables.set i t').length=_;rw [List.length_set]
 have l2:(setT s i t').fks=s.fks:=rfl
 have l3:(setT s i t').cons=s.cons:=rfl
 have l4:(setT s i t').tables=s.tables.set i t':=rfl
 rw [l1,l2,l3,l4] at rm
 unfold iB iR oBE oRE oB1 oR1 rE
 simp only
 have fm:frzXs (s.tables.map eTbl)=s.tables.map eTbl:=frzTbl _
 have e3:(s.tables.map eTbl).set i [.str t.name,.sl 3 (t.cols.map eCol++[[.str st.column,.int .i64 2,.bool false]]),.sl 1 (t.pk.map eInt1++[[.int .i64 (t.cols.length:Int)]])]=(s.tables.set i t').map eTbl:=by
  rw [List.map_set,←ht']
  simp only [eTbl,eCols,eInts,List.map_append,List.map_cons,List.map_nil,eCol,eInt1]
 refine ZM [1000] [1,2,3] Tryz.func85 Tryz.ntmps85 fun w0 m0 F0=>?_
 refine AWP.gq ?_
 rw [decide_eq_true (show (0:Int)≤(j:Int) by omega)] at fs
 refine ZV (Z3 @eStp.eq_1 @frz_eTblO @frz_eFKO) (Z1 (fs)) (Z1 (Zd 1 [(0,5)] [(5,[(6,5)],[])] [5] 8)) Z0 ?_;repeat' (first|apply Zb|apply Zn|(apply Zk;intro K hK))
 rw [e0]
 refine AWP.openC 1000 i 1 2000 rfl (rowT_cell1 _ hi) rfl (by decide) (by decide) ?_
 refine ZU (Z1 @openR_mk) ?_
 refine AWP.openC 1000 i 2 2001 rfl (rowT_cell2 _ hi) (by simp [ovGet]) (by decide) (by decide) ?_
 refine ZU (Z1 @openR_mk) ?_
 refine AWP.frzR 1000 rfl ?_
 refine ZU (Z4 @frzR_mk @frzTblO @frzFKO @ef) ?_
 refine AWP.frzR 1001 rfl ?_
 refine ZU (Z3 @frzR_mk @frzTblO @frzFKO) ?_
 refine dY tyOk mixed [(0,14)] (.cons 14 [] [(0,14)] (.cons 15 [] [(0,14)] (.cons 16 [] [(7,7)] (.cons 17 [] [] .leaf .none) .none) .none) (.cons 15 [] [(0,14)] (.cons 14 [] [(0,14)] (.cons 16 [] [(7,7)] (.cons 17 [] [] .leaf .none) .none) .none) .none)) [14,15,16,17] 8 fun K hK=>?_
 simp only [segt_leaf,segt_none,segt_cons,segs,List.drop_succ_cons,List.drop_zero,List.take_succ_cons,List.take_zero,List.getElem?_cons_zero,List.getElem?_cons_succ,List.cons_append,List.nil_append,List.append_nil] at hK ⊢
 refine ZU (Z6 @eStp.eq_1 @gi @gj @lm @hij' @hij) ?_
 refine ZV (Z6 @eStp.eq_1 @gi @gj @lm @hij' @hij) (Z2 (ec) (ep)) (Z1 (Zs 7)) Z0 ?_;repeat' (first|apply Zb|apply Zn|(apply Zk;intro K hK))
 ·
  repeat' (first|((first|((fail_if_success (refine AWP.isRegion 12 ?_));(with_reducible refine qV tyOk fun K hK=>?_))|(refine AWP.isRegion 7 ?_;refine dX tyOk mixed [(0,7)] [(7,[(8,1)],[])] [7] 8 fun K hK=>?_;simp only [SG,segs] at hK ⊢)|(refine AWP.isRegion 10 ?_;refine dX tyOk mixed [(0,10)] [(10,[],[(0,7)]),(11,[(12,2)],[(0,5)]),(14,[],[])] [10,11,14] 8 fun K hK=>?_;simp only [SG,segs] at hK ⊢)|(refine AWP.isRegion 11 ?_;refine dX tyOk mixed [(0,10)] [(10,[],[(0,7)]),(11,[(12,2)],[(0,5)]),(14,[],[])] [10,11,14] 8 fun K hK=>?_;simp only [SG,segs] at hK ⊢)|((with_reducible refine CallJ.is ?_);(((apply CallJ.lentI);(focus (simp -dsimp (disch:=first|exact D|fail) only [go_sem,↓reduceIte,seval,eStp,Option.getD_none,gi,gj,lm,hij',hij];rfl));(focus (first|exact ((hu▸same_satX _ s t.name o.name (by omega) b5 (by omega))))))))|(with_reducible first|refine VCy.some fun K hK=>?_|refine VCy.step fun K hK=>?_))<;>simp -dsimp (disch:=first|exact D|fail) only [go_sem,↓reduceIte,seval,eStp,Option.getD_none,gi,gj,lm,hij',hij])|((with_reducible refine hK _ ?_);clear hK K)|(with_reducible refine VCy.intro fun K0 hK0=>?_)|((with_reducible refine VCy.fin ?_);(refine hK0 _ ?_);clear hK0 K0)|(with_reducible first|refine VCy.quiet ?_|refine VCy.none ?_)|((with_reducible refine VCy.keep ?_ ?_);focus ((simp -dsimp (disch:=first|exact D|fail) only [go_sem,↓reduceIte,seval,Stable_cons,Stable_nil,sameA_some,sameA_none,eStp,Option.getD_none,gi,gj,lm,hij',hij]);first|done|exact E|fail))|refine Q1 ?_|((with_reducible refine qW (T:=TT) (b:=?_) ?_ ?_);rotate_left;exact rfl)|fail)
  refine AWP.close 1000 i 1 92 rfl rfl (by decide) (by simp [ovGet]) (by simp;exact hi) (by show 1<3;decide) rfl ?_
  refine ZU (Z4 @closeR_mk @ovCut_cons @ovCut_nil (@List.set_set.{0})) ?_
  rw [setCell_set _ _ _ _ _ (by rw [lm];exact hi),getD_set1 _ _ _ (by rw [lm];exact hi)]
  refine ZU (Z3 (@List.set_cons_succ.{0}) (@List.set_cons_zero.{0}) (@List.set_set.{0})) ?_
  refine AWP.close 1000 i 2 78 rfl rfl (by decide) (by simp [ovGet]) (by simp;exact hi) (by show 2<3;decide) rfl ?_
  refine ZU (Z4 @closeR_mk @ovCut_cons @ovCut_nil (@List.set_set.{0})) ?_
  rw [setCell_set _ _ _ _ _ (by rw [lm];exact hi)]
  refine ZU (Z3 (@List.set_cons_succ.{0}) (@List.set_cons_zero.{0}) (@List.set_set.{0})) ?_
  refine AWP.frzR 1000 rfl ?_
  refine ZU (Z8 @frzR_mk @frzTblO @frzFKO @frzXs_set @fm (@List.map_append.{0,0}) @frz3c @frz3i) ?_
  rw [e3]
  refine ZV (Z4 @okIds_ref @dropL_nil @dropL_nil' @dropL_cons) Z0 Z0 (Z1 (Zi [(1000,1000)] [(1000,1000),(1001,1001),(1002,1002)] [(1000,1000)] [(1,1),(2,2),(3,3)] [] [1000,1001,1002,1,2,3] [1000,1000] [1000,1001,1002,1,2,3] (rm))) ?_;repeat' (first|apply Zb|apply Zn|(apply Zk;intro K hK))
  refine Gq.done ?_
  exact ZQ (Z1 Tryz.results85)
 ·
  repeat' (first|((first|((fail_if_success (refine AWP.isRegion 12 ?_));(with_reducible refine qV tyOk fun K hK=>?_))|(refine AWP.isRegion 7 ?_;refine dX tyOk mixed [(0,7)] [(7,[(8,1)],[])] [7] 8 fun K hK=>?_;simp only [SG,segs] at hK ⊢)|(refine AWP.isRegion 10 ?_;refine dX tyOk mixed [(0,10)] [(10,[],[(0,7)]),(11,[(12,2)],[(0,5)]),(14,[],[])] [10,11,14] 8 fun K hK=>?_;simp only [SG,segs] at hK ⊢)|(refine AWP.isRegion 11 ?_;refine dX tyOk mixed [(0,10)] [(10,[],[(0,7)]),(11,[(12,2)],[(0,5)]),(14,[],[])] [10,11,14] 8 fun K hK=>?_;simp only [SG,segs] at hK ⊢)|((with_reducible refine CallJ.is ?_);(((apply CallJ.lentI);(focus (simp -dsimp (disch:=first|exact D|fail) only [go_sem,↓reduceIte,seval,eStp,Option.getD_none,gi,gj,lm,hij',hij];rfl));(focus (first|exact ((hu▸same_satX _ s t.name o.name (by omega) b5 (by omega))))))))|(with_reducible first|refine VCy.some fun K hK=>?_|refine VCy.step fun K hK=>?_))<;>simp -dsimp (disch:=first|exact D|fail) only [go_sem,↓reduceIte,seval,eStp,Option.getD_none,gi,gj,lm,hij',hij])|((with_reducible refine hK _ ?_);clear hK K)|(with_reducible refine VCy.intro fun K0 hK0=>?_)|((with_reducible refine VCy.fin ?_);(refine hK0 _ ?_);clear hK0 K0)|(with_reducible first|refine VCy.quiet ?_|refine VCy.none ?_)|((with_reducible refine VCy.keep ?_ ?_);focus ((simp -dsimp (disch:=first|exact D|fail) only [go_sem,↓reduceIte,seval,Stable_cons,Stable_nil,sameA_some,sameA_none,eStp,Option.getD_none,gi,gj,lm,hij',hij]);first|done|exact E|fail))|refine Q1 ?_|((with_reducible refine qW (T:=TT) (b:=?_) ?_ ?_);rotate_left;exact rfl)|fail)
  refine AWP.close 1000 i 1 92 rfl rfl (by decide) (by simp [ovGet]) (by simp;exact hi) (by show 1<3;decide) rfl ?_
  refine ZU (Z4 @closeR_mk @ovCut_cons @ovCut_nil (@List.set_set.{0})) ?_
  rw [setCell_set _ _ _ _ _ (by rw [lm];exact hi),getD_set1 _ _ _ (by rw [lm];exact hi)]
  refine ZU (Z3 (@List.set_cons_succ.{0}) (@List.set_cons_zero.{0}) (@List.set_set.{0})) ?_
  refine AWP.close 1000 i 2 78 rfl rfl (by decide) (by simp [ovGet]) (by simp;exact hi) (by show 2<3;decide) rfl ?_
  refine ZU (Z4 @closeR_mk @ovCut_cons @ovCut_nil (@List.set_set.{0})) ?_
  rw [setCell_set _ _ _ _ _ (by rw [lm];exact hi)]
  refine ZU (Z3 (@List.set_cons_succ.{0}) (@List.set_cons_zero.{0}) (@List.set_set.{0})) ?_
  refine AWP.frzR 1000 rfl ?_
  refine ZU (Z8 @frzR_mk @frzTblO @frzFKO @frzXs_set @fm (@List.map_append.{0,0}) @frz3c @frz3i) ?_
  rw [e3]
  refine ZV (Z4 @okIds_ref @dropL_nil @dropL_nil' @dropL_cons) Z0 Z0 (Z1 (Zi [(1000,1000)] [(1000,1000),(1001,1001),(1002,1002)] [(1000,1000)] [(1,1),(2,2),(3,3)] [] [1000,1001,1002,1,2,3] [1000,1000] [1000,1001,1002,1,2,3] (rm))) ?_;repeat' (first|apply Zb|apply Zn|(apply Zk;intro K hK))
  refine Gq.done ?_
  exact ZQ (Z1 Tryz.results85)
end Go.Bw
