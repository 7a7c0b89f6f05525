/-
  WHAT IS PROVED HERE, of this translation: alterColumn_satM, concatColumns_satM.
  A theorem that ends in sat says what the function it names returns, whatever the state it is called in; the bounds on its arguments stand ahead of it.
-/
import Derived.Test.YtdnapljegcihiaaGreatDoorVn
import Derived.Test.YtdnapljegcihiaaGreatDoorVo
import Derived.Test.YtdnapljegcihiaaGreatDoorVp
set_option linter.unusedSimpArgs false
set_option linter.unusedVariables false
namespace Go.Bw
open Go.Proofs
set_option maxHeartbeats 32000000 in
theorem alterColumn_satM (s:Sch) (i:Nat) (st:Stp) (hi:i<s.tables.length) (sm:SmallS s) :
  SatM Tryz.prog 89 [.one (.ptr 1000 0),oI i,.agg (eStp st)] (iB s) (iR s) (.v (oI (rE (alterC s i st)))) (oBE (alterC s i st)) (oRE (alterC s i st)):=by
 have b1:=sm.tables
 have b2:=sm.table s.tables[i] (List.getElem_mem hi)
 have b3:=sm.fks
 have b4:=sm.cons
 have b5:∀f∈s.fks,f.cols.length≤140737488355328:=fun f hf=>by have:=(sm.fk f hf).1;omega
 obtain ⟨t,ht⟩:∃t,s.tables[i]=t:=⟨_,rfl⟩
 have htA:tAt s i=t:=by unfold tAt;rw [getD_lt _ hi,ht]
 rw [ht] at b2
 obtain ⟨b6,b7,_⟩:=b2
 have e0:s.tables.map eTblO=rowT s.tables i t:=by unfold rowT;rw [←ht,List.set_getElem_self]
 have rl:=rowT_len s.tables i t
 have rg:=fun t=>rowT_get (l:=s.tables) (k:=i) t hi
 have fc:=findColumn_sat t st.column (by omega)
 rcases idx_cases (fun c=>sEq c.name st.column) t.cols 0 with ⟨e1,_⟩|⟨j,hj,e1,_,_⟩
 ·have e1:colAt t.cols st.column=-1:=e1
  rw [e1,mx0_neg] at fc
  have spec:alterC s i st=.error 4:=by unfold alterC;simp only [htA,e1];rfl
  rw [spec]
  unfold iB iR oBE oRE rE
  simp only
  rw [e0]
  refine ZM [1000] [1,2,3] Tryz.func89 Tryz.ntmps89 fun w0 m0 F0=>?_
  refine AWP.openC 1000 i 1 2000 rfl (rowT_cell1 _ hi) rfl (by decide) (by decide) ?_
  refine ZU (Z1 @openR_mk) ?_
  refine AWP.openC 1000 i 2 2001 rfl (rowT_cell2 _ hi) (by simp [ovGet]) (by decide) (by decide) ?_
  refine ZU (Z1 @openR_mk) ?_
  refine ZV (Z4 @rl @rg @eTblO.eq_1 @eStp.eq_1) (Z1 (fc)) (Z1 (Zd 2 [(0,5)] [(5,[(6,5)],[])] [5] 8)) Z0 ?_
  exact ZQ (Z1 Tryz.results89)
 have e1:colAt t.cols st.column=(j:Int):=by unfold colAt;simpa using e1
 rw [e1,mx0_nat] at fc
 have j0:¬ (j:Int)<0:=by omega
 have gc:t.cols.getD j zCol=t.cols[j]:=getD_lt _ hj
 by_cases k3:st.kind=3
 ·have fn:=findColumn_sat t st.newName (by omega)
  rcases idx_cases (fun c=>sEq c.name st.newName) t.cols 0 with ⟨e2,_⟩|⟨q,hq,e2,_,_⟩
  ·have e2:colAt t.cols st.newName=-1:=e2
   rw [e2,mx0_neg] at fn
   have spec:alterC s i st=.ok (setT s i (setC t j {t.cols[j] with name:=st.newName})):=by
    unfold alterC
    simp only [htA,e1,e2,if_neg j0,if_pos k3,Int.toNat_natCast,gc]
    rfl
   rw [spec]
   unfold iB iR oBE oRE oB1 oR1 rE setT setC
   simp only [List.length_set]
   rw [e0]
   refine ZM [1000] [1,2,3] Tryz.func89 Tryz.ntmps89 fun w0 m0 F0=>?_
   refine AWP.gq ?_
   refine AWP.openC 1000 i 1 2000 rfl (rowT_cell1 _ hi) rfl (by decide) (by decide) ?_
   refine ZU (Z1 @openR_mk) ?_
   refine AWP.openC 1000 i 2 2001 rfl (rowT_cell2 _ hi) (by simp [ovGet]) (by decide) (by decide) ?_
   refine ZU (Z1 @openR_mk) ?_
   refine ZV (Z5 @rl @rg @eTblO.eq_1 @eStp.eq_1 @k3) (Z2 (fc) (fn)) (Z3 (Zd 2 [(0,5)] [(5,[(6,5)],[])] [5] 8) (Zd 6 [(0,5)] [(5,[(6,5)],[])] [5] 8) (Zd 9 [(0,9)] [(9,[],[])] [9] 8)) Z0 ?_
   have ec:(t.cols.map eCol).set j [.str st.newName,.int .i64 t.cols[j].kind,.bool t.cols[j].nullable]=(t.cols.set j {t.cols[j] with name:=st.newName}).map eCol:=by rw [List.map_set];rfl
   rw [ec]
   refine Gq.close 1000 i 1 2000 rfl rfl (by decide) (by simp [ovGet]) (by rw [rl];exact hi) (by show 1<3;decide) rfl ?_
   refine ZU (Z3 @closeR_mk @ovCut_cons @ovCut_nil) ?_
   rw [rowT_cols _ hi]
   refine Gq.close 1000 i 2 2001 rfl rfl (by decide) (by simp [ovGet]) (by rw [rowT_len];exact hi) (by show 2<3;decide) rfl ?_
   refine ZU (Z3 @closeR_mk @ovCut_cons @ovCut_nil) ?_
   rw [rowT_pk _ hi]
   refine Gq.frzR 1000 rfl ?_
   refine ZU (Z4 @frzR_mk @frzTblO @frzFKO @frzXs_rowT) ?_
   refine Gq.frzR 1001 rfl ?_
   refine ZU (Z3 @frzR_mk @frzTblO @frzFKO) ?_
   refine Gq.renR 1000 1 rfl rfl (by decide) (.inl (Nat.le_of_ble_eq_true rfl)) ?_
   refine ZT Z0 ?_
   refine Gq.renR 1001 2 rfl rfl (by decide) (.inl (Nat.le_of_ble_eq_true rfl)) ?_
   refine ZT Z0 ?_
   refine Gq.renR 1002 3 rfl rfl (by decide) (.inl (Nat.le_of_ble_eq_true rfl)) ?_
   refine ZT Z0 ?_
   refine Gq.done ?_
   exact ZQ (Z1 Tryz.results89)
  ·have e2:colAt t.cols st.newName=(q:Int):=by unfold colAt;simpa using e2
   rw [e2,mx0_nat] at fn
   have q0:(0:Int)≤(q:Int):=by omega
   have spec:alterC s i st=.error 5:=by
    unfold alterC
    simp only [htA,e1,e2,if_neg j0,if_pos k3,if_pos q0]
   rw [spec]
   unfold iB iR oBE oRE rE
   simp only
   rw [e0]
   refine ZM [1000] [1,2,3] Tryz.func89 Tryz.ntmps89 fun w0 m0 F0=>?_
   refine AWP.openC 1000 i 1 2000 rfl (rowT_cell1 _ hi) rfl (by decide) (by decide) ?_
   refine ZU (Z1 @openR_mk) ?_
   refine AWP.openC 1000 i 2 2001 rfl (rowT_cell2 _ hi) (by simp [ovGet]) (by decide) (by decide) ?_
   refine ZU (Z1 @openR_mk) ?_
   refine ZV (Z5 @rl @rg @eTblO.eq_1 @eStp.eq_1 @k3) (Z2 (fc) (fn)) (Z2 (Zd 2 [(0,5)] [(5,[(6,5)],[])] [5] 8) (Zd 6 [(0,5)] [(5,[(6,5)],[])] [5] 8)) Z0 ?_
   exact ZQ (Z1 Tryz.results89)
 obtain ⟨u,hu⟩:∃u,unusedE s t (j:Int)=u:=⟨_,rfl⟩
 by_cases hu0:u=0
 case neg =>
  have spec:alterC s i st=.error u:=by
   unfold alterC
   simp only [htA,e1,if_neg j0,if_neg k3,hu,ne_eq,hu0,not_false_eq_true,if_true]
  rw [spec]
  unfold iB iR oBE oRE rE
  simp only
  rw [e0]
  refine ZM [1000] [1,2,3] Tryz.func89 Tryz.ntmps89 fun w0 m0 F0=>?_
  refine AWP.openC 1000 i 1 2000 rfl (rowT_cell1 _ hi) rfl (by decide) (by decide) ?_
  refine ZU (Z1 @openR_mk) ?_
  refine AWP.openC 1000 i 2 2001 rfl (rowT_cell2 _ hi) (by simp [ovGet]) (by decide) (by decide) ?_
  refine ZU (Z1 @openR_mk) ?_
  repeat' (first|((first|with_reducible refine qV tyOk fun K hK=>?_|(refine AWP.isRegion 2 ?_;refine dX tyOk mixed [(0,5)] [(5,[(6,5)],[])] [5] 8 fun K hK=>?_;simp only [SG,segs] at hK ⊢)|(refine AWP.isRegion 11 ?_;refine dX tyOk mixed [(0,7)] [(7,[(8,1)],[])] [7] 8 fun K hK=>?_;simp only [SG,segs] at hK ⊢)|((with_reducible refine CallJ.is ?_);(((apply CallJ.lentI);(focus (simp -dsimp (disch:=first|exact D|fail) only [go_sem,↓reduceIte,seval,rl,rg,eTblO,eStp,Option.getD_none,k3,frz_eFKO,hu0];rfl));(focus (first|exact (fc)|exact ((hu▸unused_satX _ s t (j:Int) (by omega) (by omega) b5 (by omega))))))))|(with_reducible first|refine VCy.some fun K hK=>?_|refine VCy.step fun K hK=>?_))<;>simp -dsimp (disch:=first|exact D|fail) only [go_sem,↓reduceIte,seval,rl,rg,eTblO,eStp,Option.getD_none,k3,frz_eFKO,hu0])|((with_reducible refine hK _ ?_);clear hK K)|(with_reducible refine VCy.intro fun K0 hK0=>?_)|((with_reducible refine VCy.fin ?_);(refine hK0 _ ?_);clear hK0 K0)|(with_reducible refine VCy.quiet ?_)|refine Q1 ?_|((with_reducible refine qW (T:=TT) (b:=?_) ?_ ?_);rotate_left;exact rfl)|fail)
  exact ZQ (Z1 Tryz.results89)
 subst hu0
 by_cases k5:st.kind=5
 ·have spec:alterC s i st=.ok (setT s i (setC t j {t.cols[j] with kind:=st.typ})):=by
   unfold alterC
   simp only [htA,e1,if_neg j0,if_neg k3,hu,ne_eq,not_true_eq_false,if_false,if_pos k5,Int.toNat_natCast,gc]
  rw [spec]
  unfold iB iR oBE oRE oB1 oR1 rE setT setC
  simp only [List.length_set]
  rw [e0]
  refine ZM [1000] [1,2,3] Tryz.func89 Tryz.ntmps89 fun w0 m0 F0=>?_
  refine AWP.gq ?_
  refine AWP.openC 1000 i 1 2000 rfl (rowT_cell1 _ hi) rfl (by decide) (by decide) ?_
  refine ZU (Z1 @openR_mk) ?_
  refine AWP.openC 1000 i 2 2001 rfl (rowT_cell2 _ hi) (by simp [ovGet]) (by decide) (by decide) ?_
  refine ZU (Z1 @openR_mk) ?_
  repeat' (first|((first|with_reducible refine qV tyOk fun K hK=>?_|(refine AWP.isRegion 2 ?_;refine dX tyOk mixed [(0,5)] [(5,[(6,5)],[])] [5] 8 fun K hK=>?_;simp only [SG,segs] at hK ⊢)|(refine AWP.isRegion 11 ?_;refine dX tyOk mixed [(0,7)] [(7,[(8,1)],[])] [7] 8 fun K hK=>?_;simp only [SG,segs] at hK ⊢)|(refine AWP.isRegion 15 ?_;refine dX tyOk mixed [(0,9)] [(9,[],[])] [9] 8 fun K hK=>?_;simp only [SG,segs] at hK ⊢)|((with_reducible refine CallJ.is ?_);(((apply CallJ.lentI);(focus (simp -dsimp (disch:=first|exact D|fail) only [go_sem,↓reduceIte,seval,rl,rg,eTblO,eStp,Option.getD_none,k3,k5,frz_eFKO];rfl));(focus (first|exact (fc)|exact ((hu▸unused_satX _ s t (j:Int) (by omega) (by omega) b5 (by omega))))))))|(with_reducible first|refine VCy.some fun K hK=>?_|refine VCy.step fun K hK=>?_))<;>simp -dsimp (disch:=first|exact D|fail) only [go_sem,↓reduceIte,seval,rl,rg,eTblO,eStp,Option.getD_none,k3,k5,frz_eFKO])|((with_reducible refine hK _ ?_);clear hK K)|(with_reducible refine VCy.intro fun K0 hK0=>?_)|((with_reducible refine VCy.fin ?_);(refine hK0 _ ?_);clear hK0 K0)|(with_reducible first|refine VCy.quiet ?_|refine VCy.none ?_)|refine Q1 ?_|((with_reducible refine qW (T:=TT) (b:=?_) ?_ ?_);rotate_left;exact rfl)|fail)
  have ec:(t.cols.map eCol).set j [.str t.cols[j].name,.int .i64 st.typ,.bool t.cols[j].nullable]=(t.cols.set j {t.cols[j] with kind:=st.typ}).map eCol:=by rw [List.map_set];rfl
  rw [ec]
  refine Gq.close 1000 i 1 2000 rfl rfl (by decide) (by simp [ovGet]) (by rw [rl];exact hi) (by show 1<3;decide) rfl ?_
  refine ZU (Z3 @closeR_mk @ovCut_cons @ovCut_nil) ?_
  rw [rowT_cols _ hi]
  refine Gq.close 1000 i 2 2001 rfl rfl (by decide) (by simp [ovGet]) (by rw [rowT_len];exact hi) (by show 2<3;decide) rfl ?_
  refine ZU (Z3 @closeR_mk @ovCut_cons @ovCut_nil) ?_
  rw [rowT_pk _ hi]
  refine Gq.frzR 1000 rfl ?_
  refine ZU (Z4 @frzR_mk @frzTblO @frzFKO @frzXs_rowT) ?_
  refine Gq.frzR 1001 rfl ?_
  refine ZU (Z3 @frzR_mk @frzTblO @frzFKO) ?_
  refine Gq.renR 1000 1 rfl rfl (by decide) (.inl (Nat.le_of_ble_eq_true rfl)) ?_
  refine ZT Z0 ?_
  refine Gq.renR 1001 2 rfl rfl (by decide) (.inl (Nat.le_of_ble_eq_true rfl)) ?_
  refine ZT Z0 ?_
  refine Gq.renR 1002 3 rfl rfl (by decide) (.inl (Nat.le_of_ble_eq_true rfl)) ?_
  refine ZT Z0 ?_
  refine Gq.done ?_
  exact ZQ (Z1 Tryz.results89)
 have df:=default_sat st.value t.cols[j]
 obtain ⟨d,hd⟩:∃d,defaultE st.value t.cols[j]=d:=⟨_,rfl⟩
 rw [hd] at df
 by_cases hd0:d=0
 case neg =>
  have spec:alterC s i st=.error d:=by
   unfold alterC
   simp only [htA,e1,if_neg j0,if_neg k3,hu,ne_eq,not_true_eq_false,if_false,if_neg k5,Int.toNat_natCast,gc,hd,hd0,not_false_eq_true,if_true]
  rw [spec]
  unfold iB iR oBE oRE rE
  simp only
  rw [e0]
  refine ZM [1000] [1,2,3] Tryz.func89 Tryz.ntmps89 fun w0 m0 F0=>?_
  refine AWP.openC 1000 i 1 2000 rfl (rowT_cell1 _ hi) rfl (by decide) (by decide) ?_
  refine ZU (Z1 @openR_mk) ?_
  refine AWP.openC 1000 i 2 2001 rfl (rowT_cell2 _ hi) (by simp [ovGet]) (by decide) (by decide) ?_
  refine ZU (Z1 @openR_mk) ?_
  repeat' (first|((first|with_reducible refine qV tyOk fun K hK=>?_|(refine AWP.isRegion 2 ?_;refine dX tyOk mixed [(0,5)] [(5,[(6,5)],[])] [5] 8 fun K hK=>?_;simp only [SG,segs] at hK ⊢)|(refine AWP.isRegion 11 ?_;refine dX tyOk mixed [(0,7)] [(7,[(8,1)],[])] [7] 8 fun K hK=>?_;simp only [SG,segs] at hK ⊢)|(refine AWP.isRegion 17 ?_;refine dX tyOk mixed [(0,9)] [(9,[(10,1)],[])] [9] 8 fun K hK=>?_;simp only [SG,segs] at hK ⊢)|((with_reducible refine CallJ.is ?_);(first|refine CallJ.pure (df) ?_|((apply CallJ.lentI);(focus (simp -dsimp (disch:=first|exact D|fail) only [go_sem,↓reduceIte,seval,rl,rg,eTblO,eStp,Option.getD_none,k3,k5,frz_eFKO,hd0];rfl));(focus (first|exact (fc)|exact ((hu▸unused_satX _ s t (j:Int) (by omega) (by omega) b5 (by omega)))|exact (df))))))|(with_reducible first|refine VCy.some fun K hK=>?_|refine VCy.step fun K hK=>?_))<;>simp -dsimp (disch:=first|exact D|fail) only [go_sem,↓reduceIte,seval,rl,rg,eTblO,eStp,Option.getD_none,k3,k5,frz_eFKO,hd0])|((with_reducible refine hK _ ?_);clear hK K)|(with_reducible refine VCy.intro fun K0 hK0=>?_)|((with_reducible refine VCy.fin ?_);(refine hK0 _ ?_);clear hK0 K0)|(with_reducible refine VCy.quiet ?_)|refine Q1 ?_|((with_reducible refine qW (T:=TT) (b:=?_) ?_ ?_);rotate_left;exact rfl)|fail)
  exact ZQ (Z1 Tryz.results89)
 subst hd0
 have spec:alterC s i st=.ok (removeC s i [(j:Int)]):=by
  unfold alterC
  simp only [htA,e1,if_neg j0,if_neg k3,hu,ne_eq,not_true_eq_false,if_false,if_neg k5,Int.toNat_natCast,gc,hd]
 rw [spec]
 have rm:=sm.rm hi [(j:Int)] (by simp)
 unfold iB iR at rm
 unfold iB iR oBE oRE oB1 oR1 rE
 simp only
 rw [e0] at rm ⊢
 refine ZM [1000] [1,2,3] Tryz.func89 Tryz.ntmps89 fun w0 m0 F0=>?_
 refine AWP.gq ?_
 refine AWP.openC 1000 i 1 2000 rfl (rowT_cell1 _ hi) rfl (by decide) (by decide) ?_
 refine ZU (Z1 @openR_mk) ?_
 refine AWP.openC 1000 i 2 2001 rfl (rowT_cell2 _ hi) (by simp [ovGet]) (by decide) (by decide) ?_
 refine ZU (Z1 @openR_mk) ?_
 repeat' (first|((first|((fail_if_success (refine AWP.isRegion 20 ?_));(with_reducible refine qV tyOk fun K hK=>?_))|(refine AWP.isRegion 2 ?_;refine dX tyOk mixed [(0,5)] [(5,[(6,5)],[])] [5] 8 fun K hK=>?_;simp only [SG,segs] at hK ⊢)|(refine AWP.isRegion 11 ?_;refine dX tyOk mixed [(0,7)] [(7,[(8,1)],[])] [7] 8 fun K hK=>?_;simp only [SG,segs] at hK ⊢)|(refine AWP.isRegion 17 ?_;refine dX tyOk mixed [(0,9)] [(9,[(10,1)],[])] [9] 8 fun K hK=>?_;simp only [SG,segs] at hK ⊢)|((with_reducible refine CallJ.is ?_);(first|refine CallJ.pure (df) ?_|((apply CallJ.lentI);(focus (simp -dsimp (disch:=first|exact D|fail) only [go_sem,↓reduceIte,seval,rl,rg,eTblO,eStp,Option.getD_none,k3,k5,frz_eFKO];rfl));(focus (first|exact (fc)|exact ((hu▸unused_satX _ s t (j:Int) (by omega) (by omega) b5 (by omega)))|exact (df))))))|(with_reducible first|refine VCy.some fun K hK=>?_|refine VCy.step fun K hK=>?_))<;>simp -dsimp (disch:=first|exact D|fail) only [go_sem,↓reduceIte,seval,rl,rg,eTblO,eStp,Option.getD_none,k3,k5,frz_eFKO])|((with_reducible refine hK _ ?_);clear hK K)|(with_reducible refine VCy.intro fun K0 hK0=>?_)|((with_reducible refine VCy.fin ?_);(refine hK0 _ ?_);clear hK0 K0)|(with_reducible refine VCy.quiet ?_)|refine Q1 ?_|((with_reducible refine qW (T:=TT) (b:=?_) ?_ ?_);rotate_left;exact rfl)|fail)
 refine AWP.close 1000 i 1 2000 rfl rfl (by decide) (by simp [ovGet]) (by rw [rl];exact hi) (by show 1<3;decide) rfl ?_
 refine ZU (Z3 @closeR_mk @ovCut_cons @ovCut_nil) ?_
 rw [rowT_cols _ hi]
 refine AWP.close 1000 i 2 2001 rfl rfl (by decide) (by simp [ovGet]) (by rw [rowT_len];exact hi) (by show 2<3;decide) rfl ?_
 refine ZU (Z3 @closeR_mk @ovCut_cons @ovCut_nil) ?_
 rw [rowT_pk _ hi]
 repeat' (first|((first|with_reducible refine qV tyOk fun K hK=>?_|((with_reducible refine CallJ.is ?_);(refine CallJ.frzThen [1000] [1000,1001,1002] ?_);(simp -dsimp (disch:=first|exact D|fail) only [go_sem,↓reduceIte,seval,okIds_ref,Option.getD_none,dropL_nil,dropL_nil',dropL_cons,RT,St.rest,St.freeze]);refine CallJ.io [(1000,1000)] [(1000,1000),(1001,1001),(1002,1002)] [(1000,1000)] [(1000,1000),(1001,1001),(1002,1002)] [] [] [1000,1000] [1000,1001,1002,1000,1001,1002] (rm) rfl ⟨rfl,rfl,rfl,rfl⟩ ?_ ?_ ?_))<;>simp -dsimp (disch:=first|exact D|fail) only [go_sem,↓reduceIte,seval,okIds_ref,Option.getD_none,dropL_nil,dropL_nil',dropL_cons])|((with_reducible refine hK _ ?_);clear hK K)|refine Q1 ?_|fail)
 refine Gq.frzR 1000 rfl ?_
 refine ZU (Z3 @frzR_mk @frzTblO @frzFKO) ?_
 refine Gq.frzR 1001 rfl ?_
 refine ZU (Z3 @frzR_mk @frzTblO @frzFKO) ?_
 refine Gq.renR 1000 1 rfl rfl (by decide) (.inl (Nat.le_of_ble_eq_true rfl)) ?_
 refine ZT Z0 ?_
 refine Gq.renR 1001 2 rfl rfl (by decide) (.inl (Nat.le_of_ble_eq_true rfl)) ?_
 refine ZT Z0 ?_
 refine Gq.renR 1002 3 rfl rfl (by decide) (.inl (Nat.le_of_ble_eq_true rfl)) ?_
 refine ZT Z0 ?_
 refine Gq.done ?_
 exact ZQ (Z1 Tryz.results89)
set_option maxHeartbeats 32000000 in
theorem concatColumns_satM (s:Sch) (i:Nat) (st:Stp) (hi:i<s.tables.length) (sm:SmallS s) (hst:st.cols.length≤140737488355328) :
  SatM Tryz.prog 87 [.one (.ptr 1000 0),oI i,.agg (eStp st)] (iB s) (iR s) (.v (oI (rE (concatC s i st)))) (oBE (concatC s i st)) (oRE (concatC s i st)):=by
 rw [concatL_eq]
 have b1:=sm.tables
 have b2:=sm.table s.tables[i] (List.getElem_mem hi)
 have b3:=sm.fks
 have b4:=sm.cons
 have b5:∀f∈s.fks,f.cols.length≤140737488355328:=fun f hf=>by have:=(sm.fk f hf).1;omega
 obtain ⟨t,ht⟩:∃t,s.tables[i]=t:=⟨_,rfl⟩
 have htA:tAt s i=t:=by unfold tAt;rw [getD_lt _ hi,ht]
 rw [ht] at b2
 obtain ⟨b6,b7,_⟩:=b2
 have e0:s.tables.map eTblO=rowT s.tables i t:=by unfold rowT;rw [←ht,List.set_getElem_self]
 have rl:=rowT_len s.tables i t
 have rg:=fun t=>rowT_get (l:=s.tables) (k:=i) t hi
 by_cases hl:st.cols.length=2
 case neg =>
  have spec:concatL s i st=.error 3:=by unfold concatL;simp only [ne_eq,hl,not_false_eq_true,if_true]
  have hl':¬ (st.cols.length:Int)=2:=by omega
  rw [spec]
  unfold iB iR oBE oRE rE
  simp only
  rw [e0]
  refine ZM [1000] [1,2,3] Tryz.func87 Tryz.ntmps87 fun w0 m0 F0=>?_
  refine ZWy (Z5 @rl @rg @eTblO.eq_1 @eStp.eq_1 @hl') Z0 ?_
  exact ZQ (Z1 Tryz.results87)
 have hl':(st.cols.length:Int)=2:=by omega
 have q0:st.cols[0]'(by omega)=st.cols.getD 0 0:=(getD_lt _ (by omega)).symm
 have q1:st.cols[1]'(by omega)=st.cols.getD 1 0:=(getD_lt _ (by omega)).symm
 obtain ⟨a,ha⟩:∃a,st.cols.getD 0 0=a:=⟨_,rfl⟩
 obtain ⟨b,hb⟩:∃b,st.cols.getD 1 0=b:=⟨_,rfl⟩
 rw [ha] at q0
 rw [hb] at q1
 have ga:(st.cols.map eInt1).getD 0 []=[.int .i64 a]:=by rw [getD_map_lt _ _ _ (by omega),q0];rfl
 have gb:(st.cols.map eInt1).getD 1 []=[.int .i64 b]:=by rw [getD_map_lt _ _ _ (by omega),q1];rfl
 by_cases hab:a<0∨b≤a∨(t.cols.length:Int)≤b
 ·have spec:concatL s i st=.error 3:=by unfold concatL;simp only [ne_eq,hl,not_true_eq_false,if_false,ha,hb,htA,if_pos hab]
  rw [spec]
  unfold iB iR oBE oRE rE
  simp only
  rw [e0]
  refine ZM [1000] [1,2,3] Tryz.func87 Tryz.ntmps87 fun w0 m0 F0=>?_
  refine AWP.openC 1000 i 1 2000 rfl (rowT_cell1 _ hi) rfl (by decide) (by decide) ?_
  refine ZU (Z1 @openR_mk) ?_
  refine AWP.openC 1000 i 2 2001 rfl (rowT_cell2 _ hi) (by simp [ovGet]) (by decide) (by decide) ?_
  refine ZU (Z1 @openR_mk) ?_
  refine ZWpy (Z7 @rl @rg @eTblO.eq_1 @eStp.eq_1 @hl' @ga @gb) Z0 ?_;repeat' (first|apply Zb|apply Zn|(apply Zm;intro h))
  all_goals first|(exfalso;omega)|skip
  all_goals simp -dsimp (disch:=first|exact D|fail) only [retQ,Tryz.results87,resVals,cellRV,resOf,St.rest,St.freeze,RT,go_sem,↓reduceIte,seval]
 have hcr:∀c∈st.cols,0≤c∧c<t.cols.length:=by
  intro c hc
  obtain ⟨j,hj,rfl⟩:=List.mem_iff_getElem.1 hc
  rcases (show j=0∨j=1 by omega) with rfl|rfl
  ·rw [q0];omega
  ·rw [q1];omega
 unfold iB iR
 rw [e0]
 refine ZM [1000] [1,2,3] Tryz.func87 Tryz.ntmps87 fun w0 m0 F0=>?_
 refine AWP.gq ?_
 refine AWP.openC 1000 i 1 2000 rfl (rowT_cell1 _ hi) rfl (by decide) (by decide) ?_
 refine ZU (Z1 @openR_mk) ?_
 refine AWP.openC 1000 i 2 2001 rfl (rowT_cell2 _ hi) (by simp [ovGet]) (by decide) (by decide) ?_
 refine ZU (Z1 @openR_mk) ?_
 refine ZWy (Z7 @rl @rg @eTblO.eq_1 @eStp.eq_1 @hl' @ga @gb) Z0 ?_
 all_goals first|(exfalso;omega)|skip
 refine AWP.loop (ι:={k:Nat // k≤st.cols.length∧∀c∈st.cols.take k,(colOf t c).kind=3}) (fun k=>⟨114,[(0,.v (.one (.ptr 1000 0))),(1,.v (oI i)),(5,.v (.one (.ptr 5 0))),(7,.v (.one (.eptr 1000 i 0))),(8,.v (.one (eInts st.cols))),(9,.v (oB ((st.cols.take k.1).all fun c=>(colOf t c).nullable))),(52,.v (.one (eInts st.cols))),(53,.v (oI st.cols.length)),(54,.v (oI k.1))],[(5,eStp st),(1000,[.ref 1000 0 s.tables.length,.ref 1001 0 s.fks.length,.ref 1002 0 s.cons.length])],[(2000,⟨3,t.cols.map eCol,[]⟩),(2001,⟨1,t.pk.map eInt1,[]⟩),(1000,⟨3,rowT s.tables i t,[(i,2,.ref 2001 0 t.pk.length),(i,1,.ref 2000 0 t.cols.length)]⟩),(1001,⟨3,s.fks.map eFKO,[]⟩),(1002,⟨7,s.cons.map eCon,[]⟩)]⟩) (fun k=>st.cols.length - k.1) ⟨0,Nat.zero_le _,by simp⟩ ?_ fun ⟨k,hkl,hk3⟩=>?_
 ·refine St.le_mk ?_ ?_ ?_<;>simp only [LE,EN,Nat.reduceEqDiff,reduceIte,Nat.reduceSub,List.take_zero,List.all_nil,eStp,hl']
 simp only at hkl hk3 ⊢
 rcases Nat.lt_or_ge k st.cols.length with hk|hk
 ·obtain ⟨c0,c1⟩:=hcr st.cols[k] (List.getElem_mem hk)
  have c2:st.cols[k].toNat<t.cols.length:=by omega
  have gcol:colOf t st.cols[k]=t.cols[st.cols[k].toNat]:=getD_lt _ c2
  have al:=all_snoc (fun c=>(colOf t c).nullable) st.cols k hk
  simp only [gcol] at al
  by_cases hK3:t.cols[st.cols[k].toNat].kind=3
  ·have k3':=take_ext hk hk3 (by rw [gcol];exact hK3)
   cases hA:(st.cols.take k).all fun c=>(colOf t c).nullable with
   | true =>
    rw [hA,Bool.true_and] at al
    refine ZW (Z5 @rl @rg @eTblO.eq_1 @eStp.eq_1 @hK3) Z0 ?_
    refine ⟨⟨k+1,by omega,k3'⟩,by simp only;omega,?_⟩
    exact ZL (Z2 @eStp.eq_1 @al)
   | false =>
    rw [hA,Bool.false_and] at al
    refine ZW (Z5 @rl @rg @eTblO.eq_1 @eStp.eq_1 @hK3) Z0 ?_
    refine ⟨⟨k+1,by omega,k3'⟩,by simp only;omega,?_⟩
    exact ZL (Z2 @eStp.eq_1 @al)
  ·have spec:concatL s i st=.error 7:=by
    have hany:(st.cols.any fun c=>!((colOf t c).kind==3))=true:=List.any_eq_true.2 ⟨_,List.getElem_mem hk,by rw [gcol];simpa using hK3⟩
    unfold concatL
    simp only [ne_eq,hl,not_true_eq_false,if_false,ha,hb,htA,if_neg hab,hany,if_true]
   rw [spec]
   refine ZW (Z5 @rl @rg @eTblO.eq_1 @eStp.eq_1 @hK3) Z0 ?_
   refine Gq.done ?_
   unfold oBE oRE rE
   exact ZQ (Z1 Tryz.results87)
 rw [List.take_of_length_le hk] at hk3 ⊢
 have hany:(st.cols.any fun c=>!((colOf t c).kind==3))=false:=by
  rw [List.any_eq_false]
  intro c hc
  simp [hk3 c hc]
 refine ZW (Z4 @rl @rg @eTblO.eq_1 @eStp.eq_1) Z0 ?_
 refine AWP.loop (ι:={k:Nat // k≤st.cols.length∧∀c∈st.cols.take k,unusedE s t c=0}) (fun k=>⟨114,[(0,.v (.one (.ptr 1000 0))),(1,.v (oI i)),(5,.v (.one (.ptr 5 0))),(7,.v (.one (.eptr 1000 i 0))),(8,.v (.one (eInts st.cols))),(9,.v (oB (st.cols.all fun c=>(colOf t c).nullable))),(79,.v (.one (eInts st.cols))),(80,.v (oI st.cols.length)),(81,.v (oI k.1))],[(5,eStp st),(1000,[.ref 1000 0 s.tables.length,.ref 1001 0 s.fks.length,.ref 1002 0 s.cons.length])],[(2000,⟨3,t.cols.map eCol,[]⟩),(2001,⟨1,t.pk.map eInt1,[]⟩),(1000,⟨3,rowT s.tables i t,[(i,2,.ref 2001 0 t.pk.length),(i,1,.ref 2000 0 t.cols.length)]⟩),(1001,⟨3,s.fks.map eFKO,[]⟩),(1002,⟨7,s.cons.map eCon,[]⟩)]⟩) (fun k=>st.cols.length - k.1) ⟨0,Nat.zero_le _,by simp⟩ ?_ fun ⟨k2,hkl2,hu2⟩=>?_
 ·exact ZL (Z1 @eStp.eq_1)
 simp only at hkl2 hu2 ⊢
 rcases Nat.lt_or_ge k2 st.cols.length with hk2|hk2
 ·obtain ⟨u,hu⟩:∃u,unusedE s t st.cols[k2]=u:=⟨_,rfl⟩
  by_cases hu0:u=0
  ·subst hu0
   repeat' (first|((first|with_reducible refine qV tyOk fun K hK=>?_|(refine AWP.isRegion 16 ?_;refine dX tyOk mixed [(0,7)] [(7,[(8,1)],[])] [7] 8 fun K hK=>?_;simp only [SG,segs] at hK ⊢)|((with_reducible refine CallJ.is ?_);(((apply CallJ.lentI);(focus (simp -dsimp (disch:=first|exact D|fail) only [go_sem,↓reduceIte,seval,rl,rg,eTblO,eStp,Option.getD_none,frz_eFKO];rfl));(focus (first|exact ((hu▸unused_satX _ s t st.cols[k2] (by omega) (by omega) b5 (by omega))))))))|(with_reducible first|refine VCy.some fun K hK=>?_|refine VCy.step fun K hK=>?_))<;>simp -dsimp (disch:=first|exact D|fail) only [go_sem,↓reduceIte,seval,rl,rg,eTblO,eStp,Option.getD_none,frz_eFKO])|((with_reducible refine hK _ ?_);clear hK K)|(with_reducible refine VCy.intro fun K0 hK0=>?_)|((with_reducible refine VCy.fin ?_);(refine hK0 _ ?_);clear hK0 K0)|(with_reducible refine VCy.quiet ?_)|refine Q1 ?_|((with_reducible refine qW (T:=TT) (b:=?_) ?_ ?_);rotate_left;exact rfl)|fail)
   refine ⟨⟨k2+1,by omega,take_ext hk2 hu2 hu⟩,by simp only;omega,?_⟩
   exact ZL (Z1 @eStp.eq_1)
  ·have spec:concatL s i st=.error u:=by
    have hf:=find_take (p:=fun c=>!(unusedE s t c==0)) hk2 (fun x hx=>by simp [hu2 x hx]) (by simp [hu,hu0])
    unfold concatL
    simp only [ne_eq,hl,not_true_eq_false,if_false,ha,hb,htA,if_neg hab,hany,Bool.false_eq_true,hf,hu]
   rw [spec]
   repeat' (first|((first|with_reducible refine qV tyOk fun K hK=>?_|(refine AWP.isRegion 16 ?_;refine dX tyOk mixed [(0,7)] [(7,[(8,1)],[])] [7] 8 fun K hK=>?_;simp only [SG,segs] at hK ⊢)|((with_reducible refine CallJ.is ?_);(((apply CallJ.lentI);(focus (simp -dsimp (disch:=first|exact D|fail) only [go_sem,↓reduceIte,seval,rl,rg,eTblO,eStp,Option.getD_none,frz_eFKO,hu0];rfl));(focus (first|exact ((hu▸unused_satX _ s t st.cols[k2] (by omega) (by omega) b5 (by omega))))))))|(with_reducible first|refine VCy.some fun K hK=>?_|refine VCy.step fun K hK=>?_))<;>simp -dsimp (disch:=first|exact D|fail) only [go_sem,↓reduceIte,seval,rl,rg,eTblO,eStp,Option.getD_none,frz_eFKO,hu0])|((with_reducible refine hK _ ?_);clear hK K)|(with_reducible refine VCy.intro fun K0 hK0=>?_)|((with_reducible refine VCy.fin ?_);(refine hK0 _ ?_);clear hK0 K0)|(with_reducible refine VCy.quiet ?_)|refine Q1 ?_|((with_reducible refine qW (T:=TT) (b:=?_) ?_ ?_);rotate_left;exact rfl)|fail)
   refine Gq.done ?_
   unfold oBE oRE rE
   exact ZQ (Z1 Tryz.results87)
 rw [List.take_of_length_le hk2] at hu2
 have hf:st.cols.find? (fun c=>!(unusedE s t c==0))=none:=List.find?_eq_none.2 fun c hc=>by simp [hu2 c hc]
 obtain ⟨U,hU⟩:∃U,removeC s i st.cols=U:=⟨_,rfl⟩
 have uT:U.tables=s.tables.set i ⟨t.name,dropAt st.cols t.cols 0,t.pk.map (shiftI st.cols)⟩:=by
  rw [←hU]
  unfold removeC remapS setT
  rw [htA]
 have hiU:i<U.tables.length:=by rw [uT];simpa using hi
 have tU:tAt U i=⟨t.name,dropAt st.cols t.cols 0,t.pk.map (shiftI st.cols)⟩:=by
  unfold tAt
  rw [getD_lt _ hiU]
  simp only [uT,List.getElem_set_self]
 have spec:concatL s i st=.ok (setT U i {tAt U i with cols:=(tAt U i).cols++[⟨st.column,3,st.cols.all fun c=>(colOf t c).nullable⟩]}):=by
  unfold concatL
  simp only [ne_eq,hl,not_true_eq_false,if_false,ha,hb,htA,if_neg hab,hany,Bool.false_eq_true,hf,hU]
 rw [spec,tU]
 have rm:=sm.rm hi st.cols (by omega)
 rw [hU] at rm
 unfold iB iR at rm
 rw [e0] at rm
 have dl:=dropAt_len st.cols t.cols 0
 obtain ⟨t2,ht2⟩:∃t2:Tbl,(⟨t.name,dropAt st.cols t.cols 0,t.pk.map (shiftI st.cols)⟩:Tbl)=t2:=⟨_,rfl⟩
 have d2:t2.cols.length≤6:=by rw [←ht2];simp only;omega
 rw [ht2] at uT tU ⊢
 have e2:U.tables.map eTblO=rowT U.tables i t2:=by
  have:U.tables.set i t2=U.tables:=by rw [uT,List.set_set]
  unfold rowT
  rw [this]
 have rl2:=rowT_len U.tables i t2
 have rg2:=fun t=>rowT_get (l:=U.tables) (k:=i) t hiU
 have lU:U.tables.length=s.tables.length:=by rw [uT];simp
 rw [e2] at rm
 obtain ⟨N,hN⟩:∃N,(st.cols.all fun c=>(colOf t c).nullable)=N:=⟨_,rfl⟩
 rw [hN]
 unfold oBE oRE oB1 oR1 rE setT
 simp only [List.length_set]
 refine ZV (Z4 @rl @rg @eTblO.eq_1 @eStp.eq_1) Z0 (Z1 (Zs 20)) Z0 ?_
 refine AWP.close 1000 i 1 2000 rfl rfl (by decide) (by simp [ovGet]) (by rw [rl];exact hi) (by show 1<3;decide) rfl ?_
 refine ZU (Z3 @closeR_mk @ovCut_cons @ovCut_nil) ?_
 rw [rowT_cols _ hi]
 refine AWP.close 1000 i 2 2001 rfl rfl (by decide) (by simp [ovGet]) (by rw [rowT_len];exact hi) (by show 2<3;decide) rfl ?_
 refine ZU (Z3 @closeR_mk @ovCut_cons @ovCut_nil) ?_
 rw [rowT_pk _ hi]
 refine ZV (Z5 @okIds_ref @eStp.eq_1 @dropL_nil @dropL_nil' @dropL_cons) Z0 (Z1 (Zs 21)) (Z1 (Zi [(1000,1000)] [(1000,1000),(1001,1001),(1002,1002)] [(1000,1000)] [(1000,1000),(1001,1001),(1002,1002)] [] [] [1000,1000] [1000,1001,1002,1000,1001,1002] (rm))) ?_
 refine AWP.openC 1000 i 1 2002 rfl (rowT_cell1 _ hiU) rfl (by decide) (by decide) ?_
 refine ZU (Z1 @openR_mk) ?_
 refine ZV (Z4 @rl2 @rg2 @eTblO.eq_1 @eStp.eq_1) Z0 (Z1 (Zd 21 [(0,9)] [(9,[],[(0,5)]),(10,[(11,2)],[(0,1)]),(13,[],[])] [9,10,13] 8)) Z0 ?_
 refine Gq.close 1000 i 1 111 rfl rfl (by decide) (by simp [ovGet]) (by simp [rl2];exact hiU) (by show 1<3;decide) rfl ?_
 refine ZU (Z3 @closeR_mk @ovCut_cons @ovCut_nil) ?_
 rw [setCell_set _ _ _ _ _ (by rw [rl2];exact hiU)]
 have e1:=rowT_set U.tables i t2 ⟨t2.name,t2.cols++[⟨st.column,3,N⟩],t2.pk⟩
 simp only [eTblO,List.map_append,List.map_cons,List.map_nil,eCol] at e1
 simp only [List.set_cons_succ,List.set_cons_zero,e1]
 refine Gq.frzR 1000 rfl ?_
 refine ZU (Z4 @frzR_mk @frzTblO @frzFKO @frzXs_rowT) ?_
 refine Gq.frzR 1001 rfl ?_
 refine ZU (Z3 @frzR_mk @frzTblO @frzFKO) ?_
 refine Gq.renR 1000 1 rfl rfl (by decide) (.inl (Nat.le_of_ble_eq_true rfl)) ?_
 refine ZT Z0 ?_
 refine Gq.renR 1001 2 rfl rfl (by decide) (.inl (Nat.le_of_ble_eq_true rfl)) ?_
 refine ZT Z0 ?_
 refine Gq.renR 1002 3 rfl rfl (by decide) (.inl (Nat.le_of_ble_eq_true rfl)) ?_
 refine ZT Z0 ?_
 refine Gq.done ?_
 exact ZQ (Z1 Tryz.results87)
end Go.Bw
