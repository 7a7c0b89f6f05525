/- Proved: contracts of functions of this translation, for every state, and what they rest on; bounds stand ahead. -/
import Derived.Test.YtmnpdfeocknafaaGreatDoorVm
import Derived.Test.YtmnpdfeocknafaaGreatDoorVn
import Derived.Test.YtmnpdfeocknafaaGreatDoorVo
set_option maxHeartbeats 64000000
set_option linter.unusedSimpArgs false
set_option linter.unusedVariables false
namespace Go.Bw
open Go.Proofs
theorem UI (s:aq) (i:Nat) (st:aG) (hi:i<s.tables.length) (sm:sR s) :
  db Tryz.prog 92 [.one (.ptr 1000 0),oI i,.agg (aj st)] (iB s) (iR s) (.v (oI (rE (rF s i st)))) (dh (rF s i st)) (di (rF s i st)):=by
 have b1:=sm.tables
 have b2:=sm.table s.tables[i] (bl hi)
 have b3:=sm.ak
 have b4:=sm.cons
 have b5:∀f∈s.ak,f.ae.length≤140737488355328:=fun f hf=>by have:=(sm.fk f hf).1;omega
 obtain ⟨t,ht⟩:∃t,s.tables[i]=t:=⟨_,rfl⟩
 have htA:bq s i=t:=by unfold bq;rw [bE _ hi,ht]
 rw [ht] at b2
 obtain ⟨b6,b7,_⟩:=b2
 have e0:s.tables.map eh=qk s.tables i t:=by unfold qk;rw [←ht,Bm]
 have rl:=xe s.tables i t
 have rg:=fun t=>BF (l:=s.tables) (k:=i) t hi
 have fc:=zb t st.dm (by omega)
 rcases qn (fun c=>aw c.name st.dm) t.ae 0 with ⟨e1,_⟩|⟨j,hj,e1,_,_⟩
 ·have e1:pP t.ae st.dm=-1:=e1
  rw [e1,ux] at fc
  have spec:rF s i st=.error 4:=by unfold rF;simp only [htA,e1];rfl
  rw [spec]
  unfold iB iR dh di rE
  simp only
  rw [e0]
  refine ZM [1000] [1,2,3] Tryz.func92 Tryz.ntmps92 fun w0 m0 F0=>?_
  refine ab.rD 1000 i 1 2000 rfl (vW _ hi) rfl (by decide) (by decide) ?_
  refine ZU (Z1 @rP) ?_
  refine ab.rD 1000 i 2 2001 rfl (xJ _ hi) (by simp [aP]) (by decide) (by decide) ?_
  refine ZU (Z1 @rP) ?_
  refine ZV (Z4 @rl @rg @eh.eq_1 @aj.eq_1) (Z1 (fc)) (Z1 (Zd 2 [(0,5)] [(5,[(6,5)],[])] [5] 8)) Z0 ?_
  exact ZQ (Z1 Tryz.results92)
 have e1:pP t.ae st.dm=(j:Int):=by unfold pP;simpa using e1
 rw [e1,rZ] at fc
 have j0:¬ (j:Int)<0:=by omega
 have gc:t.ae.getD j dF=t.ae[j]:=bE _ hj
 by_cases k3:st.kind=3
 ·have fn:=zb t st.cW (by omega)
  rcases qn (fun c=>aw c.name st.cW) t.ae 0 with ⟨e2,_⟩|⟨q,hq,e2,_,_⟩
  ·have e2:pP t.ae st.cW=-1:=e2
   rw [e2,ux] at fn
   have spec:rF s i st=.ok (fh s i (qi t j {t.ae[j] with name:=st.cW})):=by
    unfold rF
    simp only [htA,e1,e2,if_neg j0,if_pos k3,bG,gc]
    rfl
   rw [spec]
   unfold iB iR dh di qw qx rE fh qi
   simp only [tw]
   rw [e0]
   refine ZM [1000] [1,2,3] Tryz.func92 Tryz.ntmps92 fun w0 m0 F0=>?_
   refine ab.gq ?_
   refine ab.rD 1000 i 1 2000 rfl (vW _ hi) rfl (by decide) (by decide) ?_
   refine ZU (Z1 @rP) ?_
   refine ab.rD 1000 i 2 2001 rfl (xJ _ hi) (by simp [aP]) (by decide) (by decide) ?_
   refine ZU (Z1 @rP) ?_
   refine ZV (Z5 @rl @rg @eh.eq_1 @aj.eq_1 @k3) (Z2 (fc) (fn)) (Z3 (Zd 2 [(0,5)] [(5,[(6,5)],[])] [5] 8) (Zd 6 [(0,5)] [(5,[(6,5)],[])] [5] 8) (Zd 9 [(0,9)] [(9,[],[])] [9] 8)) Z0 ?_
   have ec:(t.ae.map aT).set j [.str st.cW,.int .i64 t.ae[j].kind,.bool t.ae[j].qt]=(t.ae.set j {t.ae[j] with name:=st.cW}).map aT:=by rw [vJ];rfl
   rw [ec]
   refine Gq.close 1000 i 1 2000 rfl rfl (by decide) (by simp [aP]) (by rw [rl];exact hi) (by show 1<3;decide) rfl ?_
   refine ZU (Z3 @rG @rv @ru) ?_
   rw [DT _ hi]
   refine Gq.close 1000 i 2 2001 rfl rfl (by decide) (by simp [aP]) (by rw [xe];exact hi) (by show 2<3;decide) rfl ?_
   refine ZU (Z3 @rG @rv @ru) ?_
   rw [Cy _ hi]
   refine Gq.eM 1000 rfl ?_
   refine ZU (Z4 @fG @eW @fH @FV) ?_
   refine Gq.eM 1001 rfl ?_
   refine ZU (Z3 @fG @eW @fH) ?_
   refine Gq.iN 1000 1 rfl rfl (by decide) (.inl (gQ rfl)) ?_
   refine ZT Z0 ?_
   refine Gq.iN 1001 2 rfl rfl (by decide) (.inl (gQ rfl)) ?_
   refine ZT Z0 ?_
   refine Gq.iN 1002 3 rfl rfl (by decide) (.inl (gQ rfl)) ?_
   refine ZT Z0 ?_
   refine Gq.done ?_
   exact ZQ (Z1 Tryz.results92)
  ·have e2:pP t.ae st.cW=(q:Int):=by unfold pP;simpa using e2
   rw [e2,rZ] at fn
   have q0:(0:Int)≤(q:Int):=by omega
   have spec:rF s i st=.error 5:=by
    unfold rF
    simp only [htA,e1,e2,if_neg j0,if_pos k3,if_pos q0]
   rw [spec]
   unfold iB iR dh di rE
   simp only
   rw [e0]
   refine ZM [1000] [1,2,3] Tryz.func92 Tryz.ntmps92 fun w0 m0 F0=>?_
   refine ab.rD 1000 i 1 2000 rfl (vW _ hi) rfl (by decide) (by decide) ?_
   refine ZU (Z1 @rP) ?_
   refine ab.rD 1000 i 2 2001 rfl (xJ _ hi) (by simp [aP]) (by decide) (by decide) ?_
   refine ZU (Z1 @rP) ?_
   refine ZV (Z5 @rl @rg @eh.eq_1 @aj.eq_1 @k3) (Z2 (fc) (fn)) (Z2 (Zd 2 [(0,5)] [(5,[(6,5)],[])] [5] 8) (Zd 6 [(0,5)] [(5,[(6,5)],[])] [5] 8)) Z0 ?_
   exact ZQ (Z1 Tryz.results92)
 obtain ⟨u,hu⟩:∃u,s6 s t (j:Int)=u:=⟨_,rfl⟩
 by_cases hu0:u=0
 case neg =>
  have spec:rF s i st=.error u:=by
   unfold rF
   simp only [htA,e1,if_neg j0,if_neg k3,hu,ne_eq,hu0,JQ,if_true]
  rw [spec]
  unfold iB iR dh di rE
  simp only
  rw [e0]
  refine ZM [1000] [1,2,3] Tryz.func92 Tryz.ntmps92 fun w0 m0 F0=>?_
  refine ab.rD 1000 i 1 2000 rfl (vW _ hi) rfl (by decide) (by decide) ?_
  refine ZU (Z1 @rP) ?_
  refine ab.rD 1000 i 2 2001 rfl (xJ _ hi) (by simp [aP]) (by decide) (by decide) ?_
  refine ZU (Z1 @rP) ?_
  repeat' (first|((first|with_reducible refine qV ah fun K hK=>?_|(refine ab.bC 2 ?_;refine dX ah mixed [(0,5)] [(5,[(6,5)],[])] [5] 8 fun K hK=>?_;simp only [SG,bb] at hK ⊢)|(refine ab.bC 11 ?_;refine dX ah mixed [(0,7)] [(7,[(8,1)],[])] [7] 8 fun K hK=>?_;simp only [SG,bb] at hK ⊢)|((with_reducible refine ai.is ?_);(((apply ai.cO);(focus (simp -dsimp (disch:=first|exact D|fail) only [go_sem,↓reduceIte,seval,rl,rg,eh,aj,av,k3,pW,hu0];rfl));(focus (first|exact (fc)|exact ((hu▸Ah _ s t (j:Int) (by omega) (by omega) b5 (by omega))))))))|(with_reducible first|refine an.some fun K hK=>?_|refine an.step fun K hK=>?_))<;>simp -dsimp (disch:=first|exact D|fail) only [go_sem,↓reduceIte,seval,rl,rg,eh,aj,av,k3,pW,hu0])|((with_reducible refine hK _ ?_);clear hK K)|(with_reducible refine an.intro fun K0 hK0=>?_)|((with_reducible refine an.fin ?_);(refine hK0 _ ?_);clear hK0 K0)|(with_reducible refine an.quiet ?_)|refine Q1 ?_|((with_reducible refine qW (T:=TT) (b:=?_) ?_ ?_);rotate_left;exact rfl)|fail)
  exact ZQ (Z1 Tryz.results92)
 subst hu0
 by_cases k5:st.kind=5
 ·have spec:rF s i st=.ok (fh s i (qi t j {t.ae[j] with kind:=st.uy})):=by
   unfold rF
   simp only [htA,e1,if_neg j0,if_neg k3,hu,ne_eq,An,if_false,if_pos k5,bG,gc]
  rw [spec]
  unfold iB iR dh di qw qx rE fh qi
  simp only [tw]
  rw [e0]
  refine ZM [1000] [1,2,3] Tryz.func92 Tryz.ntmps92 fun w0 m0 F0=>?_
  refine ab.gq ?_
  refine ab.rD 1000 i 1 2000 rfl (vW _ hi) rfl (by decide) (by decide) ?_
  refine ZU (Z1 @rP) ?_
  refine ab.rD 1000 i 2 2001 rfl (xJ _ hi) (by simp [aP]) (by decide) (by decide) ?_
  refine ZU (Z1 @rP) ?_
  repeat' (first|((first|with_reducible refine qV ah fun K hK=>?_|(refine ab.bC 2 ?_;refine dX ah mixed [(0,5)] [(5,[(6,5)],[])] [5] 8 fun K hK=>?_;simp only [SG,bb] at hK ⊢)|(refine ab.bC 11 ?_;refine dX ah mixed [(0,7)] [(7,[(8,1)],[])] [7] 8 fun K hK=>?_;simp only [SG,bb] at hK ⊢)|(refine ab.bC 15 ?_;refine dX ah mixed [(0,9)] [(9,[],[])] [9] 8 fun K hK=>?_;simp only [SG,bb] at hK ⊢)|((with_reducible refine ai.is ?_);(((apply ai.cO);(focus (simp -dsimp (disch:=first|exact D|fail) only [go_sem,↓reduceIte,seval,rl,rg,eh,aj,av,k3,k5,pW];rfl));(focus (first|exact (fc)|exact ((hu▸Ah _ s t (j:Int) (by omega) (by omega) b5 (by omega))))))))|(with_reducible first|refine an.some fun K hK=>?_|refine an.step fun K hK=>?_))<;>simp -dsimp (disch:=first|exact D|fail) only [go_sem,↓reduceIte,seval,rl,rg,eh,aj,av,k3,k5,pW])|((with_reducible refine hK _ ?_);clear hK K)|(with_reducible refine an.intro fun K0 hK0=>?_)|((with_reducible refine an.fin ?_);(refine hK0 _ ?_);clear hK0 K0)|(with_reducible first|refine an.quiet ?_|refine an.none ?_)|refine Q1 ?_|((with_reducible refine qW (T:=TT) (b:=?_) ?_ ?_);rotate_left;exact rfl)|fail)
  have ec:(t.ae.map aT).set j [.str t.ae[j].name,.int .i64 st.uy,.bool t.ae[j].qt]=(t.ae.set j {t.ae[j] with kind:=st.uy}).map aT:=by rw [vJ];rfl
  rw [ec]
  refine Gq.close 1000 i 1 2000 rfl rfl (by decide) (by simp [aP]) (by rw [rl];exact hi) (by show 1<3;decide) rfl ?_
  refine ZU (Z3 @rG @rv @ru) ?_
  rw [DT _ hi]
  refine Gq.close 1000 i 2 2001 rfl rfl (by decide) (by simp [aP]) (by rw [xe];exact hi) (by show 2<3;decide) rfl ?_
  refine ZU (Z3 @rG @rv @ru) ?_
  rw [Cy _ hi]
  refine Gq.eM 1000 rfl ?_
  refine ZU (Z4 @fG @eW @fH @FV) ?_
  refine Gq.eM 1001 rfl ?_
  refine ZU (Z3 @fG @eW @fH) ?_
  refine Gq.iN 1000 1 rfl rfl (by decide) (.inl (gQ rfl)) ?_
  refine ZT Z0 ?_
  refine Gq.iN 1001 2 rfl rfl (by decide) (.inl (gQ rfl)) ?_
  refine ZT Z0 ?_
  refine Gq.iN 1002 3 rfl rfl (by decide) (.inl (gQ rfl)) ?_
  refine ZT Z0 ?_
  refine Gq.done ?_
  exact ZQ (Z1 Tryz.results92)
 have df:=M6 st.value t.ae[j]
 obtain ⟨d,hd⟩:∃d,Ac st.value t.ae[j]=d:=⟨_,rfl⟩
 rw [hd] at df
 by_cases hd0:d=0
 case neg =>
  have spec:rF s i st=.error d:=by
   unfold rF
   simp only [htA,e1,if_neg j0,if_neg k3,hu,ne_eq,An,if_false,if_neg k5,bG,gc,hd,hd0,JQ,if_true]
  rw [spec]
  unfold iB iR dh di rE
  simp only
  rw [e0]
  refine ZM [1000] [1,2,3] Tryz.func92 Tryz.ntmps92 fun w0 m0 F0=>?_
  refine ab.rD 1000 i 1 2000 rfl (vW _ hi) rfl (by decide) (by decide) ?_
  refine ZU (Z1 @rP) ?_
  refine ab.rD 1000 i 2 2001 rfl (xJ _ hi) (by simp [aP]) (by decide) (by decide) ?_
  refine ZU (Z1 @rP) ?_
  repeat' (first|((first|with_reducible refine qV ah fun K hK=>?_|(refine ab.bC 2 ?_;refine dX ah mixed [(0,5)] [(5,[(6,5)],[])] [5] 8 fun K hK=>?_;simp only [SG,bb] at hK ⊢)|(refine ab.bC 11 ?_;refine dX ah mixed [(0,7)] [(7,[(8,1)],[])] [7] 8 fun K hK=>?_;simp only [SG,bb] at hK ⊢)|(refine ab.bC 17 ?_;refine dX ah mixed [(0,9)] [(9,[(10,1)],[])] [9] 8 fun K hK=>?_;simp only [SG,bb] at hK ⊢)|((with_reducible refine ai.is ?_);(first|refine ai.pure (df) ?_|((apply ai.cO);(focus (simp -dsimp (disch:=first|exact D|fail) only [go_sem,↓reduceIte,seval,rl,rg,eh,aj,av,k3,k5,pW,hd0];rfl));(focus (first|exact (fc)|exact ((hu▸Ah _ s t (j:Int) (by omega) (by omega) b5 (by omega)))|exact (df))))))|(with_reducible first|refine an.some fun K hK=>?_|refine an.step fun K hK=>?_))<;>simp -dsimp (disch:=first|exact D|fail) only [go_sem,↓reduceIte,seval,rl,rg,eh,aj,av,k3,k5,pW,hd0])|((with_reducible refine hK _ ?_);clear hK K)|(with_reducible refine an.intro fun K0 hK0=>?_)|((with_reducible refine an.fin ?_);(refine hK0 _ ?_);clear hK0 K0)|(with_reducible refine an.quiet ?_)|refine Q1 ?_|((with_reducible refine qW (T:=TT) (b:=?_) ?_ ?_);rotate_left;exact rfl)|fail)
  exact ZQ (Z1 Tryz.results92)
 subst hd0
 have spec:rF s i st=.ok (rL s i [(j:Int)]):=by
  unfold rF
  simp only [htA,e1,if_neg j0,if_neg k3,hu,ne_eq,An,if_false,if_neg k5,bG,gc,hd]
 rw [spec]
 have rm:=sm.rm hi [(j:Int)] (by simp)
 unfold iB iR at rm
 unfold iB iR dh di qw qx rE
 simp only
 rw [e0] at rm ⊢
 refine ZM [1000] [1,2,3] Tryz.func92 Tryz.ntmps92 fun w0 m0 F0=>?_
 refine ab.gq ?_
 refine ab.rD 1000 i 1 2000 rfl (vW _ hi) rfl (by decide) (by decide) ?_
 refine ZU (Z1 @rP) ?_
 refine ab.rD 1000 i 2 2001 rfl (xJ _ hi) (by simp [aP]) (by decide) (by decide) ?_
 refine ZU (Z1 @rP) ?_
 repeat' (first|((first|((fail_if_success (refine ab.bC 20 ?_));(with_reducible refine qV ah fun K hK=>?_))|(refine ab.bC 2 ?_;refine dX ah mixed [(0,5)] [(5,[(6,5)],[])] [5] 8 fun K hK=>?_;simp only [SG,bb] at hK ⊢)|(refine ab.bC 11 ?_;refine dX ah mixed [(0,7)] [(7,[(8,1)],[])] [7] 8 fun K hK=>?_;simp only [SG,bb] at hK ⊢)|(refine ab.bC 17 ?_;refine dX ah mixed [(0,9)] [(9,[(10,1)],[])] [9] 8 fun K hK=>?_;simp only [SG,bb] at hK ⊢)|((with_reducible refine ai.is ?_);(first|refine ai.pure (df) ?_|((apply ai.cO);(focus (simp -dsimp (disch:=first|exact D|fail) only [go_sem,↓reduceIte,seval,rl,rg,eh,aj,av,k3,k5,pW];rfl));(focus (first|exact (fc)|exact ((hu▸Ah _ s t (j:Int) (by omega) (by omega) b5 (by omega)))|exact (df))))))|(with_reducible first|refine an.some fun K hK=>?_|refine an.step fun K hK=>?_))<;>simp -dsimp (disch:=first|exact D|fail) only [go_sem,↓reduceIte,seval,rl,rg,eh,aj,av,k3,k5,pW])|((with_reducible refine hK _ ?_);clear hK K)|(with_reducible refine an.intro fun K0 hK0=>?_)|((with_reducible refine an.fin ?_);(refine hK0 _ ?_);clear hK0 K0)|(with_reducible refine an.quiet ?_)|refine Q1 ?_|((with_reducible refine qW (T:=TT) (b:=?_) ?_ ?_);rotate_left;exact rfl)|fail)
 refine ab.close 1000 i 1 2000 rfl rfl (by decide) (by simp [aP]) (by rw [rl];exact hi) (by show 1<3;decide) rfl ?_
 refine ZU (Z3 @rG @rv @ru) ?_
 rw [DT _ hi]
 refine ab.close 1000 i 2 2001 rfl rfl (by decide) (by simp [aP]) (by rw [xe];exact hi) (by show 2<3;decide) rfl ?_
 refine ZU (Z3 @rG @rv @ru) ?_
 rw [Cy _ hi]
 repeat' (first|((first|with_reducible refine qV ah fun K hK=>?_|((with_reducible refine ai.is ?_);(refine ai.Mv [1000] [1000,1001,1002] ?_);(simp -dsimp (disch:=first|exact D|fail) only [go_sem,↓reduceIte,seval,dz,av,bh,bt,bu,RT,St.rest,St.freeze]);refine ai.io [(1000,1000)] [(1000,1000),(1001,1001),(1002,1002)] [(1000,1000)] [(1000,1000),(1001,1001),(1002,1002)] [] [] [1000,1000] [1000,1001,1002,1000,1001,1002] (rm) rfl ⟨rfl,rfl,rfl,rfl⟩ ?_ ?_ ?_))<;>simp -dsimp (disch:=first|exact D|fail) only [go_sem,↓reduceIte,seval,dz,av,bh,bt,bu])|((with_reducible refine hK _ ?_);clear hK K)|refine Q1 ?_|fail)
 refine Gq.eM 1000 rfl ?_
 refine ZU (Z3 @fG @eW @fH) ?_
 refine Gq.eM 1001 rfl ?_
 refine ZU (Z3 @fG @eW @fH) ?_
 refine Gq.iN 1000 1 rfl rfl (by decide) (.inl (gQ rfl)) ?_
 refine ZT Z0 ?_
 refine Gq.iN 1001 2 rfl rfl (by decide) (.inl (gQ rfl)) ?_
 refine ZT Z0 ?_
 refine Gq.iN 1002 3 rfl rfl (by decide) (.inl (gQ rfl)) ?_
 refine ZT Z0 ?_
 refine Gq.done ?_
 exact ZQ (Z1 Tryz.results92)
theorem UM (s:aq) (i:Nat) (st:aG) (hi:i<s.tables.length) (sm:sR s) (hst:st.ae.length≤140737488355328) :
  db Tryz.prog 90 [.one (.ptr 1000 0),oI i,.agg (aj st)] (iB s) (iR s) (.v (oI (rE (vG s i st)))) (dh (vG s i st)) (di (vG s i st)):=by
 rw [UJ]
 have b1:=sm.tables
 have b2:=sm.table s.tables[i] (bl hi)
 have b3:=sm.ak
 have b4:=sm.cons
 have b5:∀f∈s.ak,f.ae.length≤140737488355328:=fun f hf=>by have:=(sm.fk f hf).1;omega
 obtain ⟨t,ht⟩:∃t,s.tables[i]=t:=⟨_,rfl⟩
 have htA:bq s i=t:=by unfold bq;rw [bE _ hi,ht]
 rw [ht] at b2
 obtain ⟨b6,b7,_⟩:=b2
 have e0:s.tables.map eh=qk s.tables i t:=by unfold qk;rw [←ht,Bm]
 have rl:=xe s.tables i t
 have rg:=fun t=>BF (l:=s.tables) (k:=i) t hi
 by_cases hl:st.ae.length=2
 case neg =>
  have spec:xK s i st=.error 3:=by unfold xK;simp only [ne_eq,hl,JQ,if_true]
  have hl':¬ (st.ae.length:Int)=2:=by omega
  rw [spec]
  unfold iB iR dh di rE
  simp only
  rw [e0]
  refine ZM [1000] [1,2,3] Tryz.func90 Tryz.ntmps90 fun w0 m0 F0=>?_
  refine CK (Z5 @rl @rg @eh.eq_1 @aj.eq_1 @hl') Z0 ?_
  exact ZQ (Z1 Tryz.results90)
 have hl':(st.ae.length:Int)=2:=by omega
 have q0:st.ae[0]'(by omega)=st.ae.getD 0 0:=(bE _ (by omega)).symm
 have q1:st.ae[1]'(by omega)=st.ae.getD 1 0:=(bE _ (by omega)).symm
 obtain ⟨a,ha⟩:∃a,st.ae.getD 0 0=a:=⟨_,rfl⟩
 obtain ⟨b,hb⟩:∃b,st.ae.getD 1 0=b:=⟨_,rfl⟩
 rw [ha] at q0
 rw [hb] at q1
 have ga:(st.ae.map aX).getD 0 []=[.int .i64 a]:=by rw [bJ _ _ _ (by omega),q0];rfl
 have gb:(st.ae.map aX).getD 1 []=[.int .i64 b]:=by rw [bJ _ _ _ (by omega),q1];rfl
 by_cases hab:a<0∨b≤a∨(t.ae.length:Int)≤b
 ·have spec:xK s i st=.error 3:=by unfold xK;simp only [ne_eq,hl,An,if_false,ha,hb,htA,if_pos hab]
  rw [spec]
  unfold iB iR dh di rE
  simp only
  rw [e0]
  refine ZM [1000] [1,2,3] Tryz.func90 Tryz.ntmps90 fun w0 m0 F0=>?_
  refine ab.rD 1000 i 1 2000 rfl (vW _ hi) rfl (by decide) (by decide) ?_
  refine ZU (Z1 @rP) ?_
  refine ab.rD 1000 i 2 2001 rfl (xJ _ hi) (by simp [aP]) (by decide) (by decide) ?_
  refine ZU (Z1 @rP) ?_
  refine rj (Z7 @rl @rg @eh.eq_1 @aj.eq_1 @hl' @ga @gb) Z0 ?_;repeat' (first|apply Zb|apply Zn|(apply Zm;intro h))
  all_goals first|(exfalso;omega)|skip
  all_goals simp -dsimp (disch:=first|exact D|fail) only [aR,Tryz.results90,aQ,aS,aO,St.rest,St.freeze,RT,go_sem,↓reduceIte,seval]
 have hcr:∀c∈st.ae,0≤c∧c<t.ae.length:=by
  intro c hc
  obtain ⟨j,hj,rfl⟩:=List.mem_iff_getElem.1 hc
  rcases (show j=0∨j=1 by omega) with rfl|rfl
  ·rw [q0];omega
  ·rw [q1];omega
 unfold iB iR
 rw [e0]
 refine ZM [1000] [1,2,3] Tryz.func90 Tryz.ntmps90 fun w0 m0 F0=>?_
 refine ab.gq ?_
 refine ab.rD 1000 i 1 2000 rfl (vW _ hi) rfl (by decide) (by decide) ?_
 refine ZU (Z1 @rP) ?_
 refine ab.rD 1000 i 2 2001 rfl (xJ _ hi) (by simp [aP]) (by decide) (by decide) ?_
 refine ZU (Z1 @rP) ?_
 refine CK (Z7 @rl @rg @eh.eq_1 @aj.eq_1 @hl' @ga @gb) Z0 ?_
 all_goals first|(exfalso;omega)|skip
 refine ab.loop (ι:={k:Nat // k≤st.ae.length∧∀c∈st.ae.take k,(xf t c).kind=3}) (fun k=>⟨114,[(0,.v (.one (.ptr 1000 0))),(1,.v (oI i)),(5,.v (.one (.ptr 5 0))),(7,.v (.one (.dj 1000 i 0))),(8,.v (.one (bj st.ae))),(9,.v (oB ((st.ae.take k.1).all fun c=>(xf t c).qt))),(52,.v (.one (bj st.ae))),(53,.v (oI st.ae.length)),(54,.v (oI k.1))],[(5,aj st),(1000,[.ref 1000 0 s.tables.length,.ref 1001 0 s.ak.length,.ref 1002 0 s.cons.length])],[(2000,⟨3,t.ae.map aT,[]⟩),(2001,⟨1,t.pk.map aX,[]⟩),(1000,⟨3,qk s.tables i t,[(i,2,.ref 2001 0 t.pk.length),(i,1,.ref 2000 0 t.ae.length)]⟩),(1001,⟨3,s.ak.map pS,[]⟩),(1002,⟨7,s.cons.map aK,[]⟩)]⟩) (fun k=>st.ae.length - k.1) ⟨0,bg _,by simp⟩ ?_ fun ⟨k,hkl,hk3⟩=>?_
 ·refine St.bN ?_ ?_ ?_<;>simp only [LE,EN,Nat.reduceEqDiff,reduceIte,Nat.reduceSub,c9,iq,aj,hl']
 simp only at hkl hk3 ⊢
 rcases cV k st.ae.length with hk|hk
 ·obtain ⟨c0,c1⟩:=hcr st.ae[k] (bl hk)
  have c2:st.ae[k].toNat<t.ae.length:=by omega
  have gcol:xf t st.ae[k]=t.ae[st.ae[k].toNat]:=bE _ c2
  have al:=UL (fun c=>(xf t c).qt) st.ae k hk
  simp only [gcol] at al
  by_cases hK3:t.ae[st.ae[k].toNat].kind=3
  ·have k3':=Ix hk hk3 (by rw [gcol];exact hK3)
   cases hA:(st.ae.take k).all fun c=>(xf t c).qt with
   | true =>
    rw [hA,il] at al
    refine ZW (Z5 @rl @rg @eh.eq_1 @aj.eq_1 @hK3) Z0 ?_
    refine ⟨⟨k+1,by omega,k3'⟩,by simp only;omega,?_⟩
    exact ZL (Z2 @aj.eq_1 @al)
   | false =>
    rw [hA,fN] at al
    refine ZW (Z5 @rl @rg @eh.eq_1 @aj.eq_1 @hK3) Z0 ?_
    refine ⟨⟨k+1,by omega,k3'⟩,by simp only;omega,?_⟩
    exact ZL (Z2 @aj.eq_1 @al)
  ·have spec:xK s i st=.error 7:=by
    have hany:(st.ae.any fun c=>!((xf t c).kind==3))=true:=List.any_eq_true.2 ⟨_,bl hk,by rw [gcol];simpa using hK3⟩
    unfold xK
    simp only [ne_eq,hl,An,if_false,ha,hb,htA,if_neg hab,hany,if_true]
   rw [spec]
   refine ZW (Z5 @rl @rg @eh.eq_1 @aj.eq_1 @hK3) Z0 ?_
   refine Gq.done ?_
   unfold dh di rE
   exact ZQ (Z1 Tryz.results90)
 rw [du hk] at hk3 ⊢
 have hany:(st.ae.any fun c=>!((xf t c).kind==3))=false:=by
  rw [Cd]
  intro c hc
  simp [hk3 c hc]
 refine ZW (Z4 @rl @rg @eh.eq_1 @aj.eq_1) Z0 ?_
 refine ab.loop (ι:={k:Nat // k≤st.ae.length∧∀c∈st.ae.take k,s6 s t c=0}) (fun k=>⟨114,[(0,.v (.one (.ptr 1000 0))),(1,.v (oI i)),(5,.v (.one (.ptr 5 0))),(7,.v (.one (.dj 1000 i 0))),(8,.v (.one (bj st.ae))),(9,.v (oB (st.ae.all fun c=>(xf t c).qt))),(79,.v (.one (bj st.ae))),(80,.v (oI st.ae.length)),(81,.v (oI k.1))],[(5,aj st),(1000,[.ref 1000 0 s.tables.length,.ref 1001 0 s.ak.length,.ref 1002 0 s.cons.length])],[(2000,⟨3,t.ae.map aT,[]⟩),(2001,⟨1,t.pk.map aX,[]⟩),(1000,⟨3,qk s.tables i t,[(i,2,.ref 2001 0 t.pk.length),(i,1,.ref 2000 0 t.ae.length)]⟩),(1001,⟨3,s.ak.map pS,[]⟩),(1002,⟨7,s.cons.map aK,[]⟩)]⟩) (fun k=>st.ae.length - k.1) ⟨0,bg _,by simp⟩ ?_ fun ⟨k2,hkl2,hu2⟩=>?_
 ·exact ZL (Z1 @aj.eq_1)
 simp only at hkl2 hu2 ⊢
 rcases cV k2 st.ae.length with hk2|hk2
 ·obtain ⟨u,hu⟩:∃u,s6 s t st.ae[k2]=u:=⟨_,rfl⟩
  by_cases hu0:u=0
  ·subst hu0
   repeat' (first|((first|with_reducible refine qV ah fun K hK=>?_|(refine ab.bC 16 ?_;refine dX ah mixed [(0,7)] [(7,[(8,1)],[])] [7] 8 fun K hK=>?_;simp only [SG,bb] at hK ⊢)|((with_reducible refine ai.is ?_);(((apply ai.cO);(focus (simp -dsimp (disch:=first|exact D|fail) only [go_sem,↓reduceIte,seval,rl,rg,eh,aj,av,pW];rfl));(focus (first|exact ((hu▸Ah _ s t st.ae[k2] (by omega) (by omega) b5 (by omega))))))))|(with_reducible first|refine an.some fun K hK=>?_|refine an.step fun K hK=>?_))<;>simp -dsimp (disch:=first|exact D|fail) only [go_sem,↓reduceIte,seval,rl,rg,eh,aj,av,pW])|((with_reducible refine hK _ ?_);clear hK K)|(with_reducible refine an.intro fun K0 hK0=>?_)|((with_reducible refine an.fin ?_);(refine hK0 _ ?_);clear hK0 K0)|(with_reducible refine an.quiet ?_)|refine Q1 ?_|((with_reducible refine qW (T:=TT) (b:=?_) ?_ ?_);rotate_left;exact rfl)|fail)
   refine ⟨⟨k2+1,by omega,Ix hk2 hu2 hu⟩,by simp only;omega,?_⟩
   exact ZL (Z1 @aj.eq_1)
  ·have spec:xK s i st=.error u:=by
    have hf:=UK (p:=fun c=>!(s6 s t c==0)) hk2 (fun x hx=>by simp [hu2 x hx]) (by simp [hu,hu0])
    unfold xK
    simp only [ne_eq,hl,An,if_false,ha,hb,htA,if_neg hab,hany,de,hf,hu]
   rw [spec]
   repeat' (first|((first|with_reducible refine qV ah fun K hK=>?_|(refine ab.bC 16 ?_;refine dX ah mixed [(0,7)] [(7,[(8,1)],[])] [7] 8 fun K hK=>?_;simp only [SG,bb] at hK ⊢)|((with_reducible refine ai.is ?_);(((apply ai.cO);(focus (simp -dsimp (disch:=first|exact D|fail) only [go_sem,↓reduceIte,seval,rl,rg,eh,aj,av,pW,hu0];rfl));(focus (first|exact ((hu▸Ah _ s t st.ae[k2] (by omega) (by omega) b5 (by omega))))))))|(with_reducible first|refine an.some fun K hK=>?_|refine an.step fun K hK=>?_))<;>simp -dsimp (disch:=first|exact D|fail) only [go_sem,↓reduceIte,seval,rl,rg,eh,aj,av,pW,hu0])|((with_reducible refine hK _ ?_);clear hK K)|(with_reducible refine an.intro fun K0 hK0=>?_)|((with_reducible refine an.fin ?_);(refine hK0 _ ?_);clear hK0 K0)|(with_reducible refine an.quiet ?_)|refine Q1 ?_|((with_reducible refine qW (T:=TT) (b:=?_) ?_ ?_);rotate_left;exact rfl)|fail)
   refine Gq.done ?_
   unfold dh di rE
   exact ZQ (Z1 Tryz.results90)
 rw [du hk2] at hu2
 have hf:st.ae.find? (fun c=>!(s6 s t c==0))=none:=List.find?_eq_none.2 fun c hc=>by simp [hu2 c hc]
 obtain ⟨U,hU⟩:∃U,rL s i st.ae=U:=⟨_,rfl⟩
 have uT:U.tables=s.tables.set i ⟨t.name,sh st.ae t.ae 0,t.pk.map (rz st.ae)⟩:=by
  rw [←hU]
  unfold rL vM fh
  rw [htA]
 have hiU:i<U.tables.length:=by rw [uT];simpa using hi
 have tU:bq U i=⟨t.name,sh st.ae t.ae 0,t.pk.map (rz st.ae)⟩:=by
  unfold bq
  rw [bE _ hiU]
  simp only [uT,List.getElem_set_self]
 have spec:xK s i st=.ok (fh U i {bq U i with ae:=(bq U i).ae++[⟨st.dm,3,st.ae.all fun c=>(xf t c).qt⟩]}):=by
  unfold xK
  simp only [ne_eq,hl,An,if_false,ha,hb,htA,if_neg hab,hany,de,hf,hU]
 rw [spec,tU]
 have rm:=sm.rm hi st.ae (by omega)
 rw [hU] at rm
 unfold iB iR at rm
 rw [e0] at rm
 have dl:=DU st.ae t.ae 0
 obtain ⟨t2,ht2⟩:∃t2:au,(⟨t.name,sh st.ae t.ae 0,t.pk.map (rz st.ae)⟩:au)=t2:=⟨_,rfl⟩
 have d2:t2.ae.length≤6:=by rw [←ht2];simp only;omega
 rw [ht2] at uT tU ⊢
 have e2:U.tables.map eh=qk U.tables i t2:=by
  have:U.tables.set i t2=U.tables:=by rw [uT,vP]
  unfold qk
  rw [this]
 have rl2:=xe U.tables i t2
 have rg2:=fun t=>BF (l:=U.tables) (k:=i) t hiU
 have lU:U.tables.length=s.tables.length:=by rw [uT];simp
 rw [e2] at rm
 obtain ⟨N,hN⟩:∃N,(st.ae.all fun c=>(xf t c).qt)=N:=⟨_,rfl⟩
 rw [hN]
 unfold dh di qw qx rE fh
 simp only [tw]
 refine ZV (Z4 @rl @rg @eh.eq_1 @aj.eq_1) Z0 (Z1 (Zs 20)) Z0 ?_
 refine ab.close 1000 i 1 2000 rfl rfl (by decide) (by simp [aP]) (by rw [rl];exact hi) (by show 1<3;decide) rfl ?_
 refine ZU (Z3 @rG @rv @ru) ?_
 rw [DT _ hi]
 refine ab.close 1000 i 2 2001 rfl rfl (by decide) (by simp [aP]) (by rw [xe];exact hi) (by show 2<3;decide) rfl ?_
 refine ZU (Z3 @rG @rv @ru) ?_
 rw [Cy _ hi]
 refine ZV (Z5 @dz @aj.eq_1 @bh @bt @bu) Z0 (Z1 (Zs 21)) (Z1 (Zi [(1000,1000)] [(1000,1000),(1001,1001),(1002,1002)] [(1000,1000)] [(1000,1000),(1001,1001),(1002,1002)] [] [] [1000,1000] [1000,1001,1002,1000,1001,1002] (rm))) ?_
 refine ab.rD 1000 i 1 2002 rfl (vW _ hiU) rfl (by decide) (by decide) ?_
 refine ZU (Z1 @rP) ?_
 refine ZV (Z4 @rl2 @rg2 @eh.eq_1 @aj.eq_1) Z0 (Z1 (Zd 21 [(0,9)] [(9,[],[(0,5)]),(10,[(11,2)],[(0,1)]),(13,[],[])] [9,10,13] 8)) Z0 ?_
 refine Gq.close 1000 i 1 111 rfl rfl (by decide) (by simp [aP]) (by simp [rl2];exact hiU) (by show 1<3;decide) rfl ?_
 refine ZU (Z3 @rG @rv @ru) ?_
 rw [AD _ _ _ _ _ (by rw [rl2];exact hiU)]
 have e1:=DV U.tables i t2 ⟨t2.name,t2.ae++[⟨st.dm,3,N⟩],t2.pk⟩
 simp only [eh,dn,aJ,aI,aT] at e1
 simp only [wZ,tP,e1]
 refine Gq.eM 1000 rfl ?_
 refine ZU (Z4 @fG @eW @fH @FV) ?_
 refine Gq.eM 1001 rfl ?_
 refine ZU (Z3 @fG @eW @fH) ?_
 refine Gq.iN 1000 1 rfl rfl (by decide) (.inl (gQ rfl)) ?_
 refine ZT Z0 ?_
 refine Gq.iN 1001 2 rfl rfl (by decide) (.inl (gQ rfl)) ?_
 refine ZT Z0 ?_
 refine Gq.iN 1002 3 rfl rfl (by decide) (.inl (gQ rfl)) ?_
 refine ZT Z0 ?_
 refine Gq.done ?_
 exact ZQ (Z1 Tryz.results90)
end Go.Bw
