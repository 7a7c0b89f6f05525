/- Proved: contracts of functions of this translation, for every state, and what they rest on; bounds stand ahead. -/
import Derived.Test.YtmnpdfeocknafaaGreatDoorVk
import Derived.Test.YtmnpdfeocknafaaGreatDoorVm
set_option maxHeartbeats 64000000
set_option linter.unusedSimpArgs false
set_option linter.unusedVariables false
namespace Go.Bw
open Go.Proofs
theorem UO (s:aq) (i:Nat) (st:aG) (hi:i<s.tables.length) (sm:sR s) :
  db Tryz.prog 88 [.one (.ptr 1000 0),oI i,.agg (aj st)] (iB s) (iR s) (.v (oI (rE (tg s i st)))) (dh (tg s i st)) (di (tg s i st)):=by
 have b1:=sm.tables
 have b2:=sm.table s.tables[i] (bl hi)
 have b3:=sm.ak
 have b4:=sm.cons
 have b5:∀f∈s.ak,f.ae.length≤1048576:=fun f hf=>by have:=(sm.fk f hf).1;omega
 obtain ⟨t,ht⟩:∃t,s.tables[i]=t:=⟨_,rfl⟩
 have htA:bq s i=t:=by unfold bq;rw [bE _ hi,ht]
 rw [ht] at b2
 obtain ⟨b6,b7,_⟩:=b2
 have e0:s.tables.map eh=qk s.tables i t:=by unfold qk;rw [←ht,Bm]
 have ef:tF (qk s.tables i t)=s.tables.map ap:=by rw [←e0];exact eW _
 have fs:=qP s st.other (by omega)
 have lm:(s.tables.map ap).length=s.tables.length:=bw ..
 have gi:(s.tables.map ap).getD i []=ap t:=by rw [bJ _ _ _ hi,ht]
 rcases qn (fun u=>aw u.name st.other) s.tables 0 with ⟨e1,_⟩|⟨j,hj,e1,_,_⟩
 ·have e1:aY s.tables st.other=-1:=e1
  rw [e1,ux] at fs
  have spec:tg s i st=.error 4:=by unfold tg;simp only [e1];rfl
  rw [spec]
  unfold iB iR dh di rE
  simp only
  refine ZM [1000] [1,2,3] Tryz.func88 Tryz.ntmps88 fun w0 m0 F0=>?_
  refine ab.eM 1000 rfl ?_
  refine ZU (Z3 @fG @eW @fH) ?_
  refine ab.eM 1001 rfl ?_
  refine ZU (Z3 @fG @eW @fH) ?_
  refine ZV (Z1 @aj.eq_1) (Z1 (fs)) (Z1 (Zd 1 [(0,5)] [(5,[(6,5)],[])] [5] 8)) Z0 ?_;repeat' (first|apply Zb|apply Zn|(apply Zk;intro K hK))
  exact ZQ (Z1 Tryz.results88)
 have e1:aY s.tables st.other=(j:Int):=by unfold aY;simpa using e1
 rw [e1,rZ] at fs
 have j0:¬ (j:Int)<0:=by omega
 obtain ⟨o,ho⟩:∃o,s.tables[j]=o:=⟨_,rfl⟩
 have hoA:bq s j=o:=by unfold bq;rw [bE _ hj,ho]
 have gj:(s.tables.map ap).getD j []=ap o:=by rw [bJ _ _ _ hj,ho]
 have b8:=sm.table s.tables[j] (bl hj)
 rw [ho] at b8
 by_cases hij:i=j
 ·subst hij
  have spec:tg s i st=.error 7:=by
   unfold tg
   simp only [e1,if_neg j0,bG]
   rw [if_pos (.inl trivial)]
  rw [spec]
  unfold iB iR dh di rE
  simp only
  refine ZM [1000] [1,2,3] Tryz.func88 Tryz.ntmps88 fun w0 m0 F0=>?_
  refine ab.eM 1000 rfl ?_
  refine ZU (Z3 @fG @eW @fH) ?_
  refine ab.eM 1001 rfl ?_
  refine ZU (Z3 @fG @eW @fH) ?_
  refine ZV (Z3 @aj.eq_1 @gi @lm) (Z1 (fs)) (Z2 (Zs 4) (Zd 1 [(0,5)] [(5,[(6,5)],[])] [5] 8)) Z0 ?_;repeat' (first|apply Zb|apply Zn|(apply Zk;intro K hK))
  refine dY ah mixed [(0,14)] (.cons 14 [] [(0,14)] (.cons 15 [] [(0,14)] (.cons 16 [] [(7,7)] (.cons 17 [] [] .leaf .none) .none) .none) (.cons 15 [] [(0,14)] (.cons 14 [] [(0,14)] (.cons 16 [] [(7,7)] (.cons 17 [] [] .leaf .none) .none) .none) .none)) [14,15,16,17] 8 fun K hK=>?_
  simp only [vT,vU,vV,bb,eo,dA,dV,c9,c8,dr,aW,aZ,bM] at hK ⊢
  refine ZU (Z3 @aj.eq_1 @gi @lm) ?_
  refine ZV (Z3 @aj.eq_1 @gi @lm) Z0 Z0 Z0 ?_;repeat' (first|apply Zb|apply Zn|(apply Zk;intro K hK))
  all_goals simp -dsimp (disch:=first|exact D|fail) only [aR,Tryz.results88,aQ,aS,aO,St.rest,St.freeze,RT,go_sem,↓reduceIte,seval]
 have hij':¬ (i:Int)=(j:Int):=by omega
 have ec:=J0 t.ae o.ae (by omega) (by omega)
 have ep:=Be t.pk o.pk (by omega)
 by_cases hd:t.ae=o.ae∧t.pk=o.pk
 case neg =>
  have spec:tg s i st=.error 7:=by
   unfold tg
   simp only [e1,if_neg j0,bG,htA,hoA]
   rw [if_pos]
   by_cases q:t.ae=o.ae
   ·exact .inr (.inr fun q2=>hd ⟨q,q2⟩)
   ·exact .inr (.inl q)
  rw [spec]
  unfold iB iR dh di rE
  simp only
  by_cases q:t.ae=o.ae
  ·have q2:¬ t.pk=o.pk:=fun q2=>hd ⟨q,q2⟩
   rw [sB q] at ec
   rw [yG q2] at ep
   refine ZM [1000] [1,2,3] Tryz.func88 Tryz.ntmps88 fun w0 m0 F0=>?_
   refine ab.eM 1000 rfl ?_
   refine ZU (Z3 @fG @eW @fH) ?_
   refine ab.eM 1001 rfl ?_
   refine ZU (Z3 @fG @eW @fH) ?_
   refine ZV (Z5 @aj.eq_1 @gi @gj @lm @hij') (Z1 (fs)) (Z2 (Zs 4) (Zd 1 [(0,5)] [(5,[(6,5)],[])] [5] 8)) Z0 ?_;repeat' (first|apply Zb|apply Zn|(apply Zk;intro K hK))
   refine dY ah mixed [(0,14)] (.cons 14 [] [(0,14)] (.cons 15 [] [(0,14)] (.cons 16 [] [(7,7)] (.cons 17 [] [] .leaf .none) .none) .none) (.cons 15 [] [(0,14)] (.cons 14 [] [(0,14)] (.cons 16 [] [(7,7)] (.cons 17 [] [] .leaf .none) .none) .none) .none)) [14,15,16,17] 8 fun K hK=>?_
   simp only [vT,vU,vV,bb,eo,dA,dV,c9,c8,dr,aW,aZ,bM] at hK ⊢
   refine ZU (Z5 @aj.eq_1 @gi @gj @lm @hij') ?_
   refine ZV (Z5 @aj.eq_1 @gi @gj @lm @hij') (Z2 (ec) (ep)) Z0 Z0 ?_;repeat' (first|apply Zb|apply Zn|(apply Zk;intro K hK))
   all_goals simp -dsimp (disch:=first|exact D|fail) only [aR,Tryz.results88,aQ,aS,aO,St.rest,St.freeze,RT,go_sem,↓reduceIte,seval]
  ·rw [yG q] at ec
   refine ZM [1000] [1,2,3] Tryz.func88 Tryz.ntmps88 fun w0 m0 F0=>?_
   refine ab.eM 1000 rfl ?_
   refine ZU (Z3 @fG @eW @fH) ?_
   refine ab.eM 1001 rfl ?_
   refine ZU (Z3 @fG @eW @fH) ?_
   refine ZV (Z5 @aj.eq_1 @gi @gj @lm @hij') (Z1 (fs)) (Z2 (Zs 4) (Zd 1 [(0,5)] [(5,[(6,5)],[])] [5] 8)) Z0 ?_;repeat' (first|apply Zb|apply Zn|(apply Zk;intro K hK))
   refine dY ah mixed [(0,14)] (.cons 14 [] [(0,14)] (.cons 15 [] [(0,14)] (.cons 16 [] [(7,7)] (.cons 17 [] [] .leaf .none) .none) .none) (.cons 15 [] [(0,14)] (.cons 14 [] [(0,14)] (.cons 16 [] [(7,7)] (.cons 17 [] [] .leaf .none) .none) .none) .none)) [14,15,16,17] 8 fun K hK=>?_
   simp only [vT,vU,vV,bb,eo,dA,dV,c9,c8,dr,aW,aZ,bM] at hK ⊢
   refine ZU (Z5 @aj.eq_1 @gi @gj @lm @hij') ?_
   refine ZV (Z5 @aj.eq_1 @gi @gj @lm @hij') (Z1 (ec)) Z0 Z0 ?_;repeat' (first|apply Zb|apply Zn|(apply Zk;intro K hK))
   all_goals simp -dsimp (disch:=first|exact D|fail) only [aR,Tryz.results88,aQ,aS,aO,St.rest,St.freeze,RT,go_sem,↓reduceIte,seval]
 obtain ⟨hd1,hd2⟩:=hd
 rw [sB hd1] at ec
 rw [sB hd2] at ep
 obtain ⟨u,hu⟩:∃u,CU s t.name o.name=u:=⟨_,rfl⟩
 have hnd:¬ ((i:Int)=(j:Int)∨t.ae≠o.ae∨t.pk≠o.pk):=by
  rintro (q|q|q)
  ·exact hij' q
  ·exact q hd1
  ·exact q hd2
 by_cases hu0:u=0
 case neg =>
  have spec:tg s i st=.error u:=by
   unfold tg
   simp only [e1,if_neg j0,bG,htA,hoA]
   rw [if_neg hnd,hu,if_pos hu0]
  rw [spec]
  unfold iB iR dh di rE
  simp only
  refine ZM [1000] [1,2,3] Tryz.func88 Tryz.ntmps88 fun w0 m0 F0=>?_
  refine ab.eM 1000 rfl ?_
  refine ZU (Z3 @fG @eW @fH) ?_
  refine ab.eM 1001 rfl ?_
  refine ZU (Z3 @fG @eW @fH) ?_
  refine ZV (Z6 @aj.eq_1 @gi @gj @lm @hij' @hu0) (Z1 (fs)) (Z2 (Zs 4) (Zd 1 [(0,5)] [(5,[(6,5)],[])] [5] 8)) Z0 ?_;repeat' (first|apply Zb|apply Zn|(apply Zk;intro K hK))
  refine dY ah mixed [(0,14)] (.cons 14 [] [(0,14)] (.cons 15 [] [(0,14)] (.cons 16 [] [(7,7)] (.cons 17 [] [] .leaf .none) .none) .none) (.cons 15 [] [(0,14)] (.cons 14 [] [(0,14)] (.cons 16 [] [(7,7)] (.cons 17 [] [] .leaf .none) .none) .none) .none)) [14,15,16,17] 8 fun K hK=>?_
  simp only [vT,vU,vV,bb,eo,dA,dV,c9,c8,dr,aW,aZ,bM] at hK ⊢
  refine ZU (Z6 @aj.eq_1 @gi @gj @lm @hij' @hu0) ?_
  refine ZV (Z6 @aj.eq_1 @gi @gj @lm @hij' @hu0) (Z2 (ec) (ep)) (Z1 (Zs 7)) Z0 ?_;repeat' (first|apply Zb|apply Zn|(apply Zk;intro K hK))
  ·
   repeat' (first|((first|with_reducible refine qV ah fun K hK=>?_|(refine ab.bC 7 ?_;refine dX ah mixed [(0,7)] [(7,[(8,1)],[])] [7] 8 fun K hK=>?_;simp only [SG,bb] at hK ⊢)|((with_reducible refine ai.is ?_);(((apply ai.cO);(focus (simp -dsimp (disch:=first|exact D|fail) only [go_sem,↓reduceIte,seval,aj,av,gi,gj,lm,hij',hu0];rfl));(focus (first|exact ((hu▸C' _ s t.name o.name (by omega) b5 (by omega))))))))|(with_reducible first|refine an.some fun K hK=>?_|refine an.step fun K hK=>?_))<;>simp -dsimp (disch:=first|exact D|fail) only [go_sem,↓reduceIte,seval,aj,av,gi,gj,lm,hij',hu0])|((with_reducible refine hK _ ?_);clear hK K)|(with_reducible refine an.intro fun K0 hK0=>?_)|((with_reducible refine an.fin ?_);(refine hK0 _ ?_);clear hK0 K0)|(with_reducible refine an.quiet ?_)|refine Q1 ?_|((with_reducible refine qW (T:=TT) (b:=?_) ?_ ?_);rotate_left;exact rfl)|fail)
   exact ZQ (Z1 Tryz.results88)
  ·
   repeat' (first|((first|with_reducible refine qV ah fun K hK=>?_|(refine ab.bC 7 ?_;refine dX ah mixed [(0,7)] [(7,[(8,1)],[])] [7] 8 fun K hK=>?_;simp only [SG,bb] at hK ⊢)|((with_reducible refine ai.is ?_);(((apply ai.cO);(focus (simp -dsimp (disch:=first|exact D|fail) only [go_sem,↓reduceIte,seval,aj,av,gi,gj,lm,hij',hu0];rfl));(focus (first|exact ((hu▸C' _ s t.name o.name (by omega) b5 (by omega))))))))|(with_reducible first|refine an.some fun K hK=>?_|refine an.step fun K hK=>?_))<;>simp -dsimp (disch:=first|exact D|fail) only [go_sem,↓reduceIte,seval,aj,av,gi,gj,lm,hij',hu0])|((with_reducible refine hK _ ?_);clear hK K)|(with_reducible refine an.intro fun K0 hK0=>?_)|((with_reducible refine an.fin ?_);(refine hK0 _ ?_);clear hK0 K0)|(with_reducible refine an.quiet ?_)|refine Q1 ?_|((with_reducible refine qW (T:=TT) (b:=?_) ?_ ?_);rotate_left;exact rfl)|fail)
   exact ZQ (Z1 Tryz.results88)
 subst hu0
 obtain ⟨t',ht'⟩:∃t':au,(⟨t.name,t.ae++[⟨st.dm,2,false⟩],t.pk++[(t.ae.length:Int)]⟩:au)=t':=⟨_,rfl⟩
 have spec:tg s i st=.ok (xV (fh s i t') o.name):=by
  unfold tg
  simp only [e1,if_neg j0,bG,htA,hoA]
  rw [if_neg hnd,hu,←ht']
  rfl
 rw [spec]
 have rm:=M8 (fh s i t') o.name (by show (s.tables.set i t').length≤_;rw [tw];omega) (by show s.ak.length≤_;omega) (by show s.cons.length≤_;omega)
 unfold iB fR qw qx at rm
 have l1:(fh s i t').tables.length=s.tables.length:=by show (s.tables.set i t').length=_;rw [tw]
 have l2:(fh s i t').ak=s.ak:=rfl
 have l3:(fh s i t').cons=s.cons:=rfl
 have l4:(fh s i t').tables=s.tables.set i t':=rfl
 rw [l1,l2,l3,l4] at rm
 unfold iB iR dh di qw qx rE
 simp only
 have fm:tF (s.tables.map ap)=s.tables.map ap:=M9 _
 have e3:(s.tables.map ap).set i [.str t.name,.sl 3 (t.ae.map aT++[[.str st.dm,.int .i64 2,.bool false]]),.sl 1 (t.pk.map aX++[[.int .i64 (t.ae.length:Int)]])]=(s.tables.set i t').map ap:=by
  rw [vJ,←ht']
  simp only [ap,cS,bj,dn,aJ,aI,aT,aX]
 refine ZM [1000] [1,2,3] Tryz.func88 Tryz.ntmps88 fun w0 m0 F0=>?_
 refine ab.gq ?_
 rw [sB (show (0:Int)≤(j:Int) by omega)] at fs
 refine ZV (Z3 @aj.eq_1 @sU @pW) (Z1 (fs)) (Z1 (Zd 1 [(0,5)] [(5,[(6,5)],[])] [5] 8)) Z0 ?_;repeat' (first|apply Zb|apply Zn|(apply Zk;intro K hK))
 rw [e0]
 refine ab.rD 1000 i 1 2000 rfl (vW _ hi) rfl (by decide) (by decide) ?_
 refine ZU (Z1 @rP) ?_
 refine ab.rD 1000 i 2 2001 rfl (xJ _ hi) (by simp [aP]) (by decide) (by decide) ?_
 refine ZU (Z1 @rP) ?_
 refine ab.eM 1000 rfl ?_
 refine ZU (Z4 @fG @eW @fH @ef) ?_
 refine ab.eM 1001 rfl ?_
 refine ZU (Z3 @fG @eW @fH) ?_
 refine dY ah mixed [(0,14)] (.cons 14 [] [(0,14)] (.cons 15 [] [(0,14)] (.cons 16 [] [(7,7)] (.cons 17 [] [] .leaf .none) .none) .none) (.cons 15 [] [(0,14)] (.cons 14 [] [(0,14)] (.cons 16 [] [(7,7)] (.cons 17 [] [] .leaf .none) .none) .none) .none)) [14,15,16,17] 8 fun K hK=>?_
 simp only [vT,vU,vV,bb,eo,dA,dV,c9,c8,dr,aW,aZ,bM] at hK ⊢
 refine ZU (Z6 @aj.eq_1 @gi @gj @lm @hij' @hij) ?_
 refine ZV (Z6 @aj.eq_1 @gi @gj @lm @hij' @hij) (Z2 (ec) (ep)) (Z1 (Zs 7)) Z0 ?_;repeat' (first|apply Zb|apply Zn|(apply Zk;intro K hK))
 ·
  repeat' (first|((first|((fail_if_success (refine ab.bC 12 ?_));(with_reducible refine qV ah fun K hK=>?_))|(refine ab.bC 7 ?_;refine dX ah mixed [(0,7)] [(7,[(8,1)],[])] [7] 8 fun K hK=>?_;simp only [SG,bb] at hK ⊢)|(refine ab.bC 10 ?_;refine dX ah mixed [(0,10)] [(10,[],[(0,7)]),(11,[(12,2)],[(0,5)]),(14,[],[])] [10,11,14] 8 fun K hK=>?_;simp only [SG,bb] at hK ⊢)|(refine ab.bC 11 ?_;refine dX ah mixed [(0,10)] [(10,[],[(0,7)]),(11,[(12,2)],[(0,5)]),(14,[],[])] [10,11,14] 8 fun K hK=>?_;simp only [SG,bb] at hK ⊢)|((with_reducible refine ai.is ?_);(((apply ai.cO);(focus (simp -dsimp (disch:=first|exact D|fail) only [go_sem,↓reduceIte,seval,aj,av,gi,gj,lm,hij',hij];rfl));(focus (first|exact ((hu▸C' _ s t.name o.name (by omega) b5 (by omega))))))))|(with_reducible first|refine an.some fun K hK=>?_|refine an.step fun K hK=>?_))<;>simp -dsimp (disch:=first|exact D|fail) only [go_sem,↓reduceIte,seval,aj,av,gi,gj,lm,hij',hij])|((with_reducible refine hK _ ?_);clear hK K)|(with_reducible refine an.intro fun K0 hK0=>?_)|((with_reducible refine an.fin ?_);(refine hK0 _ ?_);clear hK0 K0)|(with_reducible first|refine an.quiet ?_|refine an.none ?_)|((with_reducible refine an.keep ?_ ?_);focus ((simp -dsimp (disch:=first|exact D|fail) only [go_sem,↓reduceIte,seval,gE,gD,gF,gG,aj,av,gi,gj,lm,hij',hij]);first|done|exact E|fail))|refine Q1 ?_|((with_reducible refine qW (T:=TT) (b:=?_) ?_ ?_);rotate_left;exact rfl)|fail)
  refine ab.close 1000 i 1 92 rfl rfl (by decide) (by simp [aP]) (by simp;exact hi) (by show 1<3;decide) rfl ?_
  refine ZU (Z4 @rG @rv @ru (@List.set_set.{0})) ?_
  rw [AD _ _ _ _ _ (by rw [lm];exact hi),Iz _ _ _ (by rw [lm];exact hi)]
  refine ZU (Z3 (@List.set_cons_succ.{0}) (@List.set_cons_zero.{0}) (@List.set_set.{0})) ?_
  refine ab.close 1000 i 2 78 rfl rfl (by decide) (by simp [aP]) (by simp;exact hi) (by show 2<3;decide) rfl ?_
  refine ZU (Z4 @rG @rv @ru (@List.set_set.{0})) ?_
  rw [AD _ _ _ _ _ (by rw [lm];exact hi)]
  refine ZU (Z3 (@List.set_cons_succ.{0}) (@List.set_cons_zero.{0}) (@List.set_set.{0})) ?_
  refine ab.eM 1000 rfl ?_
  refine ZU (Z8 @fG @eW @fH @Iy @fm (@List.map_append.{0,0}) @IA @IB) ?_
  rw [e3]
  refine ZV (Z4 @dz @bh @bt @bu) Z0 Z0 (Z1 (Zi [(1000,1000)] [(1000,1000),(1001,1001),(1002,1002)] [(1000,1000)] [(1,1),(2,2),(3,3)] [] [1000,1001,1002,1,2,3] [1000,1000] [1000,1001,1002,1,2,3] (rm))) ?_;repeat' (first|apply Zb|apply Zn|(apply Zk;intro K hK))
  refine Gq.done ?_
  exact ZQ (Z1 Tryz.results88)
 ·
  repeat' (first|((first|((fail_if_success (refine ab.bC 12 ?_));(with_reducible refine qV ah fun K hK=>?_))|(refine ab.bC 7 ?_;refine dX ah mixed [(0,7)] [(7,[(8,1)],[])] [7] 8 fun K hK=>?_;simp only [SG,bb] at hK ⊢)|(refine ab.bC 10 ?_;refine dX ah mixed [(0,10)] [(10,[],[(0,7)]),(11,[(12,2)],[(0,5)]),(14,[],[])] [10,11,14] 8 fun K hK=>?_;simp only [SG,bb] at hK ⊢)|(refine ab.bC 11 ?_;refine dX ah mixed [(0,10)] [(10,[],[(0,7)]),(11,[(12,2)],[(0,5)]),(14,[],[])] [10,11,14] 8 fun K hK=>?_;simp only [SG,bb] at hK ⊢)|((with_reducible refine ai.is ?_);(((apply ai.cO);(focus (simp -dsimp (disch:=first|exact D|fail) only [go_sem,↓reduceIte,seval,aj,av,gi,gj,lm,hij',hij];rfl));(focus (first|exact ((hu▸C' _ s t.name o.name (by omega) b5 (by omega))))))))|(with_reducible first|refine an.some fun K hK=>?_|refine an.step fun K hK=>?_))<;>simp -dsimp (disch:=first|exact D|fail) only [go_sem,↓reduceIte,seval,aj,av,gi,gj,lm,hij',hij])|((with_reducible refine hK _ ?_);clear hK K)|(with_reducible refine an.intro fun K0 hK0=>?_)|((with_reducible refine an.fin ?_);(refine hK0 _ ?_);clear hK0 K0)|(with_reducible first|refine an.quiet ?_|refine an.none ?_)|((with_reducible refine an.keep ?_ ?_);focus ((simp -dsimp (disch:=first|exact D|fail) only [go_sem,↓reduceIte,seval,gE,gD,gF,gG,aj,av,gi,gj,lm,hij',hij]);first|done|exact E|fail))|refine Q1 ?_|((with_reducible refine qW (T:=TT) (b:=?_) ?_ ?_);rotate_left;exact rfl)|fail)
  refine ab.close 1000 i 1 92 rfl rfl (by decide) (by simp [aP]) (by simp;exact hi) (by show 1<3;decide) rfl ?_
  refine ZU (Z4 @rG @rv @ru (@List.set_set.{0})) ?_
  rw [AD _ _ _ _ _ (by rw [lm];exact hi),Iz _ _ _ (by rw [lm];exact hi)]
  refine ZU (Z3 (@List.set_cons_succ.{0}) (@List.set_cons_zero.{0}) (@List.set_set.{0})) ?_
  refine ab.close 1000 i 2 78 rfl rfl (by decide) (by simp [aP]) (by simp;exact hi) (by show 2<3;decide) rfl ?_
  refine ZU (Z4 @rG @rv @ru (@List.set_set.{0})) ?_
  rw [AD _ _ _ _ _ (by rw [lm];exact hi)]
  refine ZU (Z3 (@List.set_cons_succ.{0}) (@List.set_cons_zero.{0}) (@List.set_set.{0})) ?_
  refine ab.eM 1000 rfl ?_
  refine ZU (Z8 @fG @eW @fH @Iy @fm (@List.map_append.{0,0}) @IA @IB) ?_
  rw [e3]
  refine ZV (Z4 @dz @bh @bt @bu) Z0 Z0 (Z1 (Zi [(1000,1000)] [(1000,1000),(1001,1001),(1002,1002)] [(1000,1000)] [(1,1),(2,2),(3,3)] [] [1000,1001,1002,1,2,3] [1000,1000] [1000,1001,1002,1,2,3] (rm))) ?_;repeat' (first|apply Zb|apply Zn|(apply Zk;intro K hK))
  refine Gq.done ?_
  exact ZQ (Z1 Tryz.results88)
end Go.Bw
