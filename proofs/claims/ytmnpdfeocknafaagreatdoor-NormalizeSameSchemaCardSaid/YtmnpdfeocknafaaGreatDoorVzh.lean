/- Proved: contracts of functions of this translation, for every state, and what they rest on; bounds stand ahead. -/
import Derived.Test.YtmnpdfeocknafaaGreatDoorVzg
set_option maxHeartbeats 64000000
set_option linter.unusedSimpArgs false
set_option linter.unusedVariables false
namespace Go.Bw
open Go.Proofs
theorem VY:Sat Tryz.prog 14 [.agg (aC s0),.agg (aj uk),.one (bp (pI [v8])),.one (bp (pI []))] (.cR [.one (bp (pI [th])),.one (bp (pI [])),oI 0]):=by
 have D0:=KR uk true s0 uA F9 (pI [v8]) yf [] (zf s0 uA (pI [v8])) (qI wA) 0 0 0 2 (by decide) (by kernel_rfl) (by decide) (by decide) (by decide) (by decide) (by decide) (by decide) (by decide) (by kernel_rfl) (by decide) (by decide) (by kernel_rfl) (by decide) (by decide) (by decide) (by decide) (by decide)
 have e1:qu (zf s0 uA (pI [v8])) uk.table (vN F9 [] s0.tables[0] uk.value (pI [v8])[0].rows)=pI [th]:=by kernel_rfl
 have e2:qu (qI wA) uk.table (tQ F9 [] s0.tables[0] uk.value (pI [v8])[0].rows)=pI []:=by kernel_rfl
 rw [e1,e2] at D0
 exact Ho s0 uk _ _ _ _ D3 I1 (.inl rfl) NU NW (FR uk true s0 uA wA (pI [v8]) (pI []) (pI [th]) (pI []) (by kernel_rfl) (by kernel_rfl) NZ VV (by decide) (by decide) (by decide) (by decide) (by decide) (by decide) (by decide) (by decide) (by decide) (by decide) (by decide) (by decide) (KS uk true s0 uA wA _ _ _ _ _ _ _ _ (.inl ⟨rfl,rfl⟩) D0))
theorem H8:Sat Tryz.prog 14 [.agg (aC uA),.agg (aj vh),.one (bp (pI [th])),.one (bp [])] (.cR [.one (bp (pI [th])),.one (bp []),oI 0]):=by
 have e1:zf uA uB (pI [th])=pI [th]:=by kernel_rfl
 have D0:db Tryz.prog 68 [.one (.ptr 1000 0)] [(1000,mB vh true uA uB wB (pI [th]) [] uB.tables.length wB.tables.length 0)] [(1001,⟨2,(zf uA uB (pI [th])).map aH,[]⟩),(1002,⟨2,(qI wB).map aH,[]⟩)]
   (.cR []) [(1000,mB vh true uA uB wB (pI [th]) [] uB.tables.length wB.tables.length 0)] [(1001,⟨2,(pI [th]).map aH,[]⟩),(1002,⟨2,(qI wB).map aH,[]⟩)]:=by
  rw [e1]
  exact Qn vh true uA uB wB (pI [th]) [] _ _ _ _ rfl
 exact Ho uA vh _ _ _ _ NY I2 (.inr (.inr rfl)) NV NX (FR vh true uA uB wB (pI [th]) [] (pI [th]) (qI wB) (by kernel_rfl) (by kernel_rfl) VW VX (by decide) (by decide) (by decide) (by decide) (by decide) (by decide) (by decide) (by decide) (by decide) (by decide) (by decide) (by decide) D0)
theorem VZ:Sat Tryz.prog 11 [.agg (aC s0),.agg (aj uk)] (.cR [.one (bp (pI [])),oI 0]):=J6 s0 uk D3 I1 (.inl rfl) NU NW (by decide)
theorem V0:Sat Tryz.prog 11 [.agg (aC uA),.agg (aj vh)] (.cR [.one (bp []),oI 0]):=J6 uA vh NY I2 (.inr (.inr rfl)) NV NX (by decide)
theorem Us:Sat Tryz.prog 21 [] (.v (oB true)):=by
 have q:=Nx s0 [uk,vh] D3 (by decide) (fun st h=>by
  rcases List.mem_cons.1 h with rfl|h
  ·exact I1
  ·rw [List.mem_singleton.1 h];exact I2)
 rw [VU] at q
 unfold xN rE at q
 simp only at q
 have c1:=VP s0 [uk,vh] [s0,uA,uB] [pI [],[]] q (by decide) rfl rfl fun k hk=>by
  match k,hk with
  | 0,_=>exact VZ
  | 1,_=>exact V0
  | n+2,hk=>exact absurd hk (by simp)
 have c2:=VT s0 [uk,vh] (pI [v8]) [pI [],[]] [s0,uA,uB] [pI [v8],pI [th],pI [th]] [pI [],[]] q (by decide) rfl rfl rfl rfl rfl (by
   have:=IX s0 (pI [v8]) NZ (by decide)
   rw [show sD s0 (pI [v8])=0 from by kernel_rfl] at this
   exact this) (GL (pI [v8]) (by decide) (fun r hr=>by
   rw [List.mem_singleton.1 hr]
   exact ⟨by decide,by decide⟩)) fun k hk=>by
  match k,hk with
  | 0,_=>exact VY
  | 1,_=>exact H8
  | n+2,hk=>exact absurd hk (by simp)
 have c3:=La th V1
 have e2:([pI [v8],pI [th],pI [th]]:List cZ).getD [uk,vh].length []=pI [th]:=rfl
 rw [e2] at c2
 simp only [qv,CE,tX,bp,aC,aj,dW,dI,dy,pI,aJ,aI,aH,bm,cT,s0,uk,vh,GW,ap,cS,bj,aT,aX,v8,th,cU,bd] at c1 c2 c3
 refine ZE Tryz.func21 Tryz.ntmps21 fun w0 m0 F0=>?_
 refine rC Z0 (Z2 (K9) (BJ 7)) (Z1 (Zs 3)) Z0 ?_;repeat' (first|apply Zb|apply Zn|(apply Zm;intro h)|(apply Zk;intro K hK))
 refine ab.rN [1] [] ?_
 refine ZS Z0 ?_
 refine rC Z0 (Z1 (c1)) (Z1 (Zs 4)) Z0 ?_;repeat' (first|apply Zb|apply Zn|(apply Zm;intro h)|(apply Zk;intro K hK))
 refine dX ah mixed [(0,2),(3,1),(8,1)] [(2,[],[(0,2),(3,1),(8,1)]),(4,[],[(0,2),(8,1)]),(5,[(6,1)],[(0,2),(8,1)]),(7,[],[(0,2),(8,1)]),(9,[(10,7)],[])] [2,4,5,7,9] 8 fun K hK=>?_
 simp only [SG,bb] at hK ⊢
 refine ZU Z0 ?_
 repeat' (first|((first|((fail_if_success (refine ab.bC 5 ?_));(with_reducible refine qV ah fun K hK=>?_))|refine Q2 ?_|((with_reducible first|refine qS ?_ ?_|refine qT ?_ ?_|refine qU ?_ ?_)<;>(intro h;try simp only [NM] at h))|((with_reducible refine ai.is ?_);(first|refine ai.pure (BJ 1) ?_|refine ai.pure (c2) ?_|((apply ai.Es [1] []);(focus (simp -dsimp (disch:=first|exact D|fail) only [go_sem,↓reduceIte,seval,av,RT,St.rest,St.freeze];rfl));(focus (first|exact (BJ 1)|exact (c2))))))|(with_reducible first|refine an.some fun K hK=>?_|refine an.step fun K hK=>?_))<;>simp -dsimp (disch:=first|exact D|fail) only [go_sem,↓reduceIte,seval,av,RT,St.rest,St.freeze])|((with_reducible refine hK _ ?_);clear hK K)|(with_reducible refine an.intro fun K0 hK0=>?_)|((with_reducible refine an.fin ?_);(refine hK0 _ ?_);clear hK0 K0)|(with_reducible first|refine an.quiet ?_|refine an.none ?_)|((with_reducible refine an.keep ?_ ?_);focus ((simp -dsimp (disch:=first|exact D|fail) only [go_sem,↓reduceIte,seval,gE,gD,gF,gG,av,RT,St.rest,St.freeze]);first|done|exact E|fail))|refine Q1 ?_|((with_reducible refine qW (T:=TT) (b:=?_) ?_ ?_);rotate_left;exact rfl)|((with_reducible refine yS ?_ ?_)<;>(intro h;try simp only [NM] at h)))
 refine pK (Z1 (@List.getD_cons_zero.{0})) (Z3 (BJ 1) (BJ 7) (c3)) ?_;repeat' (first|apply Zb|apply Zn|(apply Zm;intro h)|(apply Zk;intro K hK))
 exact ZQ (Z1 Tryz.results21)
theorem aal (s:aq) (l:List aG) (hs:s.Fits) (hl:l.length≤140737488355328) (hf:∀st∈l,st.Fits) :
  Sat Tryz.prog 7 [.agg (aC s),.one (qv l)] (.v (oB true)):=by
 have c0:=Us
 have c1:=V4 s l hs hl hf
 cases h:sC s l with
 | error e =>
  have he:=Ht h
  have spec:AV s l=.error e:=by unfold AV;rw [h]
  rw [spec] at c1
  unfold IP rE at c1
  simp only at c1
  unfold qv at c1 ⊢
  refine ZE Tryz.func7 Tryz.ntmps7 fun w0 m0 F0=>?_
  refine ZW (Z1 @he) (Z2 (c0) (c1)) ?_
  exact ZQ (Z1 Tryz.results7)
 | ok u =>
  obtain ⟨q1,q2,q3⟩:=Uu h
  have fn:=V6 (n:=l.length) hf
  have s2:=J3 s l hs hl hf
  obtain ⟨m,hm⟩:∃m,uU l.length l=m:=⟨_,rfl⟩
  have spec:AV s l=.ok m:=by unfold AV;rw [h,hm]
  rw [hm] at q1 q2 q3 fn
  have spec2:AV s m=.ok m:=by unfold AV;rw [q1,V5 q3]
  have s3:=J3 s m hs (by omega) fn
  have c2:=V4 s m hs (by omega) fn
  have zu:=Py h
  have c3:=Ql u u (yY zu).fits (yY zu).fits
  have c4:=abu m m (by omega) (by omega) fn fn
  rw [sB rfl] at c3 c4
  rw [h] at s2
  rw [q1] at s3
  rw [spec] at c1
  rw [spec2] at c2
  have q2':(m.length:Int)≤l.length:=by omega
  unfold sZ rE at s2 s3
  unfold IP rE at c1 c2
  simp only at c1 c2 s2 s3
  unfold qv at c1 c2 s2 s3 c4 ⊢
  refine ZE Tryz.func7 Tryz.ntmps7 fun w0 m0 F0=>?_
  repeat' (first|((first|with_reducible refine qV ah fun K hK=>?_|refine Q2 ?_|((with_reducible refine ai.is ?_);(first|refine ai.pure (c0) ?_|refine ai.pure (c1) ?_|refine ai.pure (s2) ?_|refine ai.pure (s3) ?_|refine ai.pure (c2) ?_|refine ai.pure (c3) ?_|refine ai.pure (c4) ?_|((apply ai.cO);(focus (simp -dsimp (disch:=first|exact D|fail) only [go_sem,↓reduceIte,seval,aC,q2',iA,av];rfl));(focus (first|exact (c0)|exact (c1)|exact (s2)|exact (s3)|exact (c2)|exact (c3)|exact (c4)))))))<;>simp -dsimp (disch:=first|exact D|fail) only [go_sem,↓reduceIte,seval,aC,q2',iA,av])|((with_reducible refine hK _ ?_);clear hK K)|refine Q1 ?_|((with_reducible refine qW (T:=TT) (b:=?_) ?_ ?_);rotate_left;exact rfl))
  exact ZQ (Z1 Tryz.results7)
end Go.Bw
