/- Proved: contracts of functions of this translation, for every state, and what they rest on; bounds stand ahead. -/
import Derived.Test.YtmnpdfeocknafaaGreatDoorVm
import Derived.Test.YtmnpdfeocknafaaGreatDoorVn
import Derived.Test.YtmnpdfeocknafaaGreatDoorVo
set_option maxHeartbeats 64000000
set_option linter.unusedSimpArgs false
set_option linter.unusedVariables false
namespace Go.Bw
open Go.Proofs
theorem Vq (s:aq) (i:Nat) (st:aG) (hi:i<s.tables.length) (sm:sR s) :
  db Tryz.prog 91 [.one (.ptr 1000 0),oI i,.agg (aj st)] (iB s) (iR s) (.v (oI (rE (vC s i st)))) (dh (vC s i st)) (di (vC s i st)):=by
 have df:=M6 st.value ⟨st.dm,st.uy,st.value.kind==0⟩
 have b1:=sm.tables
 have b2:=(sm.table s.tables[i] (bl hi)).1
 obtain ⟨t,ht⟩:∃t,s.tables[i]=t:=⟨_,rfl⟩
 have htA:bq s i=t:=by unfold bq;rw [bE _ hi,ht]
 rw [ht] at b2
 have e0:s.tables.map eh=qk s.tables i t:=by unfold qk;rw [←ht,Bm]
 have rl:=xe s.tables i t
 have rg:=fun t=>BF (l:=s.tables) (k:=i) t hi
 unfold vC
 simp only
 by_cases hE:Ac st.value ⟨st.dm,st.uy,st.value.kind==0⟩=0
 ·rw [if_neg (by simpa using hE),htA]
  rw [hE] at df
  unfold iB iR dh di qw qx rE fh
  simp only [tw]
  rw [e0]
  refine sM ah [1000] [1,2,3] Tryz.func91 fun w0 m0 F0=>?_
  simp only [Tryz.ntmps91,bK,Nat.reduceAdd]
  refine ab.gq ?_
  repeat' (first|((first|((fail_if_success (refine ab.bC 5 ?_));(with_reducible refine qV ah fun K hK=>?_))|((with_reducible refine ai.is ?_);(refine ai.pure (df) ?_)))<;>simp -dsimp (disch:=first|exact D|fail) only [go_sem,↓reduceIte,seval,aj])|((with_reducible refine hK _ ?_);clear hK K)|refine Q1 ?_|((with_reducible refine qW (T:=TT) (b:=?_) ?_ ?_);rotate_left;exact rfl)|fail)
  refine ab.rD 1000 i 1 2000 rfl (vW _ hi) rfl (by decide) (by decide) ?_
  simp -dsimp (disch:=first|exact D|fail) only [go_sem,↓reduceIte,seval,rP]
  repeat' (first|((first|with_reducible refine qV ah fun K hK=>?_|(refine ab.bC 5 ?_;refine dX ah mixed [(0,14)] [(14,[],[(0,13)]),(15,[(16,2)],[(0,5)]),(18,[],[])] [14,15,18] 8 fun K hK=>?_;simp only [SG,bb] at hK ⊢)|(with_reducible first|refine an.some fun K hK=>?_|refine an.step fun K hK=>?_))<;>simp -dsimp (disch:=first|exact D|fail) only [go_sem,↓reduceIte,seval,rl,rg,eh,av])|((with_reducible refine hK _ ?_);clear hK K)|(with_reducible refine an.intro fun K0 hK0=>?_)|((with_reducible refine an.fin ?_);(refine hK0 _ ?_);clear hK0 K0)|(with_reducible first|refine an.quiet ?_|refine an.none ?_)|((with_reducible refine an.keep ?_ ?_);focus ((simp -dsimp (disch:=first|exact D|fail) only [go_sem,↓reduceIte,seval,gE,gD,gF,gG,rl,rg,eh,av]);first|done|exact E|fail))|refine Q1 ?_|fail)
  refine Gq.close 1000 i 1 40 rfl rfl (by decide) (by simp [aP]) (by simp [rl];exact hi) (by show 1<3;decide) rfl ?_
  simp -dsimp (disch:=first|exact D|fail) only [go_sem,↓reduceIte,seval,rG,rv,ru]
  rw [AD _ _ _ _ _ (by rw [rl];exact hi)]
  have e1:=DV s.tables i t ⟨t.name,t.ae++[⟨st.dm,st.uy,st.value.kind==0⟩],t.pk⟩
  simp only [eh,dn,aJ,aI,aT] at e1
  simp only [wZ,tP,e1]
  refine Gq.eM 1000 rfl ?_
  simp -dsimp (disch:=first|exact D|fail) only [go_sem,↓reduceIte,seval,fG,eW,fH,FV]
  refine Gq.eM 1001 rfl ?_
  simp -dsimp (disch:=first|exact D|fail) only [go_sem,↓reduceIte,seval,fG,eW,fH]
  refine Gq.iN 1000 1 rfl rfl (by decide) (.inl (gQ rfl)) ?_
  simp -dsimp (disch:=first|exact D|fail) only [go_sem,↓reduceIte,seval,tC,L.c7,L.sg]
  refine Gq.iN 1001 2 rfl rfl (by decide) (.inl (gQ rfl)) ?_
  simp -dsimp (disch:=first|exact D|fail) only [go_sem,↓reduceIte,seval,tC,L.c7,L.sg]
  refine Gq.iN 1002 3 rfl rfl (by decide) (.inl (gQ rfl)) ?_
  simp -dsimp (disch:=first|exact D|fail) only [go_sem,↓reduceIte,seval,tC,L.c7,L.sg]
  refine Gq.done ?_
  simp -dsimp (disch:=first|exact D|fail) only [aR,Tryz.results91,aQ,aS,aO,St.rest,St.freeze,RT,go_sem,↓reduceIte,seval]
  skip
 ·rw [if_pos hE]
  unfold iB iR dh di rE
  simp only
  refine sM ah [1000] [1,2,3] Tryz.func91 fun w0 m0 F0=>?_
  simp only [Tryz.ntmps91,bK,Nat.reduceAdd]
  repeat' (first|((first|with_reducible refine qV ah fun K hK=>?_|((with_reducible refine ai.is ?_);(refine ai.pure (df) ?_)))<;>simp -dsimp (disch:=first|exact D|fail) only [go_sem,↓reduceIte,seval,aj,hE])|((with_reducible refine hK _ ?_);clear hK K)|refine Q1 ?_|((with_reducible refine qW (T:=TT) (b:=?_) ?_ ?_);rotate_left;exact rfl)|fail)
  simp -dsimp (disch:=first|exact D|fail) only [aR,Tryz.results91,aQ,aS,aO,St.rest,St.freeze,RT,go_sem,↓reduceIte,seval]
theorem U8 (s:aq) (i:Nat) (name:ByteArray) (R:aq) (hi:i<s.tables.length) (sm:sR s) (hpk:∀t∈s.tables,xW t) (hE:uc s i name=.ok R) :
  db Tryz.prog 86 [.one (.ptr 1000 0),oI i,oS name] (iB s) (iR s) (.v (oI 0)) (qw R) (qx R):=by
 have b1:=sm.tables
 have b2:=sm.table s.tables[i] (bl hi)
 have b3:=sm.ak
 have b4:=sm.cons
 have b5:∀f∈s.ak,f.ae.length≤1048576:=fun f hf=>by have:=(sm.fk f hf).1;omega
 have p1:=hpk s.tables[i] (bl hi)
 obtain ⟨t,ht⟩:∃t,s.tables[i]=t:=⟨_,rfl⟩
 have htA:bq s i=t:=by unfold bq;rw [bE _ hi,ht]
 rw [ht] at b2 p1
 obtain ⟨b6,b7,_⟩:=b2
 obtain ⟨j,q,hj,hq,e1,hij,hpq,hks,e2,hfr,hR⟩:=U7 hE
 obtain ⟨o,ho⟩:∃o,s.tables[j]=o:=⟨_,rfl⟩
 have hoA:bq s j=o:=by unfold bq;rw [bE _ hj,ho]
 rw [htA,hoA] at hpq hks hR
 rw [htA] at e2
 have b8:=sm.table s.tables[j] (bl hj)
 have p2:=hpk s.tables[j] (bl hj)
 rw [ho] at b8 p2
 obtain ⟨b9,b10,_⟩:=b8
 have fs:=qP s name (by omega)
 have lm:(s.tables.map ap).length=s.tables.length:=bw ..
 have gi:(s.tables.map ap).getD i []=ap t:=by rw [bJ _ _ _ hi,ht]
 have gj:(s.tables.map ap).getD j []=ap o:=by rw [bJ _ _ _ hj,ho]
 rw [e1,rZ,sB (show (0:Int)≤(j:Int) by omega)] at fs
 have j0:¬ (j:Int)<0:=by omega
 have hij':¬ (i:Int)=(j:Int):=by omega
 have sq:=IK t.pk.length (by omega)
 have ep:=Be o.pk (ew t.pk.length) (by omega)
 rw [sB hpq] at ep
 have ol:=No p2 hpq
 have e0:s.tables.map eh=qk s.tables i t:=by unfold qk;rw [←ht,Bm]
 have ef:tF (qk s.tables i t)=s.tables.map ap:=by rw [←e0];exact eW _
 obtain ⟨F1,hF1⟩:∃F1,s.ak.take q++s.ak.drop (q+1)=F1:=⟨_,rfl⟩
 rw [hF1] at hfr hR
 have lF:F1.length=s.ak.length - 1:=by rw [←hF1];exact Cz s.ak q hq
 obtain ⟨F2,hF2⟩:∃F2,F1.map (rH name (wm t))=F2:=⟨_,rfl⟩
 obtain ⟨C2,hC2⟩:∃C2,s.cons.map (tJ name (wm t))=C2:=⟨_,rfl⟩
 have lF2:F1.length=F2.length:=by rw [←hF2,bw]
 have lC2:s.cons.length=C2.length:=by rw [←hC2,bw]
 obtain ⟨U,hU⟩:∃U,s.tables.set i {t with ae:=t.ae++o.ae.drop t.pk.length}=U:=⟨_,rfl⟩
 have lU:U.length=s.tables.length:=by rw [←hU,tw]
 have R1:R.tables=U.take j++U.drop (j+1):=by rw [hR,←hU];rfl
 have R2:R.ak=F2.map (xM name t.name):=by rw [hR,←hF2];rfl
 have R3:R.cons=C2.map (yX name t.name):=by rw [hR,←hC2];rfl
 have cl:=Cz U j (by omega)
 unfold iB iR qw qx
 rw [R1,R2,R3]
 simp only [cl,bw]
 refine sM ah [1000] [1,2,3] Tryz.func86 fun w0 m0 F0=>?_
 simp only [Tryz.ntmps86,bK,Nat.reduceAdd]
 refine ab.gq ?_
 repeat' (first|((first|((fail_if_success (refine ab.bC 4 ?_));(with_reducible refine qV ah fun K hK=>?_))|(refine ab.bC 1 ?_;refine dX ah mixed [(0,4)] [(4,[(5,5)],[])] [4] 8 fun K hK=>?_;simp only [SG,bb] at hK ⊢)|((with_reducible refine ai.is ?_);(((apply ai.cO);(focus (simp -dsimp (disch:=first|exact D|fail) only [go_sem,↓reduceIte,seval,av,sU,pW];rfl));(focus (first|exact (fs))))))|(with_reducible first|refine an.some fun K hK=>?_|refine an.step fun K hK=>?_))<;>simp -dsimp (disch:=first|exact D|fail) only [go_sem,↓reduceIte,seval,av,sU,pW])|((with_reducible refine hK _ ?_);clear hK K)|(with_reducible refine an.intro fun K0 hK0=>?_)|((with_reducible refine an.fin ?_);(refine hK0 _ ?_);clear hK0 K0)|(with_reducible refine an.quiet ?_)|refine Q1 ?_|((with_reducible refine qW (T:=TT) (b:=?_) ?_ ?_);rotate_left;exact rfl)|fail)
 rw [e0]
 refine ab.rD 1000 i 1 2010 rfl (vW _ hi) rfl (by decide) (by decide) ?_
 simp -dsimp (disch:=first|exact D|fail) only [go_sem,↓reduceIte,seval,rP]
 refine ab.eM 1000 rfl ?_
 simp -dsimp (disch:=first|exact D|fail) only [go_sem,↓reduceIte,seval,fG,eW,fH,ef]
 refine ab.we ⟨188,[(0,.v (.one (.ptr 1000 0))),(1,.v (oI i)),(5,.v (.one (.ptr 5 0))),(6,.v (oI 0)),(7,.v (oI j)),(9,.v (.one (.ptr 9 0))),(10,.v (.one (.ptr 10 0)))],[(9,[.str t.name,.ref 2010 0 t.ae.length,.sl 1 (t.pk.map aX)]),(10,ap o),(5,[.str name]),(1000,[.ref 1000 0 s.tables.length,.ref 1001 0 s.ak.length,.ref 1002 0 s.cons.length])],[(1000,⟨3,s.tables.map ap,[(i,1,.ref 2010 0 t.ae.length)]⟩),(2010,⟨3,t.ae.map aT,[]⟩),(1001,⟨3,s.ak.map pS,[]⟩),(1002,⟨7,s.cons.map aK,[]⟩)]⟩ ?_ ?_
 ·refine dY ah mixed [(0,14)] (.cons 14 [] [(0,14)] (.cons 15 [] [(0,14)] (.cons 16 [] [(7,7)] (.cons 17 [] [] .leaf .none) .none) .none) (.cons 15 [] [(0,14)] (.cons 14 [] [(0,14)] (.cons 16 [] [(7,7)] (.cons 17 [] [] .leaf .none) .none) .none) .none)) [14,15,16,17] 8 fun K hK=>?_
  simp only [vT,vU,vV,bb,eo,dA,dV,c9,c8,dr,aW,aZ,bM] at hK ⊢
  simp -dsimp (disch:=first|exact D|fail) only [go_sem,↓reduceIte,seval,av,gi,gj,lm,hij',hij]
  repeat' (first|(((with_reducible refine c6.step fun K hK=>?_))<;>simp -dsimp (disch:=first|exact D|fail) only [go_sem,↓reduceIte,seval,av,gi,gj,lm,hij',hij])|((with_reducible refine hK _ ?_);clear hK K)|(with_reducible refine c6.intro fun K0 hK0=>?_)|((with_reducible refine c6.fin ?_);(refine hK0 _ ?_);clear hK0 K0)|(with_reducible first|refine an.quiet ?_|refine c6.none ?_)|((with_reducible refine an.keep ?_ ?_);focus ((simp -dsimp (disch:=first|exact D|fail) only [go_sem,↓reduceIte,seval,gE,gD,gF,gG,av,gi,gj,lm,hij',hij]);first|done|exact E|fail))|((with_reducible refine c6.fork (fun K hK=>?_) ?_);(focus (simp -dsimp (disch:=first|exact D|fail) only [go_sem,↓reduceIte,seval,av,gi,gj,lm,hij',hij])))|refine Q1 ?_|fail)
  all_goals refine Gq.done ⟨rfl,?_⟩
  all_goals refine St.bN ?_ ?_ ?_<;>simp only [LE,EN,Nat.reduceEqDiff,reduceIte,Nat.reduceSub,ap]
 repeat' (first|((first|with_reducible refine qV ah fun K hK=>?_|refine Q2 ?_|with_reducible refine yD ah mixed 6 (by kernel_rfl) fun K hK=>?_|((with_reducible refine bH.is ?_);(first|refine bH.intro (sq) ?_|refine bH.intro (ep) ?_)))<;>simp -dsimp (disch:=first|exact D|fail) only [go_sem,↓reduceIte,seval,av,hij'])|((with_reducible refine hK _ ?_);clear hK K)|refine Q1 ?_|((with_reducible refine qW (T:=TT) (b:=?_) ?_ ?_);rotate_left;exact rfl)|fail)
 refine ab.BC ⟨188,[(0,.v (.one (.ptr 1000 0))),(1,.v (oI i)),(5,.v (.one (.ptr 5 0))),(6,.v (oI 0)),(7,.v (oI j)),(9,.v (.one (.ptr 9 0))),(10,.v (.one (.ptr 10 0))),(11,.v (.one (.ptr 11 0)))],[(11,[.int .i64 (t.pk.length:Int)]),(9,[.str t.name,.ref 2010 0 t.ae.length,.sl 1 (t.pk.map aX)]),(10,ap o),(5,[.str name]),(1000,[.ref 1000 0 s.tables.length,.ref 1001 0 s.ak.length,.ref 1002 0 s.cons.length])],[(1000,⟨3,s.tables.map ap,[(i,1,.ref 2010 0 t.ae.length)]⟩),(2010,⟨3,t.ae.map aT,[]⟩),(1001,⟨3,s.ak.map pS,[]⟩),(1002,⟨7,s.cons.map aK,[]⟩)]⟩ ?_ ?_
 ·refine ab.loop (ι:={k:Nat // k≤t.pk.length∧scan (yW t o) (t.pk.drop k) k=none}) (fun k=>⟨188,[(0,.v (.one (.ptr 1000 0))),(1,.v (oI i)),(5,.v (.one (.ptr 5 0))),(6,.v (oI 0)),(7,.v (oI j)),(9,.v (.one (.ptr 9 0))),(10,.v (.one (.ptr 10 0))),(11,.v (.one (.ptr 11 0))),(57,.v (.one (.sl 1 (t.pk.map aX)))),(58,.v (oI t.pk.length)),(59,.v (oI k.1))],[(11,[.int .i64 (t.pk.length:Int)]),(9,[.str t.name,.ref 2010 0 t.ae.length,.sl 1 (t.pk.map aX)]),(10,ap o),(5,[.str name]),(1000,[.ref 1000 0 s.tables.length,.ref 1001 0 s.ak.length,.ref 1002 0 s.cons.length])],[(1000,⟨3,s.tables.map ap,[(i,1,.ref 2010 0 t.ae.length)]⟩),(2010,⟨3,t.ae.map aT,[]⟩),(1001,⟨3,s.ak.map pS,[]⟩),(1002,⟨7,s.cons.map aK,[]⟩)]⟩) (fun k=>t.pk.length - k.1) ⟨0,bg _,hks⟩ ?_ fun ⟨k,hkl,hki⟩=>?_
  ·refine St.bN ?_ ?_ ?_<;>simp only [LE,EN,Nat.reduceEqDiff,reduceIte,Nat.reduceSub,ap]
  simp only at hkl hki ⊢
  rcases cV k t.pk.length with hc|hc
  ·obtain ⟨z,hz,z1⟩:∃q:Nat,t.pk[k]=(q:Int)∧q<t.ae.length:=⟨t.pk[k].toNat,by have:=p1 t.pk[k] (bl hc);omega,by have:=p1 t.pk[k] (bl hc);omega⟩
   have gp:(t.pk.map aX).getD k []=[.int .i64 (z:Int)]:=by rw [bJ _ _ _ hc,hz];rfl
   have g1:(t.ae.map aT).getD z []=aT (t.ae.getD z dF):=by rw [bJ _ _ _ z1,bE _ z1]
   have g2:(o.ae.map aT).getD k []=aT (o.ae.getD k dF):=by rw [bJ _ _ _ (by omega),bE _ (by omega)]
   have sp:yW t o k t.pk[k]=if (t.ae.getD z dF).kind=(o.ae.getD k dF).kind then none else some 9:=by unfold yW;rw [hz,bG,ite_not]
   by_cases hx:(t.ae.getD z dF).kind=(o.ae.getD k dF).kind
   ·rw [if_pos hx] at sp
    repeat' (first|((first|with_reducible refine qV ah fun K hK=>?_|with_reducible refine yD ah mixed 6 (by kernel_rfl) fun K hK=>?_)<;>simp -dsimp (disch:=first|exact D|fail) only [go_sem,↓reduceIte,seval,gp,g1,g2,aT,av,hx])|((with_reducible refine hK _ ?_);clear hK K)|refine Q1 ?_|((with_reducible refine qW (T:=TT) (b:=?_) ?_ ?_);rotate_left;exact rfl)|fail)
    refine ⟨⟨k+1,by omega,by rw [wG (by omega) sp,hki]⟩,by simp only;omega,?_⟩
    refine St.bN ?_ ?_ ?_<;>simp only [LE,EN,Nat.reduceEqDiff,reduceIte,Nat.reduceSub,ap]
   ·rw [if_neg hx] at sp
    rw [Np (by omega) sp] at hki
    cases hki
  ·repeat' (first|((with_reducible refine qV ah fun K hK=>?_)<;>simp -dsimp (disch:=first|exact D|fail) only [go_sem,↓reduceIte,seval,av])|((with_reducible refine hK _ ?_);clear hK K)|refine Q1 ?_|((with_reducible refine qW (T:=TT) (b:=?_) ?_ ?_);rotate_left;exact rfl)|fail)
   refine Gq.done ⟨rfl,?_⟩
   refine St.bN ?_ ?_ ?_<;>simp only [LE,EN,Nat.reduceEqDiff,reduceIte,Nat.reduceSub,ap]
 refine ab.Tl 9 1 rfl rfl ?_
 simp -dsimp (disch:=first|exact D|fail) only [go_sem,↓reduceIte,seval,Tm,yQ,tP,wZ]
 refine ab.close 1000 i 1 2010 rfl rfl (by decide) (by simp [aP]) (by rw [lm];exact hi) (by show 1<3;decide) rfl ?_
 simp -dsimp (disch:=first|exact D|fail) only [go_sem,↓reduceIte,seval,rG,rv,ru]
 obtain ⟨T,hT⟩:∃T,setCell (s.tables.map ap) i 1 (.own 3 (t.ae.map aT))=T:=⟨_,rfl⟩
 rw [hT]
 have dfo:=U1 s ⟨name,ew t.pk.length,t.name⟩ q T s.tables.length hq e2 (by omega) b5
 have ek:aL ⟨name,ew t.pk.length,t.name⟩=[.str name,.sl 1 ((ew t.pk.length).map aX),.str t.name]:=rfl
 rw [ek,hF1,←lF] at dfo
 have cf:=DY F1 141 [.fz [.str name]] _ (by omega) fun t _=>Nk t name
 rw [hfr] at cf
 have mF:∀f∈F1,f∈s.ak:=fun f hf=>by
  rw [←hF1] at hf
  rcases List.mem_append.1 hf with h|h
  ·exact tv h
  ·exact zB h
 have rc:=Nq ⟨s.tables,F1,s.cons⟩ T s.tables.length name (wm t) 143 [[.int .i64 (t.pk.length:Int)],[.str t.name,yQ t.ae.length,.sl 1 (t.pk.map aX)],[.int .i64 (t.ae.length:Int)]] (by show F1.length≤_;omega) (by show s.cons.length≤_;omega) (fun f hf=>b5 f (mF f hf))
  (fun k hk _ c hc=>by
   have:=(sm.fk k (mF k hk)).2 c hc
   exact IL t _ c (by omega) (by omega) (by omega) (by omega))
  (fun k hk _=>by
   have:=sm.qH k hk
   exact ⟨IL t _ _ (by omega) (by omega) (by omega) (by omega),fun h0=>IL t _ _ h0 (by omega) (by omega) (by omega)⟩)
 simp only [aJ,aI,yQ] at rc
 repeat' (first|((first|((fail_if_success (refine ab.bC 20 ?_));(with_reducible refine qV ah fun K hK=>?_))|(refine ab.bC 14 ?_;refine dX ah mixed [(0,3),(4,2)] [(3,[(6,1)],[(0,2),(4,2)]),(7,[(8,1)],[])] [3,7] 8 fun K hK=>?_;simp only [SG,bb] at hK ⊢)|((with_reducible refine ai.is ?_);refine ai.io [(1000,1000)] [(1000,1000),(1001,1001),(1002,1002)] [(1000,1000)] [(1000,1000),(22,22),(1002,1002)] [] [1001,22] [1000,1000] [1000,1001,1002,1000,22,1002] (dfo) rfl ⟨rfl,rfl,rfl,rfl⟩ ?_ ?_ ?_)|((with_reducible refine ai.is ?_);(first|refine ai.pure (sq) ?_|((apply ai.cO);(focus (simp -dsimp (disch:=first|exact D|fail) only [go_sem,↓reduceIte,seval,dz,av,pW,EW,bh,bt,bu];rfl));(focus (first|exact (sq)|exact (cf))))))|(with_reducible first|refine an.some fun K hK=>?_|refine an.step fun K hK=>?_))<;>simp -dsimp (disch:=first|exact D|fail) only [go_sem,↓reduceIte,seval,dz,av,pW,EW,bh,bt,bu])|((with_reducible refine hK _ ?_);clear hK K)|(with_reducible refine an.intro fun K0 hK0=>?_)|((with_reducible refine an.fin ?_);(refine hK0 _ ?_);clear hK0 K0)|(with_reducible refine an.quiet ?_)|((with_reducible refine an.keep ?_ ?_);focus ((simp -dsimp (disch:=first|exact D|fail) only [go_sem,↓reduceIte,seval,gE,gD,gF,gG,dz,av,pW,EW,bh,bt,bu]);first|done|exact E|fail))|refine Q1 ?_|((with_reducible refine qW (T:=TT) (b:=?_) ?_ ?_);rotate_left;exact rfl)|fail)
 refine ab.keep [0,1,5,6,7,9,10,11,15] ?_
 simp -dsimp (disch:=first|exact D|fail) only [go_sem,↓reduceIte,seval,RT]
 refine ab.rN [1000] [1000,22,1002] ?_
 simp -dsimp (disch:=first|exact D|fail) only [go_sem,↓reduceIte,seval,RT,St.rest,St.freeze,yh]
 repeat' (first|((first|((fail_if_success (refine ab.bC 21 ?_));(with_reducible refine qV ah fun K hK=>?_))|((with_reducible refine ai.is ?_);refine ai.io [(1000,1000)] [(1000,1000),(1001,22),(1002,1002)] [(1000,1000)] [(1000,1000),(1001,22),(1002,1002)] [] [] [1000,1000] [1000,22,1002,1000,22,1002] (rc) rfl ⟨rfl,rfl,rfl,rfl⟩ ?_ ?_ ?_))<;>simp -dsimp (disch:=first|exact D|fail) only [go_sem,↓reduceIte,seval,dz,av,bh,bt,bu])|((with_reducible refine hK _ ?_);clear hK K)|refine Q1 ?_|fail)
 refine ab.eM 22 rfl ?_
 simp -dsimp (disch:=first|exact D|fail) only [go_sem,↓reduceIte,seval,fG,eW,fH]
 refine ab.keep [0,1,5,6,7,9,10,11] ?_
 simp -dsimp (disch:=first|exact D|fail) only [go_sem,↓reduceIte,seval,RT]
 rw [hF2,hC2,lF2,lC2]
 repeat' (first|((with_reducible refine qV ah fun K hK=>?_)<;>simp -dsimp (disch:=first|exact D|fail) only [go_sem,↓reduceIte,seval])|((with_reducible refine hK _ ?_);clear hK K)|refine Q1 ?_|fail)
 refine ab.BC ⟨188,[(0,.v (.one (.ptr 1000 0))),(1,.v (oI i)),(5,.v (.one (.fz [.str name]))),(6,.v (oI 0)),(7,.v (oI j)),(9,.v (.one (.fz [.str t.name,.sl 0 (List.replicate t.ae.length []),.sl 1 (t.pk.map aX)]))),(10,.v (.one (.fz [.str o.name,.sl 3 (o.ae.map aT),.sl 1 (o.pk.map aX)]))),(11,.v (.one (.fz [.int .i64 (t.pk.length:Int)])))],[(1000,[.ref 1000 0 s.tables.length,.ref 22 0 F2.length,.ref 1002 0 C2.length])],[(1000,⟨3,T,[]⟩),(22,⟨3,(F2.map (xM name t.name)).map aL,[]⟩),(1002,⟨7,C2.map aK,[]⟩)]⟩ ?_ ?_
 ·refine ab.loop (ι:={k:Nat // k≤F2.length}) (fun k=>⟨188,[(0,.v (.one (.ptr 1000 0))),(1,.v (oI i)),(5,.v (.one (.fz [.str name]))),(6,.v (oI 0)),(7,.v (oI j)),(9,.v (.one (.fz [.str t.name,.sl 0 (List.replicate t.ae.length []),.sl 1 (t.pk.map aX)]))),(10,.v (.one (.fz [.str o.name,.sl 3 (o.ae.map aT),.sl 1 (o.pk.map aX)]))),(11,.v (.one (.fz [.int .i64 (t.pk.length:Int)]))),(105,.v (oI F2.length)),(106,.v (oI k.1))],[(1000,[.ref 1000 0 s.tables.length,.ref 22 0 F2.length,.ref 1002 0 C2.length])],[(1000,⟨3,T,[]⟩),(22,⟨3,(pQ (xM name t.name) F2 k.1).map aL,[]⟩),(1002,⟨7,C2.map aK,[]⟩)]⟩) (fun k=>F2.length - k.1) ⟨0,bg _⟩ ?_ fun ⟨k,hkl⟩=>?_
  ·refine St.bN ?_ ?_ ?_<;>simp only [LE,EN,Nat.reduceEqDiff,reduceIte,Nat.reduceSub,uK]
  simp only at hkl ⊢
  rcases cV k F2.length with hk|hk
  ·have ml:=tW (xM name t.name) F2 k
   have mg:=zN aL (xM name t.name) F2 k hk
   have ms:=zO aL (xM name t.name) F2 k hk
   have mk:=AE (xM name t.name) F2 k hk
   obtain ⟨fb,hfb⟩:∃fb,F2[k]=fb:=⟨_,rfl⟩
   rw [hfb] at mg ms mk
   cases h1:aw fb.table name
   ·have h1':¬ fb.table.toList=name.toList:=by simpa [aw] using h1
    have mk:=mk (by unfold xM c7;rw [h1];rfl)
    repeat' (first|((first|with_reducible refine qV ah fun K hK=>?_|with_reducible refine yD ah mixed 6 (by kernel_rfl) fun K hK=>?_)<;>simp -dsimp (disch:=first|exact D|fail) only [go_sem,↓reduceIte,seval,ml,mg,h1',av])|((with_reducible refine hK _ ?_);clear hK K)|refine Q1 ?_|((with_reducible refine qW (T:=TT) (b:=?_) ?_ ?_);rotate_left;exact rfl)|fail)
    refine ⟨⟨k+1,by omega⟩,by simp only;omega,?_⟩
    refine St.bN ?_ ?_ ?_<;>simp only [LE,EN,Nat.reduceEqDiff,reduceIte,Nat.reduceSub,mk]
   ·have h1':fb.table.toList=name.toList:=by simpa [aw] using h1
    have er:xM name t.name fb={fb with table:=t.name}:=by unfold xM c7;rw [h1];rfl
    rw [er] at ms
    simp only [aL,bj] at ms
    repeat' (first|((first|with_reducible refine qV ah fun K hK=>?_|(refine ab.bC 25 ?_;refine dX ah mixed [(0,9)] [(9,[],[])] [9] 8 fun K hK=>?_;simp only [SG,bb] at hK ⊢)|with_reducible refine yD ah mixed 6 (by kernel_rfl) fun K hK=>?_|(with_reducible refine an.step fun K hK=>?_))<;>simp -dsimp (disch:=first|exact D|fail) only [go_sem,↓reduceIte,seval,ml,mg,h1',av])|((with_reducible refine hK _ ?_);clear hK K)|(with_reducible refine an.intro fun K0 hK0=>?_)|((with_reducible refine an.fin ?_);(refine hK0 _ ?_);clear hK0 K0)|(with_reducible first|refine an.quiet ?_|refine an.none ?_)|refine Q1 ?_|((with_reducible refine qW (T:=TT) (b:=?_) ?_ ?_);rotate_left;exact rfl)|fail)
    refine ⟨⟨k+1,by omega⟩,by simp only;omega,?_⟩
    refine St.bN ?_ ?_ ?_<;>simp only [LE,EN,Nat.reduceEqDiff,reduceIte,Nat.reduceSub,ms]
  ·have hk:k=F2.length:=by omega
   subst hk
   rw [yu]
   repeat' (first|((with_reducible refine qV ah fun K hK=>?_)<;>simp -dsimp (disch:=first|exact D|fail) only [go_sem,↓reduceIte,seval])|((with_reducible refine hK _ ?_);clear hK K)|refine Q1 ?_|((with_reducible refine qW (T:=TT) (b:=?_) ?_ ?_);rotate_left;exact rfl)|fail)
   refine Gq.done ⟨rfl,?_⟩
   refine St.bN ?_ ?_ ?_<;>simp only [LE,EN,Nat.reduceEqDiff,reduceIte,Nat.reduceSub]
 repeat' (first|((with_reducible refine qV ah fun K hK=>?_)<;>simp -dsimp (disch:=first|exact D|fail) only [go_sem,↓reduceIte,seval])|((with_reducible refine hK _ ?_);clear hK K)|refine Q1 ?_|fail)
 refine ab.BC ⟨188,[(0,.v (.one (.ptr 1000 0))),(1,.v (oI i)),(6,.v (oI 0)),(7,.v (oI j)),(10,.v (.one (.fz [.str o.name,.sl 3 (o.ae.map aT),.sl 1 (o.pk.map aX)]))),(11,.v (.one (.fz [.int .i64 (t.pk.length:Int)])))],[(1000,[.ref 1000 0 s.tables.length,.ref 22 0 F2.length,.ref 1002 0 C2.length])],[(1000,⟨3,T,[]⟩),(22,⟨3,(F2.map (xM name t.name)).map aL,[]⟩),(1002,⟨7,(C2.map (yX name t.name)).map aK,[]⟩)]⟩ ?_ ?_
 ·refine ab.loop (ι:={k:Nat // k≤C2.length}) (fun k=>⟨188,[(0,.v (.one (.ptr 1000 0))),(1,.v (oI i)),(5,.v (.one (.fz [.str name]))),(6,.v (oI 0)),(7,.v (oI j)),(9,.v (.one (.fz [.str t.name,.sl 0 (List.replicate t.ae.length []),.sl 1 (t.pk.map aX)]))),(10,.v (.one (.fz [.str o.name,.sl 3 (o.ae.map aT),.sl 1 (o.pk.map aX)]))),(11,.v (.one (.fz [.int .i64 (t.pk.length:Int)]))),(133,.v (oI C2.length)),(134,.v (oI k.1))],[(1000,[.ref 1000 0 s.tables.length,.ref 22 0 F2.length,.ref 1002 0 C2.length])],[(1000,⟨3,T,[]⟩),(22,⟨3,(F2.map (xM name t.name)).map aL,[]⟩),(1002,⟨7,(pQ (yX name t.name) C2 k.1).map aK,[]⟩)]⟩) (fun k=>C2.length - k.1) ⟨0,bg _⟩ ?_ fun ⟨k,hkl⟩=>?_
  ·refine St.bN ?_ ?_ ?_<;>simp only [LE,EN,Nat.reduceEqDiff,reduceIte,Nat.reduceSub,uK]
  simp only at hkl ⊢
  rcases cV k C2.length with hk|hk
  ·have ml:=tW (yX name t.name) C2 k
   have mg:=zN aK (yX name t.name) C2 k hk
   have ms:=zO aK (yX name t.name) C2 k hk
   have mk:=AE (yX name t.name) C2 k hk
   obtain ⟨fb,hfb⟩:∃fb,C2[k]=fb:=⟨_,rfl⟩
   rw [hfb] at mg ms mk
   cases h1:aw fb.table name
   ·have h1':¬ fb.table.toList=name.toList:=by simpa [aw] using h1
    have mk:=mk (by unfold yX c7;rw [h1];rfl)
    repeat' (first|((first|with_reducible refine qV ah fun K hK=>?_|with_reducible refine yD ah mixed 6 (by kernel_rfl) fun K hK=>?_)<;>simp -dsimp (disch:=first|exact D|fail) only [go_sem,↓reduceIte,seval,ml,mg,h1',av])|((with_reducible refine hK _ ?_);clear hK K)|refine Q1 ?_|((with_reducible refine qW (T:=TT) (b:=?_) ?_ ?_);rotate_left;exact rfl)|fail)
    refine ⟨⟨k+1,by omega⟩,by simp only;omega,?_⟩
    refine St.bN ?_ ?_ ?_<;>simp only [LE,EN,Nat.reduceEqDiff,reduceIte,Nat.reduceSub,mk]
   ·have h1':fb.table.toList=name.toList:=by simpa [aw] using h1
    have er:yX name t.name fb={fb with table:=t.name}:=by unfold yX c7;rw [h1];rfl
    rw [er] at ms
    simp only [aK] at ms
    repeat' (first|((first|with_reducible refine qV ah fun K hK=>?_|(refine ab.bC 31 ?_;refine dX ah mixed [(0,9)] [(9,[],[])] [9] 8 fun K hK=>?_;simp only [SG,bb] at hK ⊢)|with_reducible refine yD ah mixed 6 (by kernel_rfl) fun K hK=>?_|(with_reducible refine an.step fun K hK=>?_))<;>simp -dsimp (disch:=first|exact D|fail) only [go_sem,↓reduceIte,seval,ml,mg,h1',av])|((with_reducible refine hK _ ?_);clear hK K)|(with_reducible refine an.intro fun K0 hK0=>?_)|((with_reducible refine an.fin ?_);(refine hK0 _ ?_);clear hK0 K0)|(with_reducible first|refine an.quiet ?_|refine an.none ?_)|refine Q1 ?_|((with_reducible refine qW (T:=TT) (b:=?_) ?_ ?_);rotate_left;exact rfl)|fail)
    refine ⟨⟨k+1,by omega⟩,by simp only;omega,?_⟩
    refine St.bN ?_ ?_ ?_<;>simp only [LE,EN,Nat.reduceEqDiff,reduceIte,Nat.reduceSub,ms]
  ·have hk:k=C2.length:=by omega
   subst hk
   rw [yu]
   repeat' (first|((with_reducible refine qV ah fun K hK=>?_)<;>simp -dsimp (disch:=first|exact D|fail) only [go_sem,↓reduceIte,seval])|((with_reducible refine hK _ ?_);clear hK K)|refine Q1 ?_|((with_reducible refine qW (T:=TT) (b:=?_) ?_ ?_);rotate_left;exact rfl)|fail)
   refine Gq.done ⟨rfl,?_⟩
   refine St.bN ?_ ?_ ?_<;>simp only [LE,EN,Nat.reduceEqDiff,reduceIte,Nat.reduceSub]
 have hT2:T=(s.tables.map ap).set i [.str t.name,.own 3 (t.ae.map aT),.sl 1 (t.pk.map aX)]:=by
  rw [←hT]
  unfold setCell
  rw [gi]
  rfl
 have hTc:cellOf T i 1=some (.own 3 (t.ae.map aT)):=by
  rw [hT2]
  unfold cellOf
  rw [JP (by rw [lm];exact hi)]
  rfl
 have lT:T.length=s.tables.length:=by rw [hT2,tw,lm]
 have gT:T.getD i []=[.str t.name,.own 3 (t.ae.map aT),.sl 1 (t.pk.map aX)]:=by rw [hT2];exact Iz _ _ _ (by rw [lm];exact hi)
 refine ab.rD 1000 i 1 2010 rfl hTc rfl (by decide) (by decide) ?_
 simp -dsimp (disch:=first|exact D|fail) only [go_sem,↓reduceIte,seval,rP]
 have hdr:(o.ae.map aT).drop t.pk.length=(o.ae.drop t.pk.length).map aT:=by rw [Eo]
 have htk:List.take (o.ae.length - t.pk.length) ((o.ae.drop t.pk.length).map aT)=(o.ae.drop t.pk.length).map aT:=du (by simp)
 repeat' (first|((first|(refine ab.bC 33 ?_;refine dX ah mixed [(0,17)] [(17,[(18,2)],[(0,5)]),(20,[],[])] [17,20] 8 fun K hK=>?_;simp only [SG,bb] at hK ⊢)|(with_reducible first|refine an.some fun K hK=>?_|refine an.step fun K hK=>?_))<;>simp -dsimp (disch:=first|exact D|fail) only [go_sem,↓reduceIte,seval,av,lT,gT,hdr,htk])|((with_reducible refine hK _ ?_);clear hK K)|(with_reducible refine an.intro fun K0 hK0=>?_)|((with_reducible refine an.fin ?_);(refine hK0 _ ?_);clear hK0 K0)|(with_reducible first|refine an.quiet ?_|refine an.none ?_)|((with_reducible refine an.keep ?_ ?_);focus ((simp -dsimp (disch:=first|exact D|fail) only [go_sem,↓reduceIte,seval,gE,gD,gF,gG,av,lT,gT,hdr,htk]);first|done|exact E|fail))|refine Q1 ?_|fail)
 refine ab.close 1000 i 1 174 rfl rfl (by decide) (by simp [aP]) (by simp [lT];exact hi) (by show 1<3;decide) rfl ?_
 simp -dsimp (disch:=first|exact D|fail) only [go_sem,↓reduceIte,seval,rG,rv,ru]
 rw [AD _ _ _ _ _ (by rw [lT];exact hi)]
 simp -dsimp (disch:=first|exact D|fail) only [go_sem,↓reduceIte,seval,wZ,tP]
 rw [hT2,vP]
 have fm:tF (s.tables.map ap)=s.tables.map ap:=M9 _
 have e3:(s.tables.map ap).set i [.str t.name,.sl 3 (t.ae.map aT++(o.ae.drop t.pk.length).map aT),.sl 1 (t.pk.map aX)]=U.map ap:=by
  rw [←hU,vJ]
  simp only [ap,cS,bj,dn]
 refine ab.eM 1000 rfl ?_
 simp -dsimp (disch:=first|exact D|fail) only [go_sem,↓reduceIte,seval,fG,eW,fH,Iy,fm,dn,IA,IB]
 rw [e3]
 have dl:=M7 (U.map ap) j (by simp;omega) (by simp;omega) (by rw [ie];trivial)
 rw [bw] at dl
 have cm:=CA ap U j (by omega) [.str ByteArray.empty,.sl 3 [],.sl 1 []]
 rw [←lU]
 repeat' (first|((first|with_reducible refine qV ah fun K hK=>?_|((with_reducible refine ai.is ?_);refine ai.io [] [(1000,1000)] [] [(6,185)] [] [1000,185] [] [1000,185] (dl) rfl ⟨rfl,rfl,rfl,rfl⟩ ?_ ?_ ?_))<;>simp -dsimp (disch:=first|exact D|fail) only [go_sem,↓reduceIte,seval,av,dz,bh,bt,bu])|((with_reducible refine hK _ ?_);clear hK K)|refine Q1 ?_|fail)
 refine Gq.wW 185 (U.length - 1) rfl rfl (by simp;omega) ?_
 simp -dsimp (disch:=first|exact D|fail) only [go_sem,↓reduceIte,seval]
 rw [cm]
 refine Gq.iN 185 1 rfl rfl (by decide) (.inl (gQ rfl)) ?_
 simp -dsimp (disch:=first|exact D|fail) only [go_sem,↓reduceIte,seval,tC,L.c7,L.sg]
 refine Gq.iN 22 2 rfl rfl (by decide) (.inl (gQ rfl)) ?_
 simp -dsimp (disch:=first|exact D|fail) only [go_sem,↓reduceIte,seval,tC,L.c7,L.sg]
 refine Gq.iN 1002 3 rfl rfl (by decide) (.inl (gQ rfl)) ?_
 simp -dsimp (disch:=first|exact D|fail) only [go_sem,↓reduceIte,seval,tC,L.c7,L.sg]
 refine Gq.done ?_
 simp -dsimp (disch:=first|exact D|fail) only [aR,Tryz.results86,aQ,aS,aO,St.rest,St.freeze,RT,go_sem,↓reduceIte,seval]
 rw [dn]
end Go.Bw
