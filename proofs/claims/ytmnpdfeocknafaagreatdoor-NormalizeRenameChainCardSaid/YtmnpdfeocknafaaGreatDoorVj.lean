/- Proved: contracts of functions of this translation, for every state, and what they rest on; bounds stand ahead. -/
import Derived.Test.YtmnpdfeocknafaaGreatDoorVi
set_option maxHeartbeats 64000000
set_option linter.unusedSimpArgs false
set_option linter.unusedVariables false
namespace Go.Bw
open Go.Proofs
theorem yC (t:au) (r:Row) (hpk:t.pk.length≤1099511627776):Sat Tryz.prog 104 [.agg (ap t),.one (cT r)] (.v (.one (cT (keyOf t.pk r)))) :=
 (PN t r hpk).rN (by
  have hl:=vD t.pk r
  simp -dsimp (disch:=first|exact D|fail) only [go_sem,↓reduceIte,seval,x8,St.rest,roots,bh,cT,vD]
  )
theorem Dh (l:List Row) (h1:l.length≤1099511627776) (h2:∀r∈l,r.length≤1099511627776):Sat Tryz.prog 105 [.one (bm l)] (.v (.one (bm l))) :=
 (Lf l h1 h2).rN (by
  simp -dsimp (disch:=first|exact D|fail) only [go_sem,↓reduceIte,seval,x8,St.rest,roots,bh,bm]
  )
def tD (s:aq) (i:cZ) (name:ByteArray):au×List Row :=
 if aY s.tables name<0 then (⟨ByteArray.empty,[],[]⟩,[]) else
 (s.tables.getD (aY s.tables name).toNat tL,if (i.length:Int)≤aY s.tables name then [] else (i.getD (aY s.tables name).toNat ⟨ByteArray.empty,[]⟩).rows)
theorem JW (s:aq) (i:cZ) (name:ByteArray) (h1:s.tables.length≤140737488355328) (h2:∀t∈s.tables,t.ae.length≤1099511627776∧t.pk.length≤1099511627776)
  (h3:∀r∈i,r.rows.length≤1099511627776∧∀x∈r.rows,x.length≤1099511627776) :
  Sat Tryz.prog 67 [.agg (aC s),.one (bp i),.one (.str name)] (.cR [.agg (ap (tD s i name).1),.one (bm (tD s i name).2)]):=by
 rcases qn (fun t=>aw t.name name) s.tables 0 with ⟨e1,_⟩|⟨j,hj,e1,_⟩
 ·have e1:aY s.tables name=-1:=e1
  refine sS ah Tryz.func67 fun w0 m0 F0=>?_
  simp only [Tryz.ntmps67,bK,Nat.reduceAdd]
  repeat' (first|((first|with_reducible refine qV ah fun K hK=>?_|refine Q2 ?_|((with_reducible first|refine qS ?_ ?_|refine qT ?_ ?_|refine qU ?_ ?_)<;>(intro h;try simp only [NM] at h))|((with_reducible refine ai.is ?_);(first|refine ai.pure (qP _ _ h1) ?_|((apply ai.cO);(focus (simp -dsimp (disch:=first|exact D|fail) only [go_sem,↓reduceIte,seval,e1,ux];rfl));(focus (first|exact (qP _ _ h1))))))|((with_reducible refine bH.is ?_);(first|refine bH.intro (qP _ _ h1) ?_)))<;>simp -dsimp (disch:=first|exact D|fail) only [go_sem,↓reduceIte,seval,e1,ux])|((with_reducible refine hK _ ?_);clear hK K)|refine Q1 ?_|((with_reducible refine qW (T:=TT) (b:=?_) ?_ ?_);rotate_left;exact rfl)|((with_reducible refine yS ?_ ?_)<;>(intro h;try simp only [NM] at h)))
  simp -dsimp (disch:=first|exact D|fail) only [aR,Tryz.results67,aQ,aS,aO,St.rest,St.freeze,RT,go_sem,↓reduceIte,seval]
  simp [tD,e1,ap,cS,bj,bm]
 have e1:aY s.tables name=(j:Int):=by unfold aY;simpa using e1
 obtain ⟨b1,b2⟩:=h2 _ (bl hj)
 refine sS ah Tryz.func67 fun w0 m0 F0=>?_
 simp only [Tryz.ntmps67,bK,Nat.reduceAdd]
 repeat' (first|((first|with_reducible refine qV ah fun K hK=>?_|refine Q2 ?_|((with_reducible first|refine qS ?_ ?_|refine qT ?_ ?_|refine qU ?_ ?_)<;>(intro h;try simp only [NM] at h))|((with_reducible refine ai.is ?_);(first|refine ai.pure (qP _ _ h1) ?_|refine ai.pure (Da _ b1 b2) ?_|((apply ai.cO);(focus (simp -dsimp (disch:=first|exact D|fail) only [go_sem,↓reduceIte,seval,e1,rZ];rfl));(focus (first|exact (qP _ _ h1)|exact (Da _ b1 b2))))))|((with_reducible refine bH.is ?_);(first|refine bH.intro (qP _ _ h1) ?_|refine bH.intro (Da _ b1 b2) ?_)))<;>simp -dsimp (disch:=first|exact D|fail) only [go_sem,↓reduceIte,seval,e1,rZ])|((with_reducible refine hK _ ?_);clear hK K)|refine Q1 ?_|((with_reducible refine qW (T:=TT) (b:=?_) ?_ ?_);rotate_left;exact rfl)|((with_reducible refine yS ?_ ?_)<;>(intro h;try simp only [NM] at h)))
 ·have sp:tD s i name=(s.tables[j],[]):=by
   simp only [tD,e1,bG,bE _ hj]
   rw [if_neg (by omega),if_pos (by omega)]
  rw [sp]
  simp -dsimp (disch:=first|exact D|fail) only [aR,Tryz.results67,aQ,aS,aO,St.rest,St.freeze,RT,go_sem,↓reduceIte,seval]
  try simp [bm,ap,cS,bj]
 have hji:j<i.length:=by omega
 have sp:tD s i name=(s.tables[j],i[j].rows):=by
  simp only [tD,e1,bG,bE _ hj,bE _ hji]
  rw [if_neg (by omega),if_neg (by omega)]
 rw [sp]
 obtain ⟨b3,b4⟩:=h3 _ (bl hji)
 refine ab.Bc ah mixed 7 8 (by kernel_rfl) rfl rfl fun K hK=>?_
 simp -dsimp (disch:=first|exact D|fail) only [go_sem,↓reduceIte,seval]
 repeat' (first|((first|with_reducible refine qV ah fun K hK=>?_|refine Q2 ?_|((with_reducible first|refine qS ?_ ?_|refine qT ?_ ?_|refine qU ?_ ?_)<;>(intro h;try simp only [NM] at h))|((with_reducible refine ai.is ?_);(first|refine ai.pure (Dh _ b3 b4) ?_|((apply ai.cO);(focus (simp -dsimp (disch:=first|exact D|fail) only [go_sem,↓reduceIte,seval];rfl));(focus (first|exact (Dh _ b3 b4))))))|((with_reducible refine bH.is ?_);(first|refine bH.intro (Dh _ b3 b4) ?_)))<;>simp -dsimp (disch:=first|exact D|fail) only [go_sem,↓reduceIte,seval])|((with_reducible refine hK _ ?_);clear hK K)|refine Q1 ?_|((with_reducible refine qW (T:=TT) (b:=?_) ?_ ?_);rotate_left;exact rfl)|((with_reducible refine yS ?_ ?_)<;>(intro h;try simp only [NM] at h)))
 intro K hK
 simp -dsimp (disch:=first|exact D|fail) only [go_sem,↓reduceIte,seval]
 repeat' (first|((first|with_reducible refine qV ah fun K hK=>?_|refine Q2 ?_|((with_reducible first|refine qS ?_ ?_|refine qT ?_ ?_|refine qU ?_ ?_)<;>(intro h;try simp only [NM] at h)))<;>simp -dsimp (disch:=first|exact D|fail) only [go_sem,↓reduceIte,seval])|((with_reducible refine hK _ ?_);clear hK K)|refine Q1 ?_|((with_reducible refine qW (T:=TT) (b:=?_) ?_ ?_);rotate_left;exact rfl)|((with_reducible refine yS ?_ ?_)<;>(intro h;try simp only [NM] at h)))
 simp -dsimp (disch:=first|exact D|fail) only [aR,Tryz.results67,aQ,aS,aO,St.rest,St.freeze,RT,go_sem,↓reduceIte,seval]
def atKey (t:au) (key:Row) (r:Row):Bool:=decide (0≤pX (keyOf t.pk r) key)
def yv (t:au) (rows:List Row) (key:Row):Int:=idx (atKey t key) rows 0
def xP (t:au) (rows:List Row) (key:Row):Int:=if yv t rows key<0 then rows.length else yv t rows key
def te (t:au) (rows:List Row) (key:Row):Bool:=if yv t rows key<0 then false else pX (keyOf t.pk (rows.getD (yv t rows key).toNat [])) key==0
def xQ (t:au) (rows:List Row) (j:Nat) (x:Row):Option Int :=
 if xw t x≠0 then some (xw t x) else if j=0 then none else
 if pX (keyOf t.pk (rows.getD ((j:Int) - 1).toNat [])) (keyOf t.pk x)=0 then some 9 else if 0<pX (keyOf t.pk (rows.getD ((j:Int) - 1).toNat [])) (keyOf t.pk x) then some 6 else none
def xx (s:aq) (k:Nat) (r:Rel):Option Int :=
 if aw r.table (s.tables.getD k tL).name=false then some 3 else if 24<r.rows.length then some 2 else scan (xQ (s.tables.getD k tL) r.rows) r.rows 0
def sD (s:aq) (i:cZ):Int :=
 if i.length≠s.tables.length then 3 else match scan (xx s) i 0 with
  | some e=>e
  | none=>0
theorem Pt (i:cZ) (h1:i.length≤1099511627776) (h2:∀r∈i,r.rows.length≤1099511627776∧∀x∈r.rows,x.length≤1099511627776):db Tryz.prog 65 [.one (bp i)] [] [] (.v (.one (.ref 2 0 i.length))) [] [(2,⟨2,i.map aH,[]⟩)]:=by
 refine ZM [] [2] Tryz.func65 Tryz.ntmps65 fun w0 m0 F0=>?_
 refine rj Z0 Z0 ?_;repeat' (first|apply Zb|apply Zn|(apply Zm;intro h)|(apply Zk;intro K hK))
 refine ab.loop (ι:={k:Nat // k≤i.length}) (fun k=>⟨23,[(3,.v (.one (.ref 3 0 k.1))),(6,.v (.one (bp i))),(7,.v (oI i.length)),(8,.v (oI k.1))],[],[(3,⟨2,(i.take k.1).map aH,[]⟩)]⟩) (fun k=>i.length - k.1) ⟨0,bg _⟩ ?_ fun ⟨k,hkl⟩=>?_
 ·exact ZL Z0
 have hlen:(i.take k).length=k:=by simp;omega
 rcases cV k i.length with hc|hc
 ·obtain ⟨b1,b2⟩:=h2 i[k] (bl hc)
  refine pK (Z1 @hlen) Z0 ?_;repeat' (first|apply Zb|apply Zn|(apply Zm;intro h)|(apply Zk;intro K hK))
  refine ab.Bc ah mixed 8 8 (by kernel_rfl) rfl rfl fun K hK=>?_
  refine ZU (Z1 @hlen) ?_
  refine pK (Z1 @hlen) (Z1 (Dh i[k].rows b1 b2)) ?_;repeat' (first|apply Zb|apply Zn|(apply Zm;intro h)|(apply Zk;intro K hK))
  intro K hK
  refine ZU (Z1 @hlen) ?_
  refine pK (Z1 @hlen) Z0 ?_;repeat' (first|apply Zb|apply Zn|(apply Zm;intro h)|(apply Zk;intro K hK))
  refine ⟨⟨k+1,by omega⟩,by simp only;omega,?_⟩
  have e:=qd i k hc
  exact ZL (Z3 @e @aH.eq_1 @bm.eq_1)
 ·have hk:k=i.length:=by omega
  subst hk
  refine rj Z0 Z0 ?_;repeat' (first|apply Zb|apply Zn|(apply Zm;intro h)|(apply Zk;intro K hK))
  exact ZQ (Z1 Tryz.results65)
theorem Nt (s:aq) (h1:s.tables.length≤1048576) (h2:s.ak.length≤1048576) (h3:s.cons.length≤1048576) (h4:∀t∈s.tables,t.ae.length≤1048576∧t.pk.length≤1048576) (h5:∀f∈s.ak,f.ae.length≤1048576) :
  db Tryz.prog 34 [.agg (aC s)] [] [] (.v (.agg [.ref 24 0 s.tables.length,.ref 42 0 s.ak.length,.ref 10 0 s.cons.length])) [] [(24,⟨3,s.tables.map eh,[]⟩),(42,⟨3,s.ak.map pS,[]⟩),(10,⟨7,s.cons.map aK,[]⟩)]:=by
 refine sM ah [] [24,42,10] Tryz.func34 fun w0 m0 F0=>?_
 simp only [Tryz.ntmps34,bK,Nat.reduceAdd]
 repeat' (first|((first|((fail_if_success (refine ab.bC 2 ?_));(with_reducible refine qV ah fun K hK=>?_))|((with_reducible refine ai.is ?_);refine ai.io [] [] [] [(2,10)] [] [10] [] [10] (QE s.cons (by omega)) rfl ⟨rfl,rfl,rfl,rfl⟩ ?_ ?_ ?_))<;>simp -dsimp (disch:=first|exact D|fail) only [go_sem,↓reduceIte,seval,bh,bt,bu])|((with_reducible refine hK _ ?_);clear hK K)|refine Q1 ?_|fail)
 refine ab.BB 3 0 24 rfl rfl (.inl (by show 24<46;decide)) ?_
 simp -dsimp (disch:=first|exact D|fail) only [go_sem,↓reduceIte,seval,DL,tP,wZ]
 repeat' (first|((with_reducible refine qV ah fun K hK=>?_)<;>simp -dsimp (disch:=first|exact D|fail) only [go_sem,↓reduceIte,seval])|((with_reducible refine hK _ ?_);clear hK K)|refine Q1 ?_|fail)
 refine ab.loop (ι:={k:Nat // k≤s.tables.length}) (fun k=>⟨46,[(1,.v (.one (.ptr 1 0))),(2,.v (.one (.ptr 2 0))),(3,.v (.one (.ptr 3 0))),(13,.v (.one (.sl 3 (s.tables.map ap)))),(14,.v (oI s.tables.length)),(15,.v (oI k.1))],[(3,[.ref 24 0 k.1,.nil 3,.ref 10 0 s.cons.length]),(2,[.nil 3,.nil 3,.nil 7]),(1,aC s)],[(24,⟨3,(s.tables.take k.1).map eh,[]⟩),(10,⟨7,s.cons.map aK,[]⟩)]⟩) (fun k=>s.tables.length - k.1) ⟨0,bg _⟩ ?_ fun ⟨k,hkl⟩=>?_
 ·refine St.bN ?_ ?_ ?_<;>simp only [LE,EN,Nat.reduceEqDiff,reduceIte,Nat.reduceSub,aC,aI]
 simp only at hkl ⊢
 have hlen:(s.tables.take k).length=k:=by simp;omega
 rcases cV k s.tables.length with hc|hc
 ·have ht:=h4 s.tables[k] (bl hc)
  have es:=qd s.tables k hc
  repeat' (first|((((fail_if_success (refine ab.bC 5 ?_));(with_reducible refine qV ah fun K hK=>?_)))<;>simp -dsimp (disch:=first|exact D|fail) only [go_sem,↓reduceIte,seval])|((with_reducible refine hK _ ?_);clear hK K)|refine Q1 ?_|((with_reducible refine qW (T:=TT) (b:=?_) ?_ ?_);rotate_left;exact rfl)|fail)
  refine dX ah mixed [(0,3)] [(3,[],[(0,2)]),(4,[],[(0,2)]),(5,[(6,1)],[]),(7,[],[])] [3,4,5,7] 8 fun K hK=>?_
  simp only [SG,bb] at hK ⊢
  simp -dsimp (disch:=first|exact D|fail) only [go_sem,↓reduceIte,seval,hlen,av]
  repeat' (first|((first|((with_reducible refine ai.is ?_);refine ai.io [] [] [] [(7,22),(10,21)] [] [22,21] [] [22,21] (Wn s.tables[k] (by omega) (by omega)) rfl ⟨rfl,rfl,rfl,rfl⟩ ?_ ?_ ?_)|(with_reducible first|refine an.some fun K hK=>?_|refine an.step fun K hK=>?_))<;>simp -dsimp (disch:=first|exact D|fail) only [go_sem,↓reduceIte,seval,hlen,av,bh,bt,bu])|((with_reducible refine hK _ ?_);clear hK K)|(with_reducible refine an.intro fun K0 hK0=>?_)|((with_reducible refine an.fin ?_);(refine hK0 _ ?_);clear hK0 K0)|(with_reducible first|refine an.quiet ?_|refine an.none ?_)|((with_reducible refine an.keep ?_ ?_);focus ((simp -dsimp (disch:=first|exact D|fail) only [go_sem,↓reduceIte,seval,gE,gD,gF,gG,hlen,av,bh,bt,bu]);first|done|exact E|fail))|refine Q1 ?_|fail)
  refine ab.close 24 k 1 22 rfl rfl (by decide) (by simp [aP]) (by simp;omega) (by show 1<3;decide) rfl ?_
  simp -dsimp (disch:=first|exact D|fail) only [go_sem,↓reduceIte,seval,rG,rv,ru]
  refine ab.close 24 k 2 21 rfl rfl (by decide) (by simp [aP]) (by simp [Cu];omega) (by show 2<3;decide) rfl ?_
  simp -dsimp (disch:=first|exact D|fail) only [go_sem,↓reduceIte,seval,rG,rv,ru]
  rw [ze eh _ k hlen.symm,ze eh _ k hlen.symm]
  repeat' (first|((with_reducible refine qV ah fun K hK=>?_)<;>simp -dsimp (disch:=first|exact D|fail) only [go_sem,↓reduceIte,seval])|((with_reducible refine hK _ ?_);clear hK K)|refine Q1 ?_|fail)
  refine ⟨⟨k+1,by omega⟩,by simp only;omega,?_⟩
  refine St.bN ?_ ?_ ?_<;>simp only [LE,EN,Nat.reduceEqDiff,reduceIte,Nat.reduceSub,aC,es,eh,dn,aJ,aI,tP,wZ]
 ·have hk:k=s.tables.length:=by omega
  subst hk
  repeat' (first|((((fail_if_success (refine ab.bC 7 ?_));(with_reducible refine qV ah fun K hK=>?_)))<;>simp -dsimp (disch:=first|exact D|fail) only [go_sem,↓reduceIte,seval])|((with_reducible refine hK _ ?_);clear hK K)|refine Q1 ?_|((with_reducible refine qW (T:=TT) (b:=?_) ?_ ?_);rotate_left;exact rfl)|fail)
  refine ab.BB 3 1 42 rfl rfl (.inl (by show 42<46;decide)) ?_
  simp -dsimp (disch:=first|exact D|fail) only [go_sem,↓reduceIte,seval,DL,tP,wZ,dw]
  repeat' (first|((with_reducible refine qV ah fun K hK=>?_)<;>simp -dsimp (disch:=first|exact D|fail) only [go_sem,↓reduceIte,seval])|((with_reducible refine hK _ ?_);clear hK K)|refine Q1 ?_|fail)
  refine ab.loop (ι:={k:Nat // k≤s.ak.length}) (fun k=>⟨46,[(1,.v (.one (.ptr 1 0))),(2,.v (.one (.ptr 2 0))),(3,.v (.one (.ptr 3 0))),(28,.v (.one (.sl 3 (s.ak.map aL)))),(29,.v (oI s.ak.length)),(30,.v (oI k.1))],[(3,[.ref 24 0 s.tables.length,.ref 42 0 k.1,.ref 10 0 s.cons.length]),(2,[.nil 3,.nil 3,.nil 7]),(1,aC s)],[(42,⟨3,(s.ak.take k.1).map pS,[]⟩),(24,⟨3,s.tables.map eh,[]⟩),(10,⟨7,s.cons.map aK,[]⟩)]⟩) (fun k=>s.ak.length - k.1) ⟨0,bg _⟩ ?_ fun ⟨k,hkl⟩=>?_
  ·refine St.bN ?_ ?_ ?_<;>simp only [LE,EN,Nat.reduceEqDiff,reduceIte,Nat.reduceSub,aC,aI]
  simp only at hkl ⊢
  have hlen:(s.ak.take k).length=k:=by simp;omega
  rcases cV k s.ak.length with hc|hc
  ·have hf:=h5 s.ak[k] (bl hc)
   have es:=qd s.ak k hc
   repeat' (first|((first|((fail_if_success (refine ab.bC 12 ?_));(with_reducible refine qV ah fun K hK=>?_))|((with_reducible refine ai.is ?_);refine ai.io [] [] [] [(2,36)] [] [36] [] [36] (I9 s.ak[k].ae (by omega)) rfl ⟨rfl,rfl,rfl,rfl⟩ ?_ ?_ ?_))<;>simp -dsimp (disch:=first|exact D|fail) only [go_sem,↓reduceIte,seval,hlen,bh,bt,bu])|((with_reducible refine hK _ ?_);clear hK K)|refine Q1 ?_|((with_reducible refine qW (T:=TT) (b:=?_) ?_ ?_);rotate_left;exact rfl)|fail)
   refine ab.close 42 k 1 36 rfl rfl (by decide) (by simp [aP]) (by simp;omega) (by show 1<3;decide) rfl ?_
   simp -dsimp (disch:=first|exact D|fail) only [go_sem,↓reduceIte,seval,rG,rv,ru]
   rw [ze pS _ k hlen.symm]
   repeat' (first|((with_reducible refine qV ah fun K hK=>?_)<;>simp -dsimp (disch:=first|exact D|fail) only [go_sem,↓reduceIte,seval])|((with_reducible refine hK _ ?_);clear hK K)|refine Q1 ?_|fail)
   refine ⟨⟨k+1,by omega⟩,by simp only;omega,?_⟩
   refine St.bN ?_ ?_ ?_<;>simp only [LE,EN,Nat.reduceEqDiff,reduceIte,Nat.reduceSub,aC,es,pS,dn,aJ,aI,tP,wZ]
  ·have hk:k=s.ak.length:=by omega
   subst hk
   repeat' (first|((with_reducible refine qV ah fun K hK=>?_)<;>simp -dsimp (disch:=first|exact D|fail) only [go_sem,↓reduceIte,seval])|((with_reducible refine hK _ ?_);clear hK K)|refine Q1 ?_|((with_reducible refine qW (T:=TT) (b:=?_) ?_ ?_);rotate_left;exact rfl)|fail)
   simp -dsimp (disch:=first|exact D|fail) only [aR,Tryz.results34,aQ,aS,aO,St.rest,St.freeze,RT,go_sem,↓reduceIte,seval]
   all_goals rw [dw]
theorem QA (r:Row) (v:fM) (h1:r.length≤1048576) :
  db Tryz.prog 162 [.one (.ref 1000 0 r.length),oI r.length,.one (.ref 1001 0 1)] [] [(1000,⟨3,r.map bd,[]⟩),(1001,⟨3,[bd v],[]⟩)] (.v (.one (.ref 6 0 (r.length+1)))) [] [(6,⟨3,(r++[v]).map bd,[]⟩)]:=by
 have c1:((1:Nat):Int)=1:=rfl
 refine ZM [] [6] Tryz.func162 Tryz.ntmps162 fun w0 m0 F0=>?_
 refine ZV (Z1 @c1) Z0 (Z1 (Zs 7)) Z0 ?_;repeat' (first|apply Zb|apply Zn|(apply Zk;intro K hK)|(apply Zx;intro K0 hK0))
 refine ab.Mq ah fun K0 hK0=>?_
 refine tE.step fun K hK=>?_
 refine ZU Z0 ?_
 refine ZW Z0 Z0 ?_;repeat' (first|apply Zb|apply Zn|(apply Zk;intro K hK)|(apply Zx;intro K0 hK0))
 refine tE.step fun K hK=>?_
 refine ZU Z0 ?_
 refine ZW Z0 Z0 ?_;repeat' (first|apply Zb|apply Zn|(apply Zk;intro K hK)|(apply Zx;intro K0 hK0))
 refine tE.DI (ya.TB ah (ops:=#[]) Tryz.underlying54 Tryz.underlying53 fun K hK=>?_)
 refine ZU Z0 ?_
 refine ZW Z0 Z0 ?_;repeat' (first|apply Zb|apply Zn|(apply Zk;intro K hK)|(apply Zx;intro K0 hK0))
 refine tE.step fun K hK=>?_
 refine ZU Z0 ?_
 refine ZW Z0 Z0 ?_;repeat' (first|apply Zb|apply Zn|(apply Zk;intro K hK)|(apply Zx;intro K0 hK0))
 refine tE.fin (hK0 _ ?_)
 try clear hK0 K0
 refine ZW Z0 Z0 ?_;repeat' (first|apply Zb|apply Zn|(apply Zk;intro K hK)|(apply Zx;intro K0 hK0))
 refine ZR (Z1 Tryz.results162) ?_
 simp [bd]
def mB (st:aG) (fwd:Bool) (a b c:aq) (aU comp:cZ) (no nn:Nat) (err:Int):List L:=aj st++([.bool fwd]++aC a++aC b++aC c++[bp aU,bp comp,.ref 1001 0 no,.ref 1002 0 nn,.int .i64 err])
def qu (o:cZ) (n:ByteArray) (rows:List Row):cZ:=o.map fun r=>if aw r.table n then ⟨r.table,rows⟩ else r
def setAt (o:cZ) (n:ByteArray) (rows:List Row) (k:Nat):cZ:=qu (o.take k) n rows++o.drop k
theorem IU (o:cZ) (n:ByteArray) (rows:List Row) (k:Nat) (hk:k≤o.length):(setAt o n rows k).length=o.length:=by unfold setAt qu;simp;omega
theorem NH (o:cZ) (n:ByteArray) (rows:List Row) (k:Nat) (hk:k<o.length):((setAt o n rows k).map aH).getD k []=[.str o[k].table,bm o[k].rows]:=by
 have hl:=IU o n rows k (by omega)
 rw [bJ _ _ _ (by omega)]
 unfold setAt qu
 rw [CN (by simp;omega)]
 simp [aH,show min k o.length=k by omega]
theorem NI (o:cZ) (n:ByteArray) (rows:List Row) (k:Nat) (hk:k<o.length):setAt o n rows (k+1)=qu (o.take k) n rows++(if aw o[k].table n then ⟨o[k].table,rows⟩ else o[k])::o.drop (k+1):=by
 unfold setAt qu
 rw [qd o k hk,dn]
 simp
theorem NJ (o:cZ) (n:ByteArray) (rows:List Row) (k:Nat) (hk:k<o.length) (h:aw o[k].table n=false):setAt o n rows (k+1)=setAt o n rows k:=by
 rw [NI o n rows k hk,h]
 unfold setAt
 rw [uV hk]
 rfl
end Go.Bw
